import Derived.Test.YtpcnkpbpcebokaaGreatDoorBT
import Derived.Test.YtpcnkpbpcebokaaGreatDoorB0
import Derived.Test.YtpcnkpbpcebokaaGreatDoorBS
import Derived.Test.YtpcnkpbpcebokaaGreatDoorLQ
import Derived.Test.YtpcnkpbpcebokaaGreatDoorLR
import Derived.Test.YtpcnkpbpcebokaaGreatDoorBA
import Derived.Test.YtpcnkpbpcebokaaGreatDoorBC
set_option linter.all false
section
set_option maxRecDepth 1000000
namespace Go.Tw
open Go.Vx Go.Vx.B Go.Proofs
noncomputable section
abbrev yTU:Ty:=.pair t33 .unit
abbrev ya5:Ty:=.pair t28 .unit
def yb4:G:={ T:=T,E:=[zL_e,z1N_e,z0q_e,zF_e,z03_e,z19_e,z0m_e],muts:=[],fz:=[] }
def ych:List (List Nat):=[]
def yOk(n:Nat):Ann:={ keep:=ych,fuel:=n,inl:=[],deep:=0 }
def yUi(n:Nat)(t:Q2):Option (Int×Unit) :=
  (Option.bind (zL_M t.1) λ v0=>(Option.bind (zF_M t.2.1 λ (x:(Q4)×Unit)=>yS8 x.1) λ v1=>(Option.bind (y2K v1.1) λ v2=>(Option.bind (y2K [v0.1,(z1N ((↑t.2.1.length:Int) != (↑t.1.length:Int)) (2:Int)).1,(z0q t.2.2.1 (1:Int) (268435456:Int)).1,v2.1]) λ v3=>(bif v3.1 != 0 then some (v3.1,())else (Option.bind (yD1 t.2.1 t.2.2.1) λ v4=>some ((z1N (v4.1 != 1) (1:Int)).1,())))))))
theorem yYh(n:Nat)(x:yTU.den):runF yb4 (yOk n) Tryz.f28 yTU ya5 x=yUi n x.1:=by kernel_rfl
def yEv(t:Q2):Option (Int×Unit):=yUi 0 t
theorem ySG(t:Q2)(y:Int×Unit)(h:yEv t=some y):∃ n,yUi n t=some y:=⟨0,h⟩
def z02_e:Entry:={ f:=28,args:=yTU,ress:=ya5,m:=λ x=>yEv x.1 }
theorem yGb:FnOK Tryz.prog z02_e:=yJ (g:=yb4) (fn:=Tryz.f28) yC yI (yA yaW (yA y6M (yA yD7 (yA yXK (yA yc0 (yA y4X (yA yPq eNil))))))) (by kernel_rfl) (by kernel_rfl) (by kernel_rfl) (λ x y h=>let ⟨n,hn⟩:=ySG x.1 y h;⟨yOk n,iNil,(yYh n x).trans hn⟩)
abbrev yU2:Ty:=.pair t3 .unit
abbrev yVk:Ty:=.pair t69 (.pair t28 .unit)
def yYf:G:={ T:=T,E:=[z0q_e,z1B_e],muts:=[],fz:=[] }
def ycu:List (List Nat):=[]
def yOy(n:Nat):Ann:={ keep:=ycu,fuel:=n,inl:=[],deep:=0 }
def yRF(n:Nat)(year:Int):Option ((Q4)×Int×Unit) :=
  (bif (z0q year (0:Int) (9999:Int)).1 != 0 then some (((0:Int),(0:Int),()),(z0q year (0:Int) (9999:Int)).1,())else (Option.bind (yRp year) λ v0=>some ((v0.1.1,v0.1.2.1,()),(0:Int),())))
theorem yWa(n:Nat)(x:yU2.den):runF yYf (yOy n) Tryz.f41 yU2 yVk x=yRF n x.1:=by kernel_rfl
def yQe(year:Int):Option ((Q4)×Int×Unit):=yRF 0 year
theorem yUn(year:Int)(y:(Q4)×Int×Unit)(h:yQe year=some y):∃ n,yRF n year=some y:=⟨0,h⟩
def z16_e:Entry:={ f:=41,args:=yU2,ress:=yVk,m:=λ x=>yQe x.1 }
theorem yac:FnOK Tryz.prog z16_e:=yJ (g:=yYf) (fn:=Tryz.f41) yC yI (yA yD7 (yA yVo eNil)) (by kernel_rfl) (by kernel_rfl) (by kernel_rfl) (λ x y h=>let ⟨n,hn⟩:=yUn x.1 y h;⟨yOy n,iNil,(yWa n x).trans hn⟩)
abbrev zY_a:Ty:=.pair t94 (.pair t22 .unit)
abbrev zY_r:Ty:=.pair t3 .unit
def zY_g:G:={ T:=T,E:=[z0K_e,z1I_e],muts:=[],fz:=[] }
def zY_k:List (List Nat):=[]
def yVO(n:Nat):Ann:={ keep:=zY_k,fuel:=n,inl:=[],deep:=0 }
def zY_m(n:Nat)(rp:Q1)(l:List (Q3)):Option (Int×Unit) :=
  (Option.bind (yA6 rp l) λ v0=>(Option.bind (y05 (8:Nat) (v0.1,())) λ v1=>some (v1.1.1,())))
theorem ydW(n:Nat)(x:zY_a.den):runF zY_g (yVO n) Tryz.f61 zY_a zY_r x=zY_m n x.1 x.2.1:=by kernel_rfl
def zY_M(rp:Q1)(l:List (Q3)):Option (Int×Unit):=zY_m 0 rp l
theorem yYe(rp:Q1)(l:List (Q3))(y:Int×Unit)(h:zY_M rp l=some y):∃ n,zY_m n rp l=some y:=⟨0,h⟩
def zY_e:Entry:={ f:=61,args:=zY_a,ress:=zY_r,m:=λ x=>zY_M x.1 x.2.1 }
theorem yVP:FnOK Tryz.prog zY_e:=yJ (g:=zY_g) (fn:=Tryz.f61) yC yI (yA yQ0 (yA yPW eNil)) (by kernel_rfl) (by kernel_rfl) (by kernel_rfl) (λ x y h=>let ⟨n,hn⟩:=yYe x.1 x.2.1 y h;⟨yVO n,iNil,(ydW n x).trans hn⟩)
abbrev zW_a:Ty:=.pair t94 .unit
abbrev zW_r:Ty:=.pair t3 .unit
def zW_g:G:={ T:=T,E:=[zn_e,ze_e,z0a_e,zd_e,zf_e,z1H_e],muts:=[],fz:=[] }
def zW_k:List (List Nat):=[[1,4],[1,7],[1,8]]
def ybT(n:Nat):Ann:={ keep:=zW_k,fuel:=n,inl:=[],deep:=0 }
def yLO(n:Nat)(r8:Q1->Int->Option (Int×Unit))(cK:Q1)(eG:Int):Option (Int×Unit) :=
  (bif decide (eG < (↑cK.2.2.1.length:Int))then (Option.bind (idx cK.2.2.1 eG) λ v9=>(bif yw Go.BinOp.neq Go.FloatKind.f32 v9 (nat_lit 0)then (Option.bind (yBS cK.2.2.2.1 eG) λ v10=>(bif v10.1 then some ((1:Int),())else r8 cK (IntKind.i64.wrap (eG+1))))else r8 cK (IntKind.i64.wrap (eG+1))))else some ((0:Int),()))
def yAl(n:Nat)(k:Nat)(cK:Q1)(eG:Int):Option (Int×Unit) :=
  iter (λ r y=>yLO n (λ cK eG=>r ((cK,(eG,())),((),()))) y.1.1 y.1.2.1) k ((cK,(eG,())),((),()))
def yKJ(n:Nat)(r6:Q1->Int->Option (Int×Unit))(cd:Q1)(fk:Int):Option (Int×Unit) :=
  (bif decide (fk < (↑cd.2.2.2.1.length:Int))then (Option.bind (idx cd.2.2.2.1 fk) λ v7=>(bif decide (v7.2.1 > (↑cd.2.2.1.length:Int))then some ((14:Int),())else r6 cd (IntKind.i64.wrap (fk+1))))else (yAl n n (cd) ((0:Int))))
def yAS(n:Nat)(k:Nat)(cd:Q1)(fk:Int):Option (Int×Unit) :=
  iter (λ r y=>yKJ n (λ cd fk=>r ((cd,(fk,())),((),()))) y.1.1 y.1.2.1) k ((cd,(fk,())),((),()))
def yJQ(n:Nat)(r2:Q1->Int->Option (Int×Unit))(ce:Q1)(fm:Int):Option (Int×Unit) :=
  (bif decide (fm < (↑ce.2.2.1.length:Int))then (Option.bind (idx ce.2.2.1 fm) λ v3=>(Option.bind (zd_M v3) λ v4=>(bif v4.1 != 0 then some (v4.1,())else r2 ce (IntKind.i64.wrap (fm+1)))))else (Option.bind (zf_M ce.2.2.2.1) λ v5=>(bif v5.1 != 0 then some (v5.1,())else (yAS n n (ce) ((0:Int))))))
def yA0(n:Nat)(k:Nat)(ce:Q1)(fm:Int):Option (Int×Unit) :=
  iter (λ r y=>yJQ n (λ ce fm=>r ((ce,(fm,())),((),()))) y.1.1 y.1.2.1) k ((ce,(fm,())),((),()))
def zW_m(n:Nat)(rp:Q1):Option (Int×Unit) :=
  (Option.bind (zn_M rp.1) λ v0=>(Option.bind (y8e [v0.1,(ze rp.2.1 (0:Int) (100000:Int)).1]) λ v1=>(bif v1.1 != 0 then some (v1.1,())else (bif decide ((↑rp.2.2.1.length:Int) > 4096)then some ((5:Int),())else (yA0 n n (rp) ((0:Int)))))))
theorem ydP(n:Nat)(x:zW_a.den):runF zW_g (ybT n) Tryz.f86 zW_a zW_r x=zW_m n x.1:=by kernel_rfl
def yI1(cK:Q1)(eG:Int)(v9:Nat):Option ((Int×Unit)⊕Unit) :=
  (bif yw Go.BinOp.neq Go.FloatKind.f32 v9 (nat_lit 0)then (Option.bind (yBS cK.2.2.2.1 eG) λ v10=>(bif v10.1 then (some (Sum.inl (((1:Int),()))))else (some (Sum.inr ()))))else (some (Sum.inr ())))
def yNe(cK:Q1):Option (Int×Unit) :=
  (some (((0:Int),())))
theorem yHH(n:Nat)(hn:big<=n)(cK:Q1)(hx:List.length (cK.2.2.1) < lenMax):LeF some (yM (λ ar dB a7=>yI1 cK ar dB) (λ a7=>yNe cK) 0 (cK.2.2.1) ()) (yAl n n cK 0):=by
  refine yQ (f:=some) (W:=λ ci ar a7=>yAl n ci cK ar) (body:=(λ ar dB a7=>yI1 cK ar dB)) (fin:=(λ a7=>yNe cK)) (λ ci ar a7=>?_) hx () n (by unfold big at hn;unfold lenMax at hx;omega)
  show LeF _ _ (yLO n (yAl n ci) cK ar)
  exact y6 (y8 λ v9=>(y6 (y8 λ v10=>(y6 (y7 rfl) (y7 rfl))) (y7 rfl))) (yr (y7 rfl))
def yNf(cd:Q1)(fk:Int)(v7:Q4):Option ((Int×Unit)⊕Unit) :=
  (bif decide (v7.2.1 > (↑cd.2.2.1.length:Int))then (some (Sum.inl (((14:Int),()))))else (some (Sum.inr ())))
def yMk(cd:Q1):Option (Int×Unit) :=
  (bif decide (List.length (cd.2.2.1) < lenMax)then yM (λ ar dB a7=>yI1 (cd) ar dB) (λ a7=>yNe (cd)) 0 (cd.2.2.1) ()else none)
theorem yIZ(n:Nat)(hn:big<=n)(cd:Q1)(hx:List.length (cd.2.2.2.1) < lenMax):LeF some (yM (λ ar dB a7=>yNf cd ar dB) (λ a7=>yMk cd) 0 (cd.2.2.2.1) ()) (yAS n n cd 0):=by
  refine yQ (f:=some) (W:=λ ci ar a7=>yAS n ci cd ar) (body:=(λ ar dB a7=>yNf cd ar dB)) (fin:=(λ a7=>yMk cd)) (λ ci ar a7=>?_) hx () n (by unfold big at hn;unfold lenMax at hx;omega)
  show LeF _ _ (yKJ n (yAS n ci) cd ar)
  exact y6 (y8 λ v7=>(y6 (y7 rfl) (y7 rfl))) (yr (yN λ hx=>by apply yHH n hn;exact hx))
def yNv(ce:Q1)(fm:Int)(v3:Nat):Option ((Int×Unit)⊕Unit) :=
  (Option.bind (zd_M v3) λ v4=>(bif v4.1 != 0 then (some (Sum.inl ((v4.1,()))))else (some (Sum.inr ()))))
def yLu(ce:Q1):Option (Int×Unit) :=
  (Option.bind (zf_M ce.2.2.2.1) λ v5=>(bif v5.1 != 0 then (some ((v5.1,())))else (bif decide (List.length (ce.2.2.2.1) < lenMax)then yM (λ ar dB a7=>yNf (ce) ar dB) (λ a7=>yMk (ce)) 0 (ce.2.2.2.1) ()else none)))
theorem yIE(n:Nat)(hn:big<=n)(ce:Q1)(hx:List.length (ce.2.2.1) < lenMax):LeF some (yM (λ ar dB a7=>yNv ce ar dB) (λ a7=>yLu ce) 0 (ce.2.2.1) ()) (yA0 n n ce 0):=by
  refine yQ (f:=some) (W:=λ ci ar a7=>yA0 n ci ce ar) (body:=(λ ar dB a7=>yNv ce ar dB)) (fin:=(λ a7=>yLu ce)) (λ ci ar a7=>?_) hx () n (by unfold big at hn;unfold lenMax at hx;omega)
  show LeF _ _ (yJQ n (yA0 n ci) ce ar)
  exact y6 (y8 λ v3=>(y8 λ v4=>(y6 (y7 rfl) (y7 rfl)))) (yr (y8 λ v5=>(y6 (y7 rfl) (yN λ hx=>by apply yIZ n hn;exact hx))))
def zW_M(rp:Q1):Option (Int×Unit) :=
  (Option.bind (zn_M rp.1) λ v0=>(Option.bind (y8e [v0.1,(ze rp.2.1 (0:Int) (100000:Int)).1]) λ v1=>(bif v1.1 != 0 then (some ((v1.1,())))else (bif decide ((↑rp.2.2.1.length:Int) > 4096)then (some (((5:Int),())))else (bif decide (List.length (rp.2.2.1) < lenMax)then yM (λ ar dB a7=>yNv (rp) ar dB) (λ a7=>yLu (rp)) 0 (rp.2.2.1) ()else none)))))
theorem ycF(rp:Q1)(y:Int×Unit)(h:zW_M rp=some y):∃ n,zW_m n rp=some y :=
  ⟨big,LeF.top (show LeF some (zW_M rp) (zW_m big rp)from (λ (n:Nat) (hn:big<=n)=>show LeF some (zW_M rp) (zW_m n rp)from (y8 λ v0=>(y8 λ v1=>(y6 (y7 rfl) (y6 (y7 rfl) (yN λ hx=>by apply yIE n hn;exact hx)))))) big (Nat.le_refl _)) h⟩
def zW_e:Entry:={ f:=86,args:=zW_a,ress:=zW_r,m:=λ x=>zW_M x.1 }
theorem yeL:FnOK Tryz.prog zW_e:=yJ (g:=zW_g) (fn:=Tryz.f86) yC yI (yA yWi (yA ycE (yA yKy (yA yet (yA yeJ (yA yP1 eNil)))))) (by kernel_rfl) (by kernel_rfl) (by kernel_rfl) (λ x y h=>let ⟨n,hn⟩:=ycF x.1 y h;⟨ybT n,iNil,(ydP n x).trans hn⟩)
abbrev yUM:Ty:=.pair t60 (.pair t31 .unit)
abbrev yYE:Ty:=.pair t183 .unit
def yYx:G:={ T:=T,E:=[z0E_e,z8_e],muts:=[],fz:=[] }
def ydF:List (List Nat):=[]
def yPd(n:Nat):Ann:={ keep:=ydF,fuel:=n,inl:=[],deep:=0 }
def yOc(n:Nat)(rp:Q1)(l:List (Q3)):Option (List (List (Q4))×Unit) :=
  (Option.bind (z8_M l λ (x:(Q3)×Unit)=>yHC x.1 l rp) λ v0=>some (v0.1,()))
theorem yYa(n:Nat)(x:yUM.den):runF yYx (yPd n) Tryz.f122 yUM yYE x=yOc n x.1 x.2.1:=by kernel_rfl
def y90(rp:Q1)(l:List (Q3)):Option (List (List (Q4))×Unit):=yOc 0 rp l
theorem yRt(rp:Q1)(l:List (Q3))(y:List (List (Q4))×Unit)(h:y90 rp l=some y):∃ n,yOc n rp l=some y:=⟨0,h⟩
def z0n_e:Entry:={ f:=122,args:=yUM,ress:=yYE,m:=λ x=>y90 x.1 x.2.1 }
theorem yCl:FnOK Tryz.prog z0n_e:=yJ (g:=yYx) (fn:=Tryz.f122) yC yI (yA ybc (yA yfG eNil)) (by kernel_rfl) (by kernel_rfl) (by kernel_rfl) (λ x y h=>let ⟨n,hn⟩:=yRt x.1 x.2.1 y h;⟨yPd n,iNil,(yYa n x).trans hn⟩)
abbrev zk_a:Ty:=.pair t60 .unit
abbrev zk_r:Ty:=.pair t28 .unit
def zk_g:G:={ T:=T,E:=[zU_e,z1E_e,z1N_e],muts:=[],fz:=[] }
def zk_k:List (List Nat):=[]
def yXf(n:Nat):Ann:={ keep:=zk_k,fuel:=n,inl:=[],deep:=0 }
def zk_m(n:Nat)(rp:Q1):Option (Int×Unit) :=
  (Option.bind (zU_M rp) λ v0=>(bif v0.1 != 0 then some (v0.1,())else (Option.bind (yBq rp) λ v1=>some ((z1N (decide ((↑v1.1.length:Int) > 128)) (5:Int)).1,()))))
theorem ydd(n:Nat)(x:zk_a.den):runF zk_g (yXf n) Tryz.f128 zk_a zk_r x=zk_m n x.1:=by kernel_rfl
def zk_M(rp:Q1):Option (Int×Unit):=zk_m 0 rp
theorem yWl(rp:Q1)(y:Int×Unit)(h:zk_M rp=some y):∃ n,zk_m n rp=some y:=⟨0,h⟩
def zk_e:Entry:={ f:=128,args:=zk_a,ress:=zk_r,m:=λ x=>zk_M x.1 }
theorem yX3:FnOK Tryz.prog zk_e:=yJ (g:=zk_g) (fn:=Tryz.f128) yC yI (yA yfF (yA yPA (yA y6M eNil))) (by kernel_rfl) (by kernel_rfl) (by kernel_rfl) (λ x y h=>let ⟨n,hn⟩:=yWl x.1 y h;⟨yXf n,iNil,(ydd n x).trans hn⟩)
abbrev yRD:Ty:=.pair t94 (.pair t22 .unit)
abbrev yXt:Ty:=.pair t23 (.pair t23 .unit)
def yaC:G:={ T:=T,E:=[z0e_e,zq_e,zp_e,z00_e,z0b_e,z10_e,z0K_e,z01_e,z1I_e],muts:=[7,8],fz:=[] }
def ye7:List (List Nat):=[[1,2,6,7,8,9],[1,2,6,7,8,9,10,11],[1,7,8,12,13,1000007]]
def yPi(n:Nat):Ann:={ keep:=ye7,fuel:=n,inl:=[],deep:=0 }
def yGF(n:Nat)(r1:List (Q3)->Q1->List Int->Int->List (Q4)->List (Q4)->Option (List (Q4)×List (Q4)×Unit))(r2:List (Q3)->Q1->List Int->Int->Int->List (Q4)->List (Q4)->Int->Int->Option (List (Q4)×List (Q4)×Unit))(bB:List (Q3))(bM:Q1)(a8:List Int)(cO:Int)(dC:Int)(aE:List (Q4))(dt:List (Q4))(aa:Int)(bC:Int):Option (List (Q4)×List (Q4)×Unit) :=
  (bif decide (dC < (↑a8.length:Int))then (Option.bind (idx bB cO) λ v3=>(Option.bind (idx a8 dC) λ v4=>(Option.bind (zq_M v3 v4) λ v5=>(Option.bind (idx a8 dC) λ v6=>(Option.bind (y8w bM v6) λ v7=>r2 bB bM a8 cO (IntKind.i64.wrap (dC+1)) aE dt (z10 (aa,bC,()) (z0b (zp v5.1).1 (v7.1,(0:Int),())).1).1.1 (z10 (aa,bC,()) (z0b (zp v5.1).1 (v7.1,(0:Int),())).1).1.2.1)))))else (bif decide (aE.length+(1:Nat)<=memMax)then r1 bB bM a8 (IntKind.i64.wrap (cO+1)) (aE++[(aa,bC,())]) dt else none))
def y76(n:Nat)(r1:List (Q3)->Q1->List Int->Int->List (Q4)->List (Q4)->Option (List (Q4)×List (Q4)×Unit))(k:Nat)(bB:List (Q3))(bM:Q1)(a8:List Int)(cO:Int)(dC:Int)(aE:List (Q4))(dt:List (Q4))(aa:Int)(bC:Int):Option (List (Q4)×List (Q4)×Unit) :=
  iter (λ r y=>yGF n r1 (λ bB bM a8 cO dC aE dt aa bC=>r ((bB,(bM,(a8,(cO,(dC,()))))),((aE,(dt,((aa,(bC,())),()))),()))) y.1.1 y.1.2.1 y.1.2.2.1 y.1.2.2.2.1 y.1.2.2.2.2.1 y.2.1.1 y.2.1.2.1 y.2.1.2.2.1.1 y.2.1.2.2.1.2.1) k ((bB,(bM,(a8,(cO,(dC,()))))),((aE,(dt,((aa,(bC,())),()))),()))
def yH6(n:Nat)(r9:List (Q3)->List (Q4)->List (List (Q4))->Int->List (Q4)->Option (List (Q4)×List (Q4)×Unit))(du:List (Q3))(cS:List (Q4))(cf:List (List (Q4)))(ee:Int)(dK:List (Q4)):Option (List (Q4)×List (Q4)×Unit) :=
  (bif decide (ee < (↑du.length:Int))then (Option.bind (yBe cf ee cS) λ v10=>(Option.bind (y05 (8:Nat) (v10.1,())) λ v11=>(bif decide (dK.length+(1:Nat)<=memMax)then r9 du cS cf (IntKind.i64.wrap (ee+1)) (dK++[v11.1])else none)))else some (dK,cS,()))
def y6x(n:Nat)(k:Nat)(du:List (Q3))(cS:List (Q4))(cf:List (List (Q4)))(ee:Int)(dK:List (Q4)):Option (List (Q4)×List (Q4)×Unit) :=
  iter (λ r y=>yH6 n (λ du cS cf ee dK=>r ((du,(cS,(cf,(ee,())))),((dK,()),()))) y.1.1 y.1.2.1 y.1.2.2.1 y.1.2.2.2.1 y.2.1.1) k ((du,(cS,(cf,(ee,())))),((dK,()),()))
def yF4(n:Nat)(r1:List (Q3)->Q1->List Int->Int->List (Q4)->List (Q4)->Option (List (Q4)×List (Q4)×Unit))(bZ:List (Q3))(bA:Q1)(au:List Int)(fg:Int)(cB:List (Q4))(cT:List (Q4)):Option (List (Q4)×List (Q4)×Unit) :=
  (bif decide (fg < (↑bZ.length:Int))then (y76 n r1 n (bZ) (bA) (au) (fg) ((0:Int)) (cB) (cT) ((0:Int)) ((0:Int)))else (Option.bind (yA6 bA bZ) λ v8=>(y6x n n (bZ) (cB) (v8.1) ((0:Int)) (cT))))
def y70(n:Nat)(k:Nat)(bZ:List (Q3))(bA:Q1)(au:List Int)(fg:Int)(cB:List (Q4))(cT:List (Q4)):Option (List (Q4)×List (Q4)×Unit) :=
  iter (λ r y=>yF4 n (λ bZ bA au fg cB cT=>r ((bZ,(bA,(au,(fg,())))),((cB,(cT,())),()))) y.1.1 y.1.2.1 y.1.2.2.1 y.1.2.2.2.1 y.2.1.1 y.2.1.2.1) k ((bZ,(bA,(au,(fg,())))),((cB,(cT,())),()))
def yMT(n:Nat)(rp:Q1)(l:List (Q3)):Option (List (Q4)×List (Q4)×Unit) :=
  (Option.bind (y5w rp) λ v0=>(y70 n n (l) (rp) (v0.1) ((0:Int)) ([]) ([])))
theorem yXG(n:Nat)(x:yRD.den):runF yaC (yPi n) Tryz.f152 yRD yXt x=yMT n x.1 x.2.1:=by kernel_rfl
def yBi(bB:List (Q3))(bM:Q1)(a8:List Int)(cO:Int)(aE:List (Q4))(dt:List (Q4))(dC:Int)(aa:Int)(bC:Int):Option (((List (Q4)×List (Q4)×Unit)⊕(List (Q4)))⊕(Int×Int)) :=
  (Option.bind (idx bB cO) λ v3=>(Option.bind (idx a8 dC) λ v4=>(Option.bind (zq_M v3 v4) λ v5=>(Option.bind (idx a8 dC) λ v6=>(Option.bind (y8w bM v6) λ v7=>(some (Sum.inr (((z10 (aa,bC,()) (z0b (zp v5.1).1 (v7.1,(0:Int),())).1).1.1),((z10 (aa,bC,()) (z0b (zp v5.1).1 (v7.1,(0:Int),())).1).1.2.1)))))))))
def yCP(bB:List (Q3))(bM:Q1)(a8:List Int)(cO:Int)(aE:List (Q4))(dt:List (Q4))(aa:Int)(bC:Int):Option ((List (Q4)×List (Q4)×Unit)⊕(List (Q4))) :=
  (bif decide (aE.length+(1:Nat)<=memMax)then (some (Sum.inr (aE++[(aa,bC,())])))else none)
theorem yEi(n:Nat)(hn:big<=n)(r1:List (Q3)->Q1->List Int->Int->List (Q4)->List (Q4)->Option (List (Q4)×List (Q4)×Unit))(bB:List (Q3))(bM:Q1)(a8:List Int)(cO:Int)(aE:List (Q4))(dt:List (Q4))(aa:Int)(bC:Int)(hx:((↑a8.length:Int))<=9223372036854775807):LeF (elim some λ (a7:(List (Q4)))=>r1 bB bM a8 (IntKind.i64.wrap (cO+1)) a7 dt) (y0I (λ ar a7=>yBi bB bM a8 cO aE dt ar a7.1 a7.2) (λ a7=>yCP bB bM a8 cO aE dt a7.1 a7.2) (((↑a8.length:Int)) - 0).toNat 0 (aa,bC)) (y76 n r1 n bB bM a8 cO 0 aE dt aa bC):=by
  refine y0c (f:=(elim some λ (a7:(List (Q4)))=>r1 bB bM a8 (IntKind.i64.wrap (cO+1)) a7 dt)) (W:=λ ci ar a7=>y76 n r1 ci bB bM a8 cO ar aE dt a7.1 a7.2) (body:=(λ ar a7=>yBi bB bM a8 cO aE dt ar a7.1 a7.2)) (fin:=(λ a7=>yCP bB bM a8 cO aE dt a7.1 a7.2)) (λ ci ar a7=>?_) hx (aa,bC) n 0 (by decide) (by unfold big at hn;omega)
  show LeF _ _ (yGF n r1 (y76 n r1 ci) bB bM a8 cO ar aE dt a7.1 a7.2)
  exact y6 (y8 λ v3=>(y8 λ v4=>(y8 λ v5=>(y8 λ v6=>(y8 λ v7=>(y7 rfl)))))) (yr (y6 (y7 rfl) yq))
def yGP(du:List (Q3))(cS:List (Q4))(cf:List (List (Q4)))(ee:Int)(dK:List (Q4)):Option ((List (Q4)×List (Q4)×Unit)⊕(List (Q4))) :=
  (Option.bind (yBe cf ee cS) λ v10=>(Option.bind (y05 (8:Nat) (v10.1,())) λ v11=>(bif decide (dK.length+(1:Nat)<=memMax)then (some (Sum.inr (dK++[v11.1])))else none)))
def yH1(du:List (Q3))(cS:List (Q4))(cf:List (List (Q4)))(dK:List (Q4)):Option (List (Q4)×List (Q4)×Unit) :=
  (some ((dK,cS,())))
theorem yDd(n:Nat)(hn:big<=n)(du:List (Q3))(cS:List (Q4))(cf:List (List (Q4)))(dK:List (Q4))(hx:((↑du.length:Int))<=9223372036854775807):LeF some (y0I (λ ar a7=>yGP du cS cf ar a7) (λ a7=>yH1 du cS cf a7) (((↑du.length:Int)) - 0).toNat 0 dK) (y6x n n du cS cf 0 dK):=by
  refine y0c (f:=some) (W:=λ ci ar a7=>y6x n ci du cS cf ar a7) (body:=(λ ar a7=>yGP du cS cf ar a7)) (fin:=(λ a7=>yH1 du cS cf a7)) (λ ci ar a7=>?_) hx dK n 0 (by decide) (by unfold big at hn;omega)
  show LeF _ _ (yH6 n (y6x n ci) du cS cf ar a7)
  exact y6 (y8 λ v10=>(y8 λ v11=>(y6 (y7 rfl) yq))) (yr (y7 rfl))
def yC8(bZ:List (Q3))(bA:Q1)(au:List Int)(cT:List (Q4))(fg:Int)(cB:List (Q4)):Option ((List (Q4)×List (Q4)×Unit)⊕(List (Q4))) :=
  (bif decide (((↑au.length:Int))<=9223372036854775807)then y0I (λ ar a7=>yBi (bZ) (bA) (au) (fg) (cB) (cT) ar a7.1 a7.2) (λ a7=>yCP (bZ) (bA) (au) (fg) (cB) (cT) a7.1 a7.2) (((↑au.length:Int)) - 0).toNat 0 (((0:Int)),((0:Int)))else none)
def yFF(bZ:List (Q3))(bA:Q1)(au:List Int)(cT:List (Q4))(cB:List (Q4)):Option (List (Q4)×List (Q4)×Unit) :=
  (Option.bind (yA6 bA bZ) λ v8=>(bif decide (((↑bZ.length:Int))<=9223372036854775807)then y0I (λ ar a7=>yGP (bZ) (cB) (v8.1) ar a7) (λ a7=>yH1 (bZ) (cB) (v8.1) a7) (((↑bZ.length:Int)) - 0).toNat 0 (cT)else none))
theorem yDi(n:Nat)(hn:big<=n)(bZ:List (Q3))(bA:Q1)(au:List Int)(cT:List (Q4))(cB:List (Q4))(hx:((↑bZ.length:Int))<=9223372036854775807):LeF some (y0I (λ ar a7=>yC8 bZ bA au cT ar a7) (λ a7=>yFF bZ bA au cT a7) (((↑bZ.length:Int)) - 0).toNat 0 cB) (y70 n n bZ bA au 0 cB cT):=by
  refine y0c (f:=some) (W:=λ ci ar a7=>y70 n ci bZ bA au ar a7 cT) (body:=(λ ar a7=>yC8 bZ bA au cT ar a7)) (fin:=(λ a7=>yFF bZ bA au cT a7)) (λ ci ar a7=>?_) hx cB n 0 (by decide) (by unfold big at hn;omega)
  show LeF _ _ (yF4 n (y70 n ci) bZ bA au ar a7 cT)
  exact y6 (yN λ hx=>by apply yEi n hn;exact hx) (yr (y8 λ v8=>(yN λ hx=>by apply yDd n hn;exact hx)))
def yA8(rp:Q1)(l:List (Q3)):Option (List (Q4)×List (Q4)×Unit) :=
  (Option.bind (y5w rp) λ v0=>(bif decide (((↑l.length:Int))<=9223372036854775807)then y0I (λ ar a7=>yC8 (l) (rp) (v0.1) ([]) ar a7) (λ a7=>yFF (l) (rp) (v0.1) ([]) a7) (((↑l.length:Int)) - 0).toNat 0 ([])else none))
theorem yTI(rp:Q1)(l:List (Q3))(y:List (Q4)×List (Q4)×Unit)(h:yA8 rp l=some y):∃ n,yMT n rp l=some y :=
  ⟨big,LeF.top (show LeF some (yA8 rp l) (yMT big rp l)from (λ (n:Nat) (hn:big<=n)=>show LeF some (yA8 rp l) (yMT n rp l)from (y8 λ v0=>(yN λ hx=>by apply yDi n hn;exact hx))) big (Nat.le_refl _)) h⟩
def z0g_e:Entry:={ f:=152,args:=yRD,ress:=yXt,m:=λ x=>yA8 x.1 x.2.1 }
theorem yPO:FnOK Tryz.prog z0g_e:=yJ (g:=yaC) (fn:=Tryz.f152) yC yI (yA yFb (yA yYC (yA ySS (yA yPK (yA yG2 (yA yKg (yA yQ0 (yA yYJ (yA yPW eNil))))))))) (by kernel_rfl) (by kernel_rfl) (by kernel_rfl) (λ x y h=>let ⟨n,hn⟩:=yTI x.1 x.2.1 y h;⟨yPi n,iNil,(yXG n x).trans hn⟩)
end
end Go.Tw
end
section
set_option maxRecDepth 1000000
namespace Go.Tw
open Go.Vx Go.Vx.B Go.Proofs
noncomputable section
abbrev yRK:Ty:=.pair t33 (.pair t3 (.pair t3 .unit))
abbrev ybM:Ty:=.pair t23 (.pair t28 .unit)
def yZM:G:={ T:=T,E:=[z02_e,z04_e,z19_e,z0R_e],muts:=[9],fz:=[] }
def yeS:List (List Nat):=[[1,3,9,21,22]]
def yOu(n:Nat):Ann:={ keep:=yeS,fuel:=n,inl:=[],deep:=0 }
def yG9(n:Nat)(r3:Int->Q2->Int->Int->List (Q4)->Option (List (Q4)×Int×Unit))(aM:Int)(dD:Q2)(bR:Int)(eg:Int)(dL:List (Q4)):Option (List (Q4)×Int×Unit) :=
  (bif decide (eg < bR)then (Option.bind (yIG dD (IntKind.i64.wrap (aM+eg))) λ v4=>(bif decide (dL.length+(1:Nat)<=memMax)then r3 aM dD bR (IntKind.i64.wrap (eg+1)) (dL++[v4.1])else none))else some (dL,(0:Int),()))
def y6w(n:Nat)(k:Nat)(aM:Int)(dD:Q2)(bR:Int)(eg:Int)(dL:List (Q4)):Option (List (Q4)×Int×Unit) :=
  iter (λ r y=>yG9 n (λ aM dD bR eg dL=>r ((aM,(dD,(bR,(eg,())))),((dL,()),()))) y.1.1 y.1.2.1 y.1.2.2.1 y.1.2.2.2.1 y.2.1.1) k ((aM,(dD,(bR,(eg,())))),((dL,()),()))
def yN8(n:Nat)(t:Q2)(p1:Int)(np:Int):Option (List (Q4)×Int×Unit) :=
  (Option.bind (yEv t) λ v0=>(Option.bind (yME p1 np) λ v1=>(Option.bind (y2K [v0.1,v1.1]) λ v2=>(bif v2.1 != 0 then some ([],v2.1,())else (y6w n n (p1) (t) (np) ((0:Int)) ([]))))))
theorem yVv(n:Nat)(x:yRK.den):runF yZM (yOu n) Tryz.f20 yRK ybM x=yN8 n x.1 x.2.1 x.2.2.1:=by kernel_rfl
def yJU(aM:Int)(dD:Q2)(bR:Int)(eg:Int)(dL:List (Q4)):Option ((List (Q4)×Int×Unit)⊕(List (Q4))) :=
  (Option.bind (yIG dD (IntKind.i64.wrap (aM+eg))) λ v4=>(bif decide (dL.length+(1:Nat)<=memMax)then (some (Sum.inr (dL++[v4.1])))else none))
def yKm(aM:Int)(dD:Q2)(bR:Int)(dL:List (Q4)):Option (List (Q4)×Int×Unit) :=
  (some ((dL,(0:Int),())))
theorem yED(n:Nat)(hn:big<=n)(aM:Int)(dD:Q2)(bR:Int)(dL:List (Q4))(hx:(bR)<=9223372036854775807):LeF some (y0I (λ ar a7=>yJU aM dD bR ar a7) (λ a7=>yKm aM dD bR a7) ((bR) - 0).toNat 0 dL) (y6w n n aM dD bR 0 dL):=by
  refine y0c (f:=some) (W:=λ ci ar a7=>y6w n ci aM dD bR ar a7) (body:=(λ ar a7=>yJU aM dD bR ar a7)) (fin:=(λ a7=>yKm aM dD bR a7)) (λ ci ar a7=>?_) hx dL n 0 (by decide) (by unfold big at hn;omega)
  show LeF _ _ (yG9 n (y6w n ci) aM dD bR ar a7)
  exact y6 (y8 λ v4=>(y6 (y7 rfl) yq)) (yr (y7 rfl))
def yHn(t:Q2)(p1:Int)(np:Int):Option (List (Q4)×Int×Unit) :=
  (Option.bind (yEv t) λ v0=>(Option.bind (yME p1 np) λ v1=>(Option.bind (y2K [v0.1,v1.1]) λ v2=>(bif v2.1 != 0 then (some (([],v2.1,())))else (bif decide ((np)<=9223372036854775807)then y0I (λ ar a7=>yJU (p1) (t) (np) ar a7) (λ a7=>yKm (p1) (t) (np) a7) ((np) - 0).toNat 0 ([])else none)))))
theorem yTc(t:Q2)(p1:Int)(np:Int)(y:List (Q4)×Int×Unit)(h:yHn t p1 np=some y):∃ n,yN8 n t p1 np=some y :=
  ⟨big,LeF.top (show LeF some (yHn t p1 np) (yN8 big t p1 np)from (λ (n:Nat) (hn:big<=n)=>show LeF some (yHn t p1 np) (yN8 n t p1 np)from (y8 λ v0=>(y8 λ v1=>(y8 λ v2=>(y6 (y7 rfl) (yN λ hx=>by apply yED n hn;exact hx)))))) big (Nat.le_refl _)) h⟩
def z0Q_e:Entry:={ f:=20,args:=yRK,ress:=ybM,m:=λ x=>yHn x.1 x.2.1 x.2.2.1 }
theorem yPv:FnOK Tryz.prog z0Q_e:=yJ (g:=yZM) (fn:=Tryz.f20) yC yI (yA yGb (yA yXB (yA y4X (yA yQZ eNil)))) (by kernel_rfl) (by kernel_rfl) (by kernel_rfl) (λ x y h=>let ⟨n,hn⟩:=yTc x.1 x.2.1 x.2.2.1 y h;⟨yOu n,iNil,(yVv n x).trans hn⟩)
abbrev ySx:Ty:=.pair t60 (.pair t33 .unit)
abbrev ya6:Ty:=.pair t69 (.pair t28 .unit)
def ybL:G:={ T:=T,E:=[zk_e,z02_e,zu_e,z1N_e,z19_e,z0R_e,z1C_e],muts:=[],fz:=[] }
def yfe:List (List Nat):=[]
def yOw(n:Nat):Ann:={ keep:=yfe,fuel:=n,inl:=[il124,il195],deep:=3 }
def yBZ(n:Nat)(r4:Q1->List (Q4)->List Nat->Int->Int->Q1->Q2->Q1->Q2->Int->Int->Q1->Int->Q2->Int->Q2->Bool->Bool->Int->List Int->Int->Int->Bool->Q1->Q1->Int->Int->Int->Q1->Q2->Q1->Q2->Int->Int->Q1->Int->Q2->Int->Q2->Bool->Bool->Int->List Int->Int->Int->Bool->Q1->Q1->Option ((Q4)×Int×Unit))(j12:Q1)(j13:List (Q4))(j14:Int)(j15:Nat)(j16:List Nat)(j17:Int)(j18:Int)(j19:Q1)(j20:Q2)(j21:Q1)(j22:Q2)(j23:Int)(j24:Int)(j25:Q1)(j26:Int)(j27:Q2)(j28:Int)(j29:Q2)(j30:Bool)(j31:Bool)(j32:Int)(j33:List Int)(j34:Int)(j35:Int)(j36:Bool)(j37:Q1)(j38:Q1)(j39:Int)(j40:Int)(j41:Int)(j42:Q1)(j43:Q2)(j44:Q1)(j45:Q2)(j46:Int)(j47:Int)(j48:Q1)(j49:Int)(j50:Q2)(j51:Int)(j52:Q2)(j53:Bool)(j54:Bool)(j55:Int)(j56:List Int)(j57:Int)(j58:Int)(j59:Bool)(j60:Q1)(j61:Q1):Option ((Q4)×Int×Unit) :=
  (bif decide ((↑j13.length:Int) > 0)then (Option.bind (idx j13 (0:Int)) λ v62=>(bif decide (v62.1<=j14)then r4 j12 j13 j16 j17 (IntKind.i64.wrap (j18+1)) j19 j20 j21 j22 j23 j24 j25 j26 j27 j28 j29 j30 j31 j32 j33 j34 j35 j36 j37 j38 j39 j40 j41 j42 j43 j44 j45 j46 j47 j48 j49 j50 j51 j52 j53 j54 j55 j56 j57 j58 j59 j60 j61 else (Option.bind (yo Go.FloatKind.f32 (y0A Go.BinOp.mul Go.FloatKind.f32 j15 (nat_lit 1098907648)) IntKind.i64) λ v67=>(Option.bind (yIG j22 (IntKind.i64.wrap (j12.2.1+j14))) λ v68=>r4 j12 j13 j16 j17 (IntKind.i64.wrap (j18+1)) j19 j20 j21 j22 j23 j24 j25 j26 j27 j28 j29 j30 j31 j32 j33 j34 j35 j36 j37 j38 j39 j40 (IntKind.i64.wrap (j41+IntKind.i64.wrap (IntKind.i64.wrap (IntKind.i64.wrap (IntKind.i64.wrap (j22.2.2.1 * v67) - v68.1.1) * IntKind.i64.wrap (IntKind.i64.wrap (j22.2.2.1 * v67) - v68.1.1))+IntKind.i64.wrap (v68.1.2.1 * v68.1.2.1)))) j42 j43 j44 j45 j46 j47 j48 j49 j50 j51 j52 j53 j54 j55 j56 j57 j58 j59 j60 j61))))else (Option.bind (yo Go.FloatKind.f32 (y0A Go.BinOp.mul Go.FloatKind.f32 j15 (nat_lit 1098907648)) IntKind.i64) λ v69=>(Option.bind (yIG j22 (IntKind.i64.wrap (j12.2.1+j14))) λ v70=>r4 j12 j13 j16 j17 (IntKind.i64.wrap (j18+1)) j19 j20 j21 j22 j23 j24 j25 j26 j27 j28 j29 j30 j31 j32 j33 j34 j35 j36 j37 j38 j39 j40 (IntKind.i64.wrap (j41+IntKind.i64.wrap (IntKind.i64.wrap (IntKind.i64.wrap (IntKind.i64.wrap (j22.2.2.1 * v69) - v70.1.1) * IntKind.i64.wrap (IntKind.i64.wrap (j22.2.2.1 * v69) - v70.1.1))+IntKind.i64.wrap (v70.1.2.1 * v70.1.2.1)))) j42 j43 j44 j45 j46 j47 j48 j49 j50 j51 j52 j53 j54 j55 j56 j57 j58 j59 j60 j61)))
def yLq(n:Nat)(r4:Q1->List (Q4)->List Nat->Int->Int->Q1->Q2->Q1->Q2->Int->Int->Q1->Int->Q2->Int->Q2->Bool->Bool->Int->List Int->Int->Int->Bool->Q1->Q1->Int->Int->Int->Q1->Q2->Q1->Q2->Int->Int->Q1->Int->Q2->Int->Q2->Bool->Bool->Int->List Int->Int->Int->Bool->Q1->Q1->Option ((Q4)×Int×Unit))(r6:Q1->List (Q4)->Int->Nat->List Nat->Int->Int->Q1->Q2->Q1->Q2->Int->Int->Q1->Int->Q2->Int->Q2->Bool->Bool->Int->List Int->Int->Int->Bool->Q1->Q1->Int->Int->Int->Q1->Q2->Q1->Q2->Int->Int->Q1->Int->Q2->Int->Q2->Bool->Bool->Int->List Int->Int->Int->Bool->Q1->Q1->Option ((Q4)×Int×Unit))(fA:Q1)(cb:List (Q4))(fo:Int)(fB:Nat)(fC:List Nat)(eH:Int)(eI:Int)(dV:Q1)(dW:Q2)(dX:Q1)(dY:Q2)(dZ:Int)(e6:Int)(cU:Q1)(cV:Int)(cW:Q2)(cX:Int)(cY:Q2)(cZ:Bool)(d5:Bool)(d6:Int)(d7:List Int)(d8:Int)(d9:Int)(dc:Bool)(df:Q1)(ca:Q1)(e7:Int)(e8:Int)(eb:Int)(fD:Q1)(fE:Q2)(fF:Q1)(fG:Q2)(fH:Int)(fI:Int)(eJ:Q1)(eK:Int)(eL:Q2)(eM:Int)(eN:Q2)(eO:Bool)(eP:Bool)(eQ:Int)(eR:List Int)(eS:Int)(eT:Int)(eU:Bool)(eV:Q1)(dg:Q1):Option ((Q4)×Int×Unit) :=
  (bif decide ((↑cb.length:Int) > 0)then (Option.bind (idx cb (0:Int)) λ v7=>(bif decide (v7.2.1<=fo)then (bif decide ((0:Int)<=1) && decide ((1:Int)<=(↑cb.length:Int))then r6 fA (List.drop (Int.toNat (1:Int)) cb) fo fB fC eH eI dV dW dX dY dZ e6 cU cV cW cX cY cZ d5 d6 d7 d8 d9 dc df ca e7 e8 eb fD fE fF fG fH fI eJ eK eL eM eN eO eP eQ eR eS eT eU eV dg else none)else (yBZ n r4 (fA) (cb) (fo) (fB) (fC) (eH) (eI) (dV) (dW) (dX) (dY) (dZ) (e6) (cU) (cV) (cW) (cX) (cY) (cZ) (d5) (d6) (d7) (d8) (d9) (dc) (df) (ca) (e7) (e8) (eb) (fD) (fE) (fF) (fG) (fH) (fI) (eJ) (eK) (eL) (eM) (eN) (eO) (eP) (eQ) (eR) (eS) (eT) (eU) (eV) (dg))))else (yBZ n r4 (fA) (cb) (fo) (fB) (fC) (eH) (eI) (dV) (dW) (dX) (dY) (dZ) (e6) (cU) (cV) (cW) (cX) (cY) (cZ) (d5) (d6) (d7) (d8) (d9) (dc) (df) (ca) (e7) (e8) (eb) (fD) (fE) (fF) (fG) (fH) (fI) (eJ) (eK) (eL) (eM) (eN) (eO) (eP) (eQ) (eR) (eS) (eT) (eU) (eV) (dg)))
def yO3(n:Nat)(r4:Q1->List (Q4)->List Nat->Int->Int->Q1->Q2->Q1->Q2->Int->Int->Q1->Int->Q2->Int->Q2->Bool->Bool->Int->List Int->Int->Int->Bool->Q1->Q1->Int->Int->Int->Q1->Q2->Q1->Q2->Int->Int->Q1->Int->Q2->Int->Q2->Bool->Bool->Int->List Int->Int->Int->Bool->Q1->Q1->Option ((Q4)×Int×Unit))(k:Nat)(fA:Q1)(cb:List (Q4))(fo:Int)(fB:Nat)(fC:List Nat)(eH:Int)(eI:Int)(dV:Q1)(dW:Q2)(dX:Q1)(dY:Q2)(dZ:Int)(e6:Int)(cU:Q1)(cV:Int)(cW:Q2)(cX:Int)(cY:Q2)(cZ:Bool)(d5:Bool)(d6:Int)(d7:List Int)(d8:Int)(d9:Int)(dc:Bool)(df:Q1)(ca:Q1)(e7:Int)(e8:Int)(eb:Int)(fD:Q1)(fE:Q2)(fF:Q1)(fG:Q2)(fH:Int)(fI:Int)(eJ:Q1)(eK:Int)(eL:Q2)(eM:Int)(eN:Q2)(eO:Bool)(eP:Bool)(eQ:Int)(eR:List Int)(eS:Int)(eT:Int)(eU:Bool)(eV:Q1)(dg:Q1):Option ((Q4)×Int×Unit) :=
  iter (λ r y=>yLq n r4 (λ fA cb fo fB fC eH eI dV dW dX dY dZ e6 cU cV cW cX cY cZ d5 d6 d7 d8 d9 dc df ca e7 e8 eb fD fE fF fG fH fI eJ eK eL eM eN eO eP eQ eR eS eT eU eV dg=>r ((fA,(cb,(fo,(fB,(fC,(eH,(eI,()))))))),(((dV,(dW,(dX,(dY,(dZ,(e6,(cU,(cV,(cW,(cX,(cY,(cZ,(d5,(d6,(d7,(d8,(d9,(dc,(df,((ca,()),())))))))))))))))))))),((e7,(e8,())),((eb,()),()))),(fD,(fE,(fF,(fG,(fH,(fI,(eJ,(eK,(eL,(eM,(eN,(eO,(eP,(eQ,(eR,(eS,(eT,(eU,(eV,((dg,()),()))))))))))))))))))))))) y.1.1 y.1.2.1 y.1.2.2.1 y.1.2.2.2.1 y.1.2.2.2.2.1 y.1.2.2.2.2.2.1 y.1.2.2.2.2.2.2.1 y.2.1.1.1 y.2.1.1.2.1 y.2.1.1.2.2.1 y.2.1.1.2.2.2.1 y.2.1.1.2.2.2.2.1 y.2.1.1.2.2.2.2.2.1 y.2.1.1.2.2.2.2.2.2.1 y.2.1.1.2.2.2.2.2.2.2.1 y.2.1.1.2.2.2.2.2.2.2.2.1 y.2.1.1.2.2.2.2.2.2.2.2.2.1 y.2.1.1.2.2.2.2.2.2.2.2.2.2.1 y.2.1.1.2.2.2.2.2.2.2.2.2.2.2.1 y.2.1.1.2.2.2.2.2.2.2.2.2.2.2.2.1 y.2.1.1.2.2.2.2.2.2.2.2.2.2.2.2.2.1 y.2.1.1.2.2.2.2.2.2.2.2.2.2.2.2.2.2.1 y.2.1.1.2.2.2.2.2.2.2.2.2.2.2.2.2.2.2.1 y.2.1.1.2.2.2.2.2.2.2.2.2.2.2.2.2.2.2.2.1 y.2.1.1.2.2.2.2.2.2.2.2.2.2.2.2.2.2.2.2.2.1 y.2.1.1.2.2.2.2.2.2.2.2.2.2.2.2.2.2.2.2.2.2.1 y.2.1.1.2.2.2.2.2.2.2.2.2.2.2.2.2.2.2.2.2.2.2.1.1 y.2.1.2.1.1 y.2.1.2.1.2.1 y.2.1.2.2.1.1 y.2.2.1 y.2.2.2.1 y.2.2.2.2.1 y.2.2.2.2.2.1 y.2.2.2.2.2.2.1 y.2.2.2.2.2.2.2.1 y.2.2.2.2.2.2.2.2.1 y.2.2.2.2.2.2.2.2.2.1 y.2.2.2.2.2.2.2.2.2.2.1 y.2.2.2.2.2.2.2.2.2.2.2.1 y.2.2.2.2.2.2.2.2.2.2.2.2.1 y.2.2.2.2.2.2.2.2.2.2.2.2.2.1 y.2.2.2.2.2.2.2.2.2.2.2.2.2.2.1 y.2.2.2.2.2.2.2.2.2.2.2.2.2.2.2.1 y.2.2.2.2.2.2.2.2.2.2.2.2.2.2.2.2.1 y.2.2.2.2.2.2.2.2.2.2.2.2.2.2.2.2.2.1 y.2.2.2.2.2.2.2.2.2.2.2.2.2.2.2.2.2.2.1 y.2.2.2.2.2.2.2.2.2.2.2.2.2.2.2.2.2.2.2.1 y.2.2.2.2.2.2.2.2.2.2.2.2.2.2.2.2.2.2.2.2.1 y.2.2.2.2.2.2.2.2.2.2.2.2.2.2.2.2.2.2.2.2.2.1.1) k ((fA,(cb,(fo,(fB,(fC,(eH,(eI,()))))))),(((dV,(dW,(dX,(dY,(dZ,(e6,(cU,(cV,(cW,(cX,(cY,(cZ,(d5,(d6,(d7,(d8,(d9,(dc,(df,((ca,()),())))))))))))))))))))),((e7,(e8,())),((eb,()),()))),(fD,(fE,(fF,(fG,(fH,(fI,(eJ,(eK,(eL,(eM,(eN,(eO,(eP,(eQ,(eR,(eS,(eT,(eU,(eV,((dg,()),()))))))))))))))))))))))
def yMc(n:Nat)(r4:Q1->List (Q4)->List Nat->Int->Int->Q1->Q2->Q1->Q2->Int->Int->Q1->Int->Q2->Int->Q2->Bool->Bool->Int->List Int->Int->Int->Bool->Q1->Q1->Int->Int->Int->Q1->Q2->Q1->Q2->Int->Int->Q1->Int->Q2->Int->Q2->Bool->Bool->Int->List Int->Int->Int->Bool->Q1->Q1->Option ((Q4)×Int×Unit))(cC:Q1)(ac:List (Q4))(cj:List Nat)(bh:Int)(ba:Int)(ax:Q1)(ay:Q2)(az:Q1)(eW:Q2)(aA:Int)(aB:Int)(ek:Q1)(ep:Int)(eu:Q2)(ah:Int)(ai:Q2)(aj:Bool)(ak:Bool)(al:Int)(ev:List Int)(ew:Int)(ey:Int)(am:Bool)(aq:Q1)(cP:Q1)(aC:Int)(aD:Int)(aw:Int)(cD:Q1)(cE:Q2)(cF:Q1)(fJ:Q2)(cG:Int)(cH:Int)(fp:Q1)(fq:Int)(ft:Q2)(bn:Int)(bp:Q2)(bq:Bool)(br:Bool)(bt:Int)(fv:List Int)(fw:Int)(fy:Int)(bu:Bool)(bv:Q1)(ez:Q1):Option ((Q4)×Int×Unit) :=
  (bif decide (ba < bh)then (Option.bind (idx cj ba) λ v5=>(yO3 n r4 n (cC) (ac) (ba) (v5) (cj) (bh) (ba) (ax) (ay) (az) (eW) (aA) (aB) (ek) (ep) (eu) (ah) (ai) (aj) (ak) (al) (ev) (ew) (ey) (am) (aq) (cP) (aC) (aD) (aw) (cD) (cE) (cF) (fJ) (cG) (cH) (fp) (fq) (ft) (bn) (bp) (bq) (br) (bt) (fv) (fw) (fy) (bu) (bv) (ez)))else (Option.bind (yDD aw (IntKind.i64.wrap (fJ.2.2.1 * fJ.2.2.1))) λ v72=>some ((v72.1.1,v72.1.2.1,()),(0:Int),())))
def yOC(n:Nat)(k:Nat)(cC:Q1)(ac:List (Q4))(cj:List Nat)(bh:Int)(ba:Int)(ax:Q1)(ay:Q2)(az:Q1)(eW:Q2)(aA:Int)(aB:Int)(ek:Q1)(ep:Int)(eu:Q2)(ah:Int)(ai:Q2)(aj:Bool)(ak:Bool)(al:Int)(ev:List Int)(ew:Int)(ey:Int)(am:Bool)(aq:Q1)(cP:Q1)(aC:Int)(aD:Int)(aw:Int)(cD:Q1)(cE:Q2)(cF:Q1)(fJ:Q2)(cG:Int)(cH:Int)(fp:Q1)(fq:Int)(ft:Q2)(bn:Int)(bp:Q2)(bq:Bool)(br:Bool)(bt:Int)(fv:List Int)(fw:Int)(fy:Int)(bu:Bool)(bv:Q1)(ez:Q1):Option ((Q4)×Int×Unit) :=
  iter (λ r y=>yMc n (λ cC ac cj bh ba ax ay az eW aA aB ek ep eu ah ai aj ak al ev ew ey am aq cP aC aD aw cD cE cF fJ cG cH fp fq ft bn bp bq br bt fv fw fy bu bv ez=>r ((cC,(ac,(cj,(bh,(ba,()))))),(((ax,(ay,(az,(eW,(aA,(aB,(ek,(ep,(eu,(ah,(ai,(aj,(ak,(al,(ev,(ew,(ey,(am,(aq,((cP,()),())))))))))))))))))))),((aC,(aD,())),((aw,()),()))),(cD,(cE,(cF,(fJ,(cG,(cH,(fp,(fq,(ft,(bn,(bp,(bq,(br,(bt,(fv,(fw,(fy,(bu,(bv,((ez,()),()))))))))))))))))))))))) y.1.1 y.1.2.1 y.1.2.2.1 y.1.2.2.2.1 y.1.2.2.2.2.1 y.2.1.1.1 y.2.1.1.2.1 y.2.1.1.2.2.1 y.2.1.1.2.2.2.1 y.2.1.1.2.2.2.2.1 y.2.1.1.2.2.2.2.2.1 y.2.1.1.2.2.2.2.2.2.1 y.2.1.1.2.2.2.2.2.2.2.1 y.2.1.1.2.2.2.2.2.2.2.2.1 y.2.1.1.2.2.2.2.2.2.2.2.2.1 y.2.1.1.2.2.2.2.2.2.2.2.2.2.1 y.2.1.1.2.2.2.2.2.2.2.2.2.2.2.1 y.2.1.1.2.2.2.2.2.2.2.2.2.2.2.2.1 y.2.1.1.2.2.2.2.2.2.2.2.2.2.2.2.2.1 y.2.1.1.2.2.2.2.2.2.2.2.2.2.2.2.2.2.1 y.2.1.1.2.2.2.2.2.2.2.2.2.2.2.2.2.2.2.1 y.2.1.1.2.2.2.2.2.2.2.2.2.2.2.2.2.2.2.2.1 y.2.1.1.2.2.2.2.2.2.2.2.2.2.2.2.2.2.2.2.2.1 y.2.1.1.2.2.2.2.2.2.2.2.2.2.2.2.2.2.2.2.2.2.1 y.2.1.1.2.2.2.2.2.2.2.2.2.2.2.2.2.2.2.2.2.2.2.1.1 y.2.1.2.1.1 y.2.1.2.1.2.1 y.2.1.2.2.1.1 y.2.2.1 y.2.2.2.1 y.2.2.2.2.1 y.2.2.2.2.2.1 y.2.2.2.2.2.2.1 y.2.2.2.2.2.2.2.1 y.2.2.2.2.2.2.2.2.1 y.2.2.2.2.2.2.2.2.2.1 y.2.2.2.2.2.2.2.2.2.2.1 y.2.2.2.2.2.2.2.2.2.2.2.1 y.2.2.2.2.2.2.2.2.2.2.2.2.1 y.2.2.2.2.2.2.2.2.2.2.2.2.2.1 y.2.2.2.2.2.2.2.2.2.2.2.2.2.2.1 y.2.2.2.2.2.2.2.2.2.2.2.2.2.2.2.1 y.2.2.2.2.2.2.2.2.2.2.2.2.2.2.2.2.1 y.2.2.2.2.2.2.2.2.2.2.2.2.2.2.2.2.2.1 y.2.2.2.2.2.2.2.2.2.2.2.2.2.2.2.2.2.2.1 y.2.2.2.2.2.2.2.2.2.2.2.2.2.2.2.2.2.2.2.1 y.2.2.2.2.2.2.2.2.2.2.2.2.2.2.2.2.2.2.2.2.1 y.2.2.2.2.2.2.2.2.2.2.2.2.2.2.2.2.2.2.2.2.2.1.1) k ((cC,(ac,(cj,(bh,(ba,()))))),(((ax,(ay,(az,(eW,(aA,(aB,(ek,(ep,(eu,(ah,(ai,(aj,(ak,(al,(ev,(ew,(ey,(am,(aq,((cP,()),())))))))))))))))))))),((aC,(aD,())),((aw,()),()))),(cD,(cE,(cF,(fJ,(cG,(cH,(fp,(fq,(ft,(bn,(bp,(bq,(br,(bt,(fv,(fw,(fy,(bu,(bv,((ez,()),()))))))))))))))))))))))
def yTb(n:Nat)(rp:Q1)(t:Q2):Option ((Q4)×Int×Unit) :=
  (Option.bind (zk_M rp) λ v0=>(Option.bind (yEv t) λ v1=>(Option.bind (zu_M t) λ v2=>(Option.bind (y2K [v0.1,v1.1,(z1N (!v2.1) (4:Int)).1]) λ v3=>(bif v3.1 != 0 then some (((0:Int),(0:Int),()),v3.1,())else (yOC n n (rp) (rp.2.2.2.1) (rp.2.2.1) ((↑rp.2.2.1.length:Int)) ((0:Int)) (rp) (t) (rp) (t) ((0:Int)) (v3.1) (rp) (v0.1) (t) (v1.1) (t) (v2.1) (!v2.1) ((z1N (!v2.1) (4:Int)).1) ([v0.1,v1.1,(z1N (!v2.1) (4:Int)).1]) (v3.1) (v3.1) (v3.1 != 0) (rp) (rp) ((0:Int)) ((0:Int)) ((0:Int)) (rp) (t) (rp) (t) ((0:Int)) (v3.1) (rp) (v0.1) (t) (v1.1) (t) (v2.1) (!v2.1) ((z1N (!v2.1) (4:Int)).1) ([v0.1,v1.1,(z1N (!v2.1) (4:Int)).1]) (v3.1) (v3.1) (v3.1 != 0) (rp) (rp)))))))
theorem yYq(n:Nat)(x:ySx.den):runF ybL (yOw n) Tryz.f37 ySx ya6 x=yTb n x.1 x.2.1:=by kernel_rfl
def ySu(rp:Q1)(t:Q2):Option ((Q4)×Int×Unit):=yTb 1000 rp t
theorem yT6(rp:Q1)(t:Q2)(y:(Q4)×Int×Unit)(h:ySu rp t=some y):∃ n,yTb n rp t=some y:=⟨1000,h⟩
def z0C_e:Entry:={ f:=37,args:=ySx,ress:=ya6,m:=λ x=>ySu x.1 x.2.1 }
theorem ycX:FnOK Tryz.prog z0C_e:=yJ (g:=ybL) (fn:=Tryz.f37) yC yI (yA yX3 (yA yGb (yA ydD (yA y6M (yA y4X (yA yQZ (yA yKO eNil))))))) (by kernel_rfl) (by kernel_rfl) (by kernel_rfl) (λ x y h=>let ⟨n,hn⟩:=yT6 x.1 x.2.1 y h;⟨yOw n,(y5G y5F (y5G y5D iNil)),(yYq n x).trans hn⟩)
abbrev ySQ:Ty:=.pair t33 .unit
abbrev yZP:Ty:=.pair t79 (.pair t28 .unit)
def yVE:G:={ T:=T,E:=[z02_e,z0k_e,z1N_e,zF_e,z19_e,z0l_e,zH_e],muts:=[],fz:=[] }
def ydu:List (List Nat):=[]
def yPb(n:Nat):Ann:={ keep:=ydu,fuel:=n,inl:=[],deep:=0 }
def yST(n:Nat)(t:Q2):Option (List (Nat×Nat)×Int×Unit) :=
  (Option.bind (yEv t) λ v0=>(bif v0.1 != 0 then some ([],v0.1,())else (Option.bind (zF_M t.2.1 λ (x:(Q4)×Unit)=>yUj x.1) λ v1=>(Option.bind (y2K v1.1) λ v2=>(Option.bind (y2K [(z1N (y1r IntKind.i64 Go.BinOp.and t.2.2.1 (IntKind.i64.wrap (t.2.2.1 - (1:Int))) != 0) (1:Int)).1,v2.1]) λ v3=>(bif v3.1 != 0 then some ([],v3.1,())else (Option.bind (zH_M t.2.1 λ (x:(Q4)×Unit)=>yUH x.1 (y15 Go.FloatKind.f32 (IntKind.i64.wrap ((16:Int) * t.2.2.1)),nat_lit 0)) λ v4=>some (v4.1,(0:Int),()))))))))
theorem yaY(n:Nat)(x:ySQ.den):runF yVE (yPb n) Tryz.f43 ySQ yZP x=yST n x.1:=by kernel_rfl
def ySy(t:Q2):Option (List (Nat×Nat)×Int×Unit):=yST 0 t
theorem ySP(t:Q2)(y:List (Nat×Nat)×Int×Unit)(h:ySy t=some y):∃ n,yST n t=some y:=⟨0,h⟩
def z1L_e:Entry:={ f:=43,args:=ySQ,ress:=yZP,m:=λ x=>ySy x.1 }
theorem yVs:FnOK Tryz.prog z1L_e:=yJ (g:=yVE) (fn:=Tryz.f43) yC yI (yA yGb (yA yWG (yA y6M (yA yXK (yA y4X (yA yae (yA yff eNil))))))) (by kernel_rfl) (by kernel_rfl) (by kernel_rfl) (λ x y h=>let ⟨n,hn⟩:=ySP x.1 y h;⟨yPb n,iNil,(yaY n x).trans hn⟩)
abbrev yRZ:Ty:=.pair t94 (.pair t22 .unit)
abbrev ybh:Ty:=.pair t69 (.pair t3 .unit)
def yVq:G:={ T:=T,E:=[zY_e,z0g_e,z0e_e,z00_e,zp_e,z0b_e,z0J_e],muts:=[],fz:=[] }
def yec:List (List Nat):=[[1,2,4,6,7,8,9,10,11],[1,4,6,7,8,10,12]]
def yQV(n:Nat):Ann:={ keep:=yec,fuel:=n,inl:=[],deep:=0 }
def yG7(n:Nat)(r8:List (Q3)->Int->List (Q4)->List (Q4)->Int->Int->Int->Int->Option ((Q4)×Int×Unit))(dv:List (Q3))(dE:Int)(dF:List (Q4))(dG:List (Q4))(bw:Int)(dH:Int)(bN:Int)(bO:Int):Option ((Q4)×Int×Unit) :=
  (bif decide (dH < (↑dv.length:Int))then (Option.bind (idx dG dH) λ v9=>(Option.bind (idx dF dH) λ v10=>r8 dv dE dF dG (IntKind.i64.wrap (bw - (z0b (zp v9).1 v10).1.1)) (IntKind.i64.wrap (dH+1)) bN bO))else (Option.bind (yAn bw dE) λ v11=>some ((v11.1.1,v11.1.2.1,()),(0:Int),())))
def y7F(n:Nat)(k:Nat)(dv:List (Q3))(dE:Int)(dF:List (Q4))(dG:List (Q4))(bw:Int)(dH:Int)(bN:Int)(bO:Int):Option ((Q4)×Int×Unit) :=
  iter (λ r y=>yG7 n (λ dv dE dF dG bw dH bN bO=>r ((dv,(dE,(dF,(dG,(bw,(dH,())))))),(((bN,(bO,())),()),()))) y.1.1 y.1.2.1 y.1.2.2.1 y.1.2.2.2.1 y.1.2.2.2.2.1 y.1.2.2.2.2.2.1 y.2.1.1.1 y.2.1.1.2.1) k ((dv,(dE,(dF,(dG,(bw,(dH,())))))),(((bN,(bO,())),()),()))
def yFz(n:Nat)(r3:List (Q3)->Q1->Int->List (Q4)->List (Q4)->List Int->Int->Int->Int->Int->Option ((Q4)×Int×Unit))(cQ:List (Q3))(dl:Q1)(cR:Int)(dw:List (Q4))(dx:List (Q4))(af:List Int)(bx:Int)(dS:Int)(bi:Int)(bj:Int):Option ((Q4)×Int×Unit) :=
  (bif decide (dS < (↑af.length:Int))then (Option.bind (idx af dS) λ v4=>(Option.bind (y8w dl v4) λ v5=>(Option.bind (idx af dS) λ v6=>(Option.bind (y8w dl v6) λ v7=>r3 cQ dl cR dw dx af (IntKind.i64.wrap (bx+IntKind.i64.wrap (IntKind.i64.wrap (cR * v5.1) * v7.1))) (IntKind.i64.wrap (dS+1)) bi bj))))else (y7F n n (cQ) (cR) (dw) (dx) (bx) ((0:Int)) (bi) (bj)))
def y6r(n:Nat)(k:Nat)(cQ:List (Q3))(dl:Q1)(cR:Int)(dw:List (Q4))(dx:List (Q4))(af:List Int)(bx:Int)(dS:Int)(bi:Int)(bj:Int):Option ((Q4)×Int×Unit) :=
  iter (λ r y=>yFz n (λ cQ dl cR dw dx af bx dS bi bj=>r ((cQ,(dl,(cR,(dw,(dx,(af,(bx,(dS,())))))))),(((bi,(bj,())),()),()))) y.1.1 y.1.2.1 y.1.2.2.1 y.1.2.2.2.1 y.1.2.2.2.2.1 y.1.2.2.2.2.2.1 y.1.2.2.2.2.2.2.1 y.1.2.2.2.2.2.2.2.1 y.2.1.1.1 y.2.1.1.2.1) k ((cQ,(dl,(cR,(dw,(dx,(af,(bx,(dS,())))))))),(((bi,(bj,())),()),()))
def yN9(n:Nat)(rp:Q1)(l:List (Q3)):Option ((Q4)×Int×Unit) :=
  (Option.bind (zY_M rp l) λ v0=>(bif v0.1==0 then some (((0:Int),(0:Int),()),(25:Int),())else (Option.bind (yA8 rp l) λ v1=>(Option.bind (y5w rp) λ v2=>(y6r n n (l) (rp) (v0.1) (v1.1) (v1.2.1) (v2.1) ((0:Int)) ((0:Int)) ((0:Int)) ((0:Int)))))))
theorem yaf(n:Nat)(x:yRZ.den):runF yVq (yQV n) Tryz.f67 yRZ ybh x=yN9 n x.1 x.2.1:=by kernel_rfl
def yD4(dv:List (Q3))(dE:Int)(dF:List (Q4))(dG:List (Q4))(bN:Int)(bO:Int)(dH:Int)(bw:Int):Option (((Q4)×Int×Unit)⊕(Int)) :=
  (Option.bind (idx dG dH) λ v9=>(Option.bind (idx dF dH) λ v10=>(some (Sum.inr (IntKind.i64.wrap (bw - (z0b (zp v9).1 v10).1.1))))))
def yBV(dv:List (Q3))(dE:Int)(dF:List (Q4))(dG:List (Q4))(bN:Int)(bO:Int)(bw:Int):Option ((Q4)×Int×Unit) :=
  (Option.bind (yAn bw dE) λ v11=>(some (((v11.1.1,v11.1.2.1,()),(0:Int),()))))
theorem yEB(n:Nat)(hn:big<=n)(dv:List (Q3))(dE:Int)(dF:List (Q4))(dG:List (Q4))(bN:Int)(bO:Int)(bw:Int)(hx:((↑dv.length:Int))<=9223372036854775807):LeF some (y0I (λ ar a7=>yD4 dv dE dF dG bN bO ar a7) (λ a7=>yBV dv dE dF dG bN bO a7) (((↑dv.length:Int)) - 0).toNat 0 bw) (y7F n n dv dE dF dG bw 0 bN bO):=by
  refine y0c (f:=some) (W:=λ ci ar a7=>y7F n ci dv dE dF dG a7 ar bN bO) (body:=(λ ar a7=>yD4 dv dE dF dG bN bO ar a7)) (fin:=(λ a7=>yBV dv dE dF dG bN bO a7)) (λ ci ar a7=>?_) hx bw n 0 (by decide) (by unfold big at hn;omega)
  show LeF _ _ (yG7 n (y7F n ci) dv dE dF dG a7 ar bN bO)
  exact y6 (y8 λ v9=>(y8 λ v10=>(y7 rfl))) (yr (y8 λ v11=>(y7 rfl)))
def y8J(cQ:List (Q3))(dl:Q1)(cR:Int)(dw:List (Q4))(dx:List (Q4))(af:List Int)(bi:Int)(bj:Int)(dS:Int)(v4:Int)(bx:Int):Option (((Q4)×Int×Unit)⊕(Int)) :=
  (Option.bind (y8w dl v4) λ v5=>(Option.bind (idx af dS) λ v6=>(Option.bind (y8w dl v6) λ v7=>(some (Sum.inr (IntKind.i64.wrap (bx+IntKind.i64.wrap (IntKind.i64.wrap (cR * v5.1) * v7.1))))))))
def y8T(cQ:List (Q3))(dl:Q1)(cR:Int)(dw:List (Q4))(dx:List (Q4))(af:List Int)(bi:Int)(bj:Int)(bx:Int):Option ((Q4)×Int×Unit) :=
  (bif decide (((↑cQ.length:Int))<=9223372036854775807)then y0I (λ ar a7=>yD4 (cQ) (cR) (dw) (dx) (bi) (bj) ar a7) (λ a7=>yBV (cQ) (cR) (dw) (dx) (bi) (bj) a7) (((↑cQ.length:Int)) - 0).toNat 0 (bx)else none)
theorem yEj(n:Nat)(hn:big<=n)(cQ:List (Q3))(dl:Q1)(cR:Int)(dw:List (Q4))(dx:List (Q4))(af:List Int)(bi:Int)(bj:Int)(bx:Int)(hx:List.length (af) < lenMax):LeF some (yM (λ ar dB a7=>y8J cQ dl cR dw dx af bi bj ar dB a7) (λ a7=>y8T cQ dl cR dw dx af bi bj a7) 0 (af) bx) (y6r n n cQ dl cR dw dx af bx 0 bi bj):=by
  refine yQ (f:=some) (W:=λ ci ar a7=>y6r n ci cQ dl cR dw dx af a7 ar bi bj) (body:=(λ ar dB a7=>y8J cQ dl cR dw dx af bi bj ar dB a7)) (fin:=(λ a7=>y8T cQ dl cR dw dx af bi bj a7)) (λ ci ar a7=>?_) hx bx n (by unfold big at hn;unfold lenMax at hx;omega)
  show LeF _ _ (yFz n (y6r n ci) cQ dl cR dw dx af a7 ar bi bj)
  exact y6 (y8 λ v4=>(y8 λ v5=>(y8 λ v6=>(y8 λ v7=>(y7 rfl))))) (yr (yN λ hx=>by apply yEB n hn;exact hx))
def yHX(rp:Q1)(l:List (Q3)):Option ((Q4)×Int×Unit) :=
  (Option.bind (zY_M rp l) λ v0=>(bif v0.1==0 then (some ((((0:Int),(0:Int),()),(25:Int),())))else (Option.bind (yA8 rp l) λ v1=>(Option.bind (y5w rp) λ v2=>(bif decide (List.length (v2.1) < lenMax)then yM (λ ar dB a7=>y8J (l) (rp) (v0.1) (v1.1) (v1.2.1) (v2.1) ((0:Int)) ((0:Int)) ar dB a7) (λ a7=>y8T (l) (rp) (v0.1) (v1.1) (v1.2.1) (v2.1) ((0:Int)) ((0:Int)) a7) 0 (v2.1) ((0:Int))else none)))))
theorem yTC(rp:Q1)(l:List (Q3))(y:(Q4)×Int×Unit)(h:yHX rp l=some y):∃ n,yN9 n rp l=some y :=
  ⟨big,LeF.top (show LeF some (yHX rp l) (yN9 big rp l)from (λ (n:Nat) (hn:big<=n)=>show LeF some (yHX rp l) (yN9 n rp l)from (y8 λ v0=>(y6 (y7 rfl) (y8 λ v1=>(y8 λ v2=>(yN λ hx=>by apply yEj n hn;exact hx)))))) big (Nat.le_refl _)) h⟩
def z0c_e:Entry:={ f:=67,args:=yRZ,ress:=ybh,m:=λ x=>yHX x.1 x.2.1 }
theorem yYs:FnOK Tryz.prog z0c_e:=yJ (g:=yVq) (fn:=Tryz.f67) yC yI (yA yVP (yA yPO (yA yFb (yA yPK (yA ySS (yA yG2 (yA ybm eNil))))))) (by kernel_rfl) (by kernel_rfl) (by kernel_rfl) (λ x y h=>let ⟨n,hn⟩:=yTC x.1 x.2.1 y h;⟨yQV n,iNil,(yaf n x).trans hn⟩)
abbrev yV6:Ty:=.pair t94 (.pair t22 .unit)
abbrev ycZ:Ty:=.pair t25 (.pair t3 .unit)
def yXI:G:={ T:=T,E:=[zY_e,z0g_e,z0M_e],muts:=[],fz:=[] }
def ydT:List (List Nat):=[]
def yQX(n:Nat):Ann:={ keep:=ydT,fuel:=n,inl:=[],deep:=0 }
def yNn(n:Nat)(rp:Q1)(l:List (Q3)):Option ((Q2)×Int×Unit) :=
  (Option.bind (zY_M rp l) λ v0=>(bif v0.1==0 then some (([],[],(0:Int),()),(25:Int),())else (Option.bind (yA8 rp l) λ v1=>(Option.bind (yBW l v1.1 v0.1) λ v2=>some ((v2.1.1,v2.1.2.1,v2.1.2.2.1,()),(0:Int),())))))
theorem yY8(n:Nat)(x:yV6.den):runF yXI (yQX n) Tryz.f68 yV6 ycZ x=yNn n x.1 x.2.1:=by kernel_rfl
def yOd(rp:Q1)(l:List (Q3)):Option ((Q2)×Int×Unit):=yNn 0 rp l
theorem yV5(rp:Q1)(l:List (Q3))(y:(Q2)×Int×Unit)(h:yOd rp l=some y):∃ n,yNn n rp l=some y:=⟨0,h⟩
def z09_e:Entry:={ f:=68,args:=yV6,ress:=ycZ,m:=λ x=>yOd x.1 x.2.1 }
theorem ybo:FnOK Tryz.prog z09_e:=yJ (g:=yXI) (fn:=Tryz.f68) yC yI (yA yVP (yA yPO (yA yZx eNil))) (by kernel_rfl) (by kernel_rfl) (by kernel_rfl) (λ x y h=>let ⟨n,hn⟩:=yV5 x.1 x.2.1 y h;⟨yQX n,iNil,(yY8 n x).trans hn⟩)
abbrev zX_a:Ty:=.pair t94 .unit
abbrev zX_r:Ty:=.pair t3 .unit
def zX_g:G:={ T:=T,E:=[zW_e,z0e_e],muts:=[],fz:=[] }
def zX_k:List (List Nat):=[]
def yX4(n:Nat):Ann:={ keep:=zX_k,fuel:=n,inl:=[],deep:=0 }
def zX_m(n:Nat)(rp:Q1):Option (Int×Unit) :=
  (Option.bind (zW_M rp) λ v0=>(bif v0.1 != 0 then some (v0.1,())else (Option.bind (y5w rp) λ v1=>(bif decide ((↑v1.1.length:Int) > 128)then some ((5:Int),())else some ((0:Int),())))))
theorem yfA(n:Nat)(x:zX_a.den):runF zX_g (yX4 n) Tryz.f69 zX_a zX_r x=zX_m n x.1:=by kernel_rfl
def zX_M(rp:Q1):Option (Int×Unit):=zX_m 0 rp
theorem yXq(rp:Q1)(y:Int×Unit)(h:zX_M rp=some y):∃ n,zX_m n rp=some y:=⟨0,h⟩
def zX_e:Entry:={ f:=69,args:=zX_a,ress:=zX_r,m:=λ x=>zX_M x.1 }
theorem ydJ:FnOK Tryz.prog zX_e:=yJ (g:=zX_g) (fn:=Tryz.f69) yC yI (yA yeL (yA yFb eNil)) (by kernel_rfl) (by kernel_rfl) (by kernel_rfl) (λ x y h=>let ⟨n,hn⟩:=yXq x.1 y h;⟨yX4 n,iNil,(yfA n x).trans hn⟩)
def il174:Inl:={ f:=174,fn:=Tryz.f174,keep:=[],muts:=[],fz:=[] }
theorem yMx:y6e Tryz.prog il174:=⟨by kernel_rfl,by kernel_rfl,λ e0 h=>by cases (show (none:Option LibK)=some e0 from h)⟩
def il178:Inl:={ f:=178,fn:=Tryz.f178,keep:=[],muts:=[],fz:=[] }
theorem yOP:y6e Tryz.prog il178:=⟨by kernel_rfl,by kernel_rfl,λ e0 h=>by cases (show (none:Option LibK)=some e0 from h)⟩
def il216:Inl:={ f:=216,fn:=Tryz.f216,lib:=some (.copy 228) }
theorem yMf:y6e Tryz.prog il216:=⟨by kernel_rfl,by kernel_rfl,λ e0 h=>by cases (show some (.copy 228:LibK)=some e0 from h);exact ySR⟩
abbrev yUW:Ty:=.pair t33 .unit
abbrev yaq:Ty:=.pair t9 (.pair t28 .unit)
def yXY:G:={ T:=T,E:=[z02_e,z0N_e,zN_e,z0O_e],muts:=[5],fz:=[] }
def yfS:List (List Nat):=[[1,5,22,23,24]]
def yP2(n:Nat):Ann:={ keep:=yfS,fuel:=n,inl:=[il174,il178,il216],deep:=8 }
def yOZ(n:Nat)(r2:Q2->List (Q3)->Int->Int->List Int->Option (List UInt8×Int×Unit))(cI:Q2)(aP:List (Q3))(fa:Int)(eE:Int)(dq:List Int):Option (List UInt8×Int×Unit) :=
  (bif decide (eE < fa)then (Option.bind (idx aP eE) λ v3=>(Option.bind (idx cI.2.1 eE) λ v4=>(Option.bind (zN_M [v3.2.1,v3.2.2.1,v4.1,v4.2.1] λ (x:Int×Unit)=>yOH x.1) λ v5=>(bif decide ((12:Nat)+v3.1.length < strMax)then (bif decide (([(99:UInt8),111,110,115,116,105,116,117,101,110,116,32]++v3.1).length+(1:Nat) < strMax)then (Option.bind (yN1 v5.1 [(32:UInt8)]) λ v6=>(bif decide (([(99:UInt8),111,110,115,116,105,116,117,101,110,116,32]++v3.1++[(32:UInt8)]).length+v6.1.length < strMax)then (bif decide (([(99:UInt8),111,110,115,116,105,116,117,101,110,116,32]++v3.1++[(32:UInt8)]++v6.1).length+(1:Nat) < strMax)then (bif decide (dq.length+([(99:UInt8),111,110,115,116,105,116,117,101,110,116,32]++v3.1++[(32:UInt8)]++v6.1++[(10:UInt8)]).length<=memMax)then r2 cI aP fa (IntKind.i64.wrap (eE+1)) (dq++y2E ([(99:UInt8),111,110,115,116,105,116,117,101,110,116,32]++v3.1++[(32:UInt8)]++v6.1++[(10:UInt8)]))else none)else none)else none))else none)else none))))else (bif decide ((0:Nat) < dq.length)then (bif (↑dq.length:Int)==(↑dq.length:Int) && decide ((0:Nat) < dq.length) && yAp dq then some (y38 dq,(0:Int),())else none)else none))
def yO6(n:Nat)(k:Nat)(cI:Q2)(aP:List (Q3))(fa:Int)(eE:Int)(dq:List Int):Option (List UInt8×Int×Unit) :=
  iter (λ r y=>yOZ n (λ cI aP fa eE dq=>r ((cI,(aP,(fa,(eE,())))),(((),(dq,())),()))) y.1.1 y.1.2.1 y.1.2.2.1 y.1.2.2.2.1 y.2.1.2.1) k ((cI,(aP,(fa,(eE,())))),(((),(dq,())),()))
def yTs(n:Nat)(t:Q2):Option (List UInt8×Int×Unit) :=
  (Option.bind (yEv t) λ v0=>(bif v0.1 != 0 then some ([],v0.1,())else (Option.bind (yOH t.2.2.1) λ v1=>(bif decide ((5:Nat)+v1.1.length < strMax)then (bif decide (([(116:UInt8),105,100,101,32]++v1.1).length+(1:Nat) < strMax)then (bif decide ((0:Nat)+([(116:UInt8),105,100,101,32]++v1.1++[(10:UInt8)]).length<=memMax)then (yO6 n n (t) (t.1) ((↑t.1.length:Int)) ((0:Int)) (y2E ([(116:UInt8),105,100,101,32]++v1.1++[(10:UInt8)])))else none)else none)else none))))
theorem yZJ(n:Nat)(x:yUW.den):runF yXY (yP2 n) Tryz.f97 yUW yaq x=yTs n x.1:=by kernel_rfl
def yT2(t:Q2):Option (List UInt8×Int×Unit):=yTs 1000 t
theorem yQm(t:Q2)(y:List UInt8×Int×Unit)(h:yT2 t=some y):∃ n,yTs n t=some y:=⟨1000,h⟩
def z17_e:Entry:={ f:=97,args:=yUW,ress:=yaq,m:=λ x=>yT2 x.1 }
theorem yYG:FnOK Tryz.prog z17_e:=yJ (g:=yXY) (fn:=Tryz.f97) yC yI (yA yGb (yA yao (yA ydR (yA yVf eNil)))) (by kernel_rfl) (by kernel_rfl) (by kernel_rfl) (λ x y h=>let ⟨n,hn⟩:=yQm x.1 y h;⟨yP2 n,(y5G yMx (y5G yOP (y5G yMf iNil))),(yZJ n x).trans hn⟩)
abbrev yRI:Ty:=.pair t60 (.pair t31 .unit)
abbrev ybx:Ty:=.pair t28 .unit
def yVR:G:={ T:=T,E:=[zk_e,zL_e,z19_e],muts:=[],fz:=[] }
def yci:List (List Nat):=[]
def yPy(n:Nat):Ann:={ keep:=yci,fuel:=n,inl:=[],deep:=0 }
def yMA(n:Nat)(rp:Q1)(l:List (Q3)):Option (Int×Unit) :=
  (Option.bind (zk_M rp) λ v0=>(Option.bind (zL_M l) λ v1=>(Option.bind (y2K [v0.1,v1.1]) λ v2=>some (v2.1,()))))
theorem yXU(n:Nat)(x:yRI.den):runF yVR (yPy n) Tryz.f119 yRI ybx x=yMA n x.1 x.2.1:=by kernel_rfl
def y6Z(rp:Q1)(l:List (Q3)):Option (Int×Unit):=yMA 0 rp l
theorem yUs(rp:Q1)(l:List (Q3))(y:Int×Unit)(h:y6Z rp l=some y):∃ n,yMA n rp l=some y:=⟨0,h⟩
def z18_e:Entry:={ f:=119,args:=yRI,ress:=ybx,m:=λ x=>y6Z x.1 x.2.1 }
theorem y8F:FnOK Tryz.prog z18_e:=yJ (g:=yVR) (fn:=Tryz.f119) yC yI (yA yX3 (yA yaW (yA y4X eNil))) (by kernel_rfl) (by kernel_rfl) (by kernel_rfl) (λ x y h=>let ⟨n,hn⟩:=yUs x.1 x.2.1 y h;⟨yPy n,iNil,(yXU n x).trans hn⟩)
abbrev yRR:Ty:=.pair t60 (.pair t31 .unit)
abbrev yWp:Ty:=.pair t23 (.pair t23 (.pair t3 .unit))
def yc7:G:={ T:=T,E:=[z0V_e,zA_e,z0n_e,zl_e,zK_e],muts:=[9],fz:=[] }
def yeW:List (List Nat):=[[7,8,9,18,19]]
def yPR(n:Nat):Ann:={ keep:=yeW,fuel:=n,inl:=[],deep:=0 }
def yFR(n:Nat)(r2:List (Q4)->List (List (Q4))->Int->Int->List (Q4)->Option (List (Q4)×List (Q4)×Int×Unit))(dm:List (Q4))(dn:List (List (Q4)))(bS:Int)(eA:Int)(aE:List (Q4)):Option (List (Q4)×List (Q4)×Int×Unit) :=
  (bif decide (eA < bS)then (Option.bind (zl_M dn eA dm) λ v3=>(Option.bind (zK_M v3.1) λ v4=>(bif decide (aE.length+(1:Nat)<=memMax)then r2 dm dn bS (IntKind.i64.wrap (eA+1)) (aE++[v4.1])else none)))else (Option.bind (zK_M dn) λ v5=>some (aE,dm,v5.1.1,())))
def y6p(n:Nat)(k:Nat)(dm:List (Q4))(dn:List (List (Q4)))(bS:Int)(eA:Int)(aE:List (Q4)):Option (List (Q4)×List (Q4)×Int×Unit) :=
  iter (λ r y=>yFR n (λ dm dn bS eA aE=>r ((dm,(dn,(bS,(eA,())))),((aE,()),()))) y.1.1 y.1.2.1 y.1.2.2.1 y.1.2.2.2.1 y.2.1.1) k ((dm,(dn,(bS,(eA,())))),((aE,()),()))
def yMD(n:Nat)(rp:Q1)(l:List (Q3)):Option (List (Q4)×List (Q4)×Int×Unit) :=
  (Option.bind (zA_M l λ (x:(Q3)×Unit)=>yBU x.1 rp) λ v0=>(Option.bind (y90 rp l) λ v1=>(y6p n n (v0.1) (v1.1) ((↑l.length:Int)) ((0:Int)) ([]))))
theorem yaI(n:Nat)(x:yRR.den):runF yc7 (yPR n) Tryz.f120 yRR yWp x=yMD n x.1 x.2.1:=by kernel_rfl
def yFc(dm:List (Q4))(dn:List (List (Q4)))(bS:Int)(eA:Int)(aE:List (Q4)):Option ((List (Q4)×List (Q4)×Int×Unit)⊕(List (Q4))) :=
  (Option.bind (zl_M dn eA dm) λ v3=>(Option.bind (zK_M v3.1) λ v4=>(bif decide (aE.length+(1:Nat)<=memMax)then (some (Sum.inr (aE++[v4.1])))else none)))
def yGo(dm:List (Q4))(dn:List (List (Q4)))(bS:Int)(aE:List (Q4)):Option (List (Q4)×List (Q4)×Int×Unit) :=
  (Option.bind (zK_M dn) λ v5=>(some ((aE,dm,v5.1.1,()))))
theorem yEI(n:Nat)(hn:big<=n)(dm:List (Q4))(dn:List (List (Q4)))(bS:Int)(aE:List (Q4))(hx:(bS)<=9223372036854775807):LeF some (y0I (λ ar a7=>yFc dm dn bS ar a7) (λ a7=>yGo dm dn bS a7) ((bS) - 0).toNat 0 aE) (y6p n n dm dn bS 0 aE):=by
  refine y0c (f:=some) (W:=λ ci ar a7=>y6p n ci dm dn bS ar a7) (body:=(λ ar a7=>yFc dm dn bS ar a7)) (fin:=(λ a7=>yGo dm dn bS a7)) (λ ci ar a7=>?_) hx aE n 0 (by decide) (by unfold big at hn;omega)
  show LeF _ _ (yFR n (y6p n ci) dm dn bS ar a7)
  exact y6 (y8 λ v3=>(y8 λ v4=>(y6 (y7 rfl) yq))) (yr (y8 λ v5=>(y7 rfl)))
def yBO(rp:Q1)(l:List (Q3)):Option (List (Q4)×List (Q4)×Int×Unit) :=
  (Option.bind (zA_M l λ (x:(Q3)×Unit)=>yBU x.1 rp) λ v0=>(Option.bind (y90 rp l) λ v1=>(bif decide (((↑l.length:Int))<=9223372036854775807)then y0I (λ ar a7=>yFc (v0.1) (v1.1) ((↑l.length:Int)) ar a7) (λ a7=>yGo (v0.1) (v1.1) ((↑l.length:Int)) a7) (((↑l.length:Int)) - 0).toNat 0 ([])else none)))
theorem yQx(rp:Q1)(l:List (Q3))(y:List (Q4)×List (Q4)×Int×Unit)(h:yBO rp l=some y):∃ n,yMD n rp l=some y :=
  ⟨big,LeF.top (show LeF some (yBO rp l) (yMD big rp l)from (λ (n:Nat) (hn:big<=n)=>show LeF some (yBO rp l) (yMD n rp l)from (y8 λ v0=>(y8 λ v1=>(yN λ hx=>by apply yEI n hn;exact hx)))) big (Nat.le_refl _)) h⟩
def z1D_e:Entry:={ f:=120,args:=yRR,ress:=yWp,m:=λ x=>yBO x.1 x.2.1 }
theorem yPl:FnOK Tryz.prog z1D_e:=yJ (g:=yc7) (fn:=Tryz.f120) yC yI (yA yZf (yA yRj (yA yCl (yA yWv (yA yLy eNil))))) (by kernel_rfl) (by kernel_rfl) (by kernel_rfl) (λ x y h=>let ⟨n,hn⟩:=yQx x.1 x.2.1 y h;⟨yPR n,iNil,(yaI n x).trans hn⟩)
abbrev yQr:Ty:=.pair t60 (.pair t31 .unit)
abbrev ycO:Ty:=.pair t4 .unit
def yYS:G:={ T:=T,E:=[z0n_e,zK_e],muts:=[],fz:=[] }
def ycw:List (List Nat):=[]
def yPD(n:Nat):Ann:={ keep:=ycw,fuel:=n,inl:=[],deep:=0 }
def ySN(n:Nat)(rp:Q1)(l:List (Q3)):Option (Bool×Unit) :=
  (Option.bind (y90 rp l) λ v0=>(Option.bind (zK_M v0.1) λ v1=>some (eqV ((Ty.int IntKind.i64).pair ((Ty.int IntKind.i64).pair Ty.unit)) v1.1 ((0:Int),(0:Int),()),())))
theorem ybs(n:Nat)(x:yQr.den):runF yYS (yPD n) Tryz.f146 yQr ycO x=ySN n x.1 x.2.1:=by kernel_rfl
def yMy(rp:Q1)(l:List (Q3)):Option (Bool×Unit):=ySN 0 rp l
theorem yQs(rp:Q1)(l:List (Q3))(y:Bool×Unit)(h:yMy rp l=some y):∃ n,ySN n rp l=some y:=⟨0,h⟩
def z06_e:Entry:={ f:=146,args:=yQr,ress:=ycO,m:=λ x=>yMy x.1 x.2.1 }
theorem yQ9:FnOK Tryz.prog z06_e:=yJ (g:=yYS) (fn:=Tryz.f146) yC yI (yA yCl (yA yLy eNil)) (by kernel_rfl) (by kernel_rfl) (by kernel_rfl) (λ x y h=>let ⟨n,hn⟩:=yQs x.1 x.2.1 y h;⟨yPD n,iNil,(ybs n x).trans hn⟩)
end
end Go.Tw
end
section
set_option maxRecDepth 1000000
namespace Go.Tw
open Go.Vx Go.Vx.B Go.Proofs
noncomputable section
end
end Go.Tw
end
section
set_option maxRecDepth 1000000
namespace Go.Tw
open Go.Vx Go.Vx.B Go.Proofs
noncomputable section
abbrev yTp:Ty:=.pair t33 (.pair t3 (.pair t3 .unit))
abbrev ycU:Ty:=.pair t35 (.pair t28 .unit)
def yVT:G:={ T:=T,E:=[z0Q_e,z0T_e,z0D_e],muts:=[10],fz:=[] }
def ydA:List (List Nat):=[[3,10,24,25,26]]
def yOs(n:Nat):Ann:={ keep:=ydA,fuel:=n,inl:=[],deep:=0 }
def yNF(n:Nat)(r1:Q2->List (Q4)->Int->Int->List Nat->Option (List Nat×Int×Unit))(fK:Q2)(fb:List (Q4))(fc:Int)(eX:Int)(cB:List Nat):Option (List Nat×Int×Unit) :=
  (bif decide (eX < fc)then (Option.bind (idx fb eX) λ v2=>(Option.bind (ySE v2.1 fK.2.2.1) λ v3=>(bif decide ((z0D v3.1).1 > 1024)then some ([],(16:Int),())else (bif decide (cB.length+(1:Nat)<=memMax)then r1 fK fb fc (IntKind.i64.wrap (eX+1)) (cB++[y0A Go.BinOp.quo Go.FloatKind.f32 (y15 Go.FloatKind.f32 v3.1) (nat_lit 1098907648)])else none))))else some (cB,(0:Int),()))
def yO4(n:Nat)(k:Nat)(fK:Q2)(fb:List (Q4))(fc:Int)(eX:Int)(cB:List Nat):Option (List Nat×Int×Unit) :=
  iter (λ r y=>yNF n (λ fK fb fc eX cB=>r ((fK,(fb,(fc,(eX,())))),((cB,()),()))) y.1.1 y.1.2.1 y.1.2.2.1 y.1.2.2.2.1 y.2.1.1) k ((fK,(fb,(fc,(eX,())))),((cB,()),()))
def yUB(n:Nat)(t:Q2)(p1:Int)(np:Int):Option (List Nat×Int×Unit) :=
  (Option.bind (yHn t p1 np) λ v0=>(bif v0.2.1 != 0 then some ([],v0.2.1,())else (yO4 n n (t) (v0.1) ((↑v0.1.length:Int)) ((0:Int)) ([]))))
theorem yWk(n:Nat)(x:yTp.den):runF yVT (yOs n) Tryz.f22 yTp ycU x=yUB n x.1 x.2.1 x.2.2.1:=by kernel_rfl
def yU7(t:Q2)(p1:Int)(np:Int):Option (List Nat×Int×Unit):=yUB 1000 t p1 np
theorem ySJ(t:Q2)(p1:Int)(np:Int)(y:List Nat×Int×Unit)(h:yU7 t p1 np=some y):∃ n,yUB n t p1 np=some y:=⟨1000,h⟩
def z0i_e:Entry:={ f:=22,args:=yTp,ress:=ycU,m:=λ x=>yU7 x.1 x.2.1 x.2.2.1 }
theorem yVh:FnOK Tryz.prog z0i_e:=yJ (g:=yVT) (fn:=Tryz.f22) yC yI (yA yPv (yA ybB (yA yCy eNil))) (by kernel_rfl) (by kernel_rfl) (by kernel_rfl) (λ x y h=>let ⟨n,hn⟩:=ySJ x.1 x.2.1 x.2.2.1 y h;⟨yOs n,iNil,(yWk n x).trans hn⟩)
abbrev yRc:Ty:=.pair t60 (.pair t31 .unit)
abbrev yYb:Ty:=.pair t33 (.pair t28 .unit)
def ybW:G:={ T:=T,E:=[z18_e,z1D_e,z0U_e],muts:=[],fz:=[] }
def yeX:List (List Nat):=[]
def yP0(n:Nat):Ann:={ keep:=yeX,fuel:=n,inl:=[],deep:=0 }
def yNs(n:Nat)(rp:Q1)(l:List (Q3)):Option ((Q2)×Int×Unit) :=
  (Option.bind (y6Z rp l) λ v0=>(bif v0.1 != 0 then some (([],[],(0:Int),()),v0.1,())else (Option.bind (yBO rp l) λ v1=>(bif v1.2.2.1==0 then some (([],[],(0:Int),()),(25:Int),())else (Option.bind (yHO l v1.1 v1.2.2.1) λ v2=>some ((v2.1.1,v2.1.2.1,v2.1.2.2.1,()),(0:Int),()))))))
theorem yaS(n:Nat)(x:yRc.den):runF ybW (yP0 n) Tryz.f34 yRc yYb x=yNs n x.1 x.2.1:=by kernel_rfl
def yHk(rp:Q1)(l:List (Q3)):Option ((Q2)×Int×Unit):=yNs 0 rp l
theorem ySh(rp:Q1)(l:List (Q3))(y:(Q2)×Int×Unit)(h:yHk rp l=some y):∃ n,yNs n rp l=some y:=⟨0,h⟩
def z0P_e:Entry:={ f:=34,args:=yRc,ress:=yYb,m:=λ x=>yHk x.1 x.2.1 }
theorem yOp:FnOK Tryz.prog z0P_e:=yJ (g:=ybW) (fn:=Tryz.f34) yC yI (yA y8F (yA yPl (yA yW9 eNil))) (by kernel_rfl) (by kernel_rfl) (by kernel_rfl) (λ x y h=>let ⟨n,hn⟩:=ySh x.1 x.2.1 y h;⟨yP0 n,iNil,(yaS n x).trans hn⟩)
abbrev zj_a:Ty:=.pair t60 (.pair t31 .unit)
abbrev zj_r:Ty:=.pair t3 (.pair t28 .unit)
def zj_g:G:={ T:=T,E:=[z18_e,z0n_e,zK_e],muts:=[],fz:=[] }
def zj_k:List (List Nat):=[]
def yZb(n:Nat):Ann:={ keep:=zj_k,fuel:=n,inl:=[],deep:=0 }
def zj_m(n:Nat)(rp:Q1)(l:List (Q3)):Option (Q4) :=
  (Option.bind (y6Z rp l) λ v0=>(bif v0.1 != 0 then some ((0:Int),v0.1,())else (Option.bind (y90 rp l) λ v1=>(Option.bind (zK_M v1.1) λ v2=>some (v2.1.1,(0:Int),())))))
theorem ycg(n:Nat)(x:zj_a.den):runF zj_g (yZb n) Tryz.f35 zj_a zj_r x=zj_m n x.1 x.2.1:=by kernel_rfl
def zj_M(rp:Q1)(l:List (Q3)):Option (Q4):=zj_m 0 rp l
theorem yZA(rp:Q1)(l:List (Q3))(y:Q4)(h:zj_M rp l=some y):∃ n,zj_m n rp l=some y:=⟨0,h⟩
def zj_e:Entry:={ f:=35,args:=zj_a,ress:=zj_r,m:=λ x=>zj_M x.1 x.2.1 }
theorem ydv:FnOK Tryz.prog zj_e:=yJ (g:=zj_g) (fn:=Tryz.f35) yC yI (yA y8F (yA yCl (yA yLy eNil))) (by kernel_rfl) (by kernel_rfl) (by kernel_rfl) (λ x y h=>let ⟨n,hn⟩:=yZA x.1 x.2.1 y h;⟨yZb n,iNil,(ycg n x).trans hn⟩)
abbrev yRm:Ty:=.pair t60 (.pair t31 .unit)
abbrev yVz:Ty:=.pair t69 (.pair t28 .unit)
def ybp:G:={ T:=T,E:=[z18_e,z1D_e,z05_e,z1F_e,z1C_e],muts:=[],fz:=[] }
def yfW:List (List Nat):=[[4,8,9,10,43,44,45]]
def yOj(n:Nat):Ann:={ keep:=yfW,fuel:=n,inl:=[il124,il195],deep:=3 }
def y83(n:Nat)(r2:Q1->List (Q4)->List Nat->Int->Int->Q1->List (Q3)->Q1->Int->Int->List (Q4)->List (Q4)->Q1->List (Q3)->Int->Int->Bool->Q1->List (Q3)->List (Q4)->List (Q4)->Int->Int->Bool->Q1->Q1->Int->Int->Int->Int->Q1->List (Q3)->Q1->Int->Int->List (Q4)->List (Q4)->Q1->List (Q3)->Int->Int->Bool->Q1->List (Q3)->List (Q4)->List (Q4)->Int->Int->Bool->Q1->Q1->Option ((Q4)×Int×Unit))(j10:Q1)(j11:List (Q4))(j12:Int)(j13:Nat)(j14:List Nat)(j15:Int)(j16:Int)(j17:Q1)(j18:List (Q3))(j19:Q1)(j20:Int)(j21:Int)(j22:List (Q4))(j23:List (Q4))(j24:Q1)(j25:List (Q3))(j26:Int)(j27:Int)(j28:Bool)(j29:Q1)(j30:List (Q3))(j31:List (Q4))(j32:List (Q4))(j33:Int)(j34:Int)(j35:Bool)(j36:Q1)(j37:Q1)(j38:Int)(j39:Int)(j40:Int)(j41:Int)(j42:Q1)(j43:List (Q3))(j44:Q1)(j45:Int)(j46:Int)(j47:List (Q4))(j48:List (Q4))(j49:Q1)(j50:List (Q3))(j51:Int)(j52:Int)(j53:Bool)(j54:Q1)(j55:List (Q3))(j56:List (Q4))(j57:List (Q4))(j58:Int)(j59:Int)(j60:Bool)(j61:Q1)(j62:Q1):Option ((Q4)×Int×Unit) :=
  (bif decide ((↑j11.length:Int) > 0)then (Option.bind (idx j11 (0:Int)) λ v63=>(bif decide (v63.1<=j12)then r2 j10 j11 j14 j15 (IntKind.i64.wrap (j16+1)) j17 j18 j19 j20 j21 j22 j23 j24 j25 j26 j27 j28 j29 j30 j31 j32 j33 j34 j35 j36 j37 j38 j39 j40 j41 j42 j43 j44 j45 j46 j47 j48 j49 j50 j51 j52 j53 j54 j55 j56 j57 j58 j59 j60 j61 j62 else (Option.bind (yo Go.FloatKind.f32 (y0A Go.BinOp.mul Go.FloatKind.f32 j13 (nat_lit 1098907648)) IntKind.i64) λ v68=>r2 j10 j11 j14 j15 (IntKind.i64.wrap (j16+1)) j17 j18 j19 j20 j21 j22 j23 j24 j25 j26 j27 j28 j29 j30 j31 j32 j33 j34 j35 j36 j37 j38 j39 j40 (IntKind.i64.wrap (j41+IntKind.i64.wrap (IntKind.i64.wrap (j40 * v68) * v68))) j42 j43 j44 j45 j46 j47 j48 j49 j50 j51 j52 j53 j54 j55 j56 j57 j58 j59 j60 j61 j62)))else (Option.bind (yo Go.FloatKind.f32 (y0A Go.BinOp.mul Go.FloatKind.f32 j13 (nat_lit 1098907648)) IntKind.i64) λ v69=>r2 j10 j11 j14 j15 (IntKind.i64.wrap (j16+1)) j17 j18 j19 j20 j21 j22 j23 j24 j25 j26 j27 j28 j29 j30 j31 j32 j33 j34 j35 j36 j37 j38 j39 j40 (IntKind.i64.wrap (j41+IntKind.i64.wrap (IntKind.i64.wrap (j40 * v69) * v69))) j42 j43 j44 j45 j46 j47 j48 j49 j50 j51 j52 j53 j54 j55 j56 j57 j58 j59 j60 j61 j62))
def yFa(n:Nat)(r2:Q1->List (Q4)->List Nat->Int->Int->Q1->List (Q3)->Q1->Int->Int->List (Q4)->List (Q4)->Q1->List (Q3)->Int->Int->Bool->Q1->List (Q3)->List (Q4)->List (Q4)->Int->Int->Bool->Q1->Q1->Int->Int->Int->Int->Q1->List (Q3)->Q1->Int->Int->List (Q4)->List (Q4)->Q1->List (Q3)->Int->Int->Bool->Q1->List (Q3)->List (Q4)->List (Q4)->Int->Int->Bool->Q1->Q1->Option ((Q4)×Int×Unit))(r4:Q1->List (Q4)->Int->Nat->List Nat->Int->Int->Q1->List (Q3)->Q1->Int->Int->List (Q4)->List (Q4)->Q1->List (Q3)->Int->Int->Bool->Q1->List (Q3)->List (Q4)->List (Q4)->Int->Int->Bool->Q1->Q1->Int->Int->Int->Int->Q1->List (Q3)->Q1->Int->Int->List (Q4)->List (Q4)->Q1->List (Q3)->Int->Int->Bool->Q1->List (Q3)->List (Q4)->List (Q4)->Int->Int->Bool->Q1->Q1->Option ((Q4)×Int×Unit))(cC:Q1)(ac:List (Q4))(dy:Int)(dM:Nat)(cj:List Nat)(bh:Int)(ba:Int)(ax:Q1)(ay:List (Q3))(az:Q1)(aA:Int)(aB:Int)(bl:List (Q4))(bm:List (Q4))(ah:Q1)(ai:List (Q3))(aj:Int)(ak:Int)(al:Bool)(am:Q1)(aF:List (Q3))(aq:List (Q4))(aG:List (Q4))(aH:Int)(aI:Int)(aJ:Bool)(aK:Q1)(ae:Q1)(aC:Int)(aD:Int)(aw:Int)(bD:Int)(cD:Q1)(cE:List (Q3))(cF:Q1)(cG:Int)(cH:Int)(dz:List (Q4))(dA:List (Q4))(bn:Q1)(bp:List (Q3))(bq:Int)(br:Int)(bt:Bool)(bu:Q1)(bT:List (Q3))(bv:List (Q4))(bU:List (Q4))(bV:Int)(bW:Int)(bX:Bool)(bY:Q1)(aL:Q1):Option ((Q4)×Int×Unit) :=
  (bif decide ((↑ac.length:Int) > 0)then (Option.bind (idx ac (0:Int)) λ v5=>(bif decide (v5.2.1<=dy)then (bif decide ((0:Int)<=1) && decide ((1:Int)<=(↑ac.length:Int))then r4 cC (List.drop (Int.toNat (1:Int)) ac) dy dM cj bh ba ax ay az aA aB bl bm ah ai aj ak al am aF aq aG aH aI aJ aK ae aC aD aw bD cD cE cF cG cH dz dA bn bp bq br bt bu bT bv bU bV bW bX bY aL else none)else (y83 n r2 (cC) (ac) (dy) (dM) (cj) (bh) (ba) (ax) (ay) (az) (aA) (aB) (bl) (bm) (ah) (ai) (aj) (ak) (al) (am) (aF) (aq) (aG) (aH) (aI) (aJ) (aK) (ae) (aC) (aD) (aw) (bD) (cD) (cE) (cF) (cG) (cH) (dz) (dA) (bn) (bp) (bq) (br) (bt) (bu) (bT) (bv) (bU) (bV) (bW) (bX) (bY) (aL))))else (y83 n r2 (cC) (ac) (dy) (dM) (cj) (bh) (ba) (ax) (ay) (az) (aA) (aB) (bl) (bm) (ah) (ai) (aj) (ak) (al) (am) (aF) (aq) (aG) (aH) (aI) (aJ) (aK) (ae) (aC) (aD) (aw) (bD) (cD) (cE) (cF) (cG) (cH) (dz) (dA) (bn) (bp) (bq) (br) (bt) (bu) (bT) (bv) (bU) (bV) (bW) (bX) (bY) (aL)))
def y6v(n:Nat)(r2:Q1->List (Q4)->List Nat->Int->Int->Q1->List (Q3)->Q1->Int->Int->List (Q4)->List (Q4)->Q1->List (Q3)->Int->Int->Bool->Q1->List (Q3)->List (Q4)->List (Q4)->Int->Int->Bool->Q1->Q1->Int->Int->Int->Int->Q1->List (Q3)->Q1->Int->Int->List (Q4)->List (Q4)->Q1->List (Q3)->Int->Int->Bool->Q1->List (Q3)->List (Q4)->List (Q4)->Int->Int->Bool->Q1->Q1->Option ((Q4)×Int×Unit))(k:Nat)(cC:Q1)(ac:List (Q4))(dy:Int)(dM:Nat)(cj:List Nat)(bh:Int)(ba:Int)(ax:Q1)(ay:List (Q3))(az:Q1)(aA:Int)(aB:Int)(bl:List (Q4))(bm:List (Q4))(ah:Q1)(ai:List (Q3))(aj:Int)(ak:Int)(al:Bool)(am:Q1)(aF:List (Q3))(aq:List (Q4))(aG:List (Q4))(aH:Int)(aI:Int)(aJ:Bool)(aK:Q1)(ae:Q1)(aC:Int)(aD:Int)(aw:Int)(bD:Int)(cD:Q1)(cE:List (Q3))(cF:Q1)(cG:Int)(cH:Int)(dz:List (Q4))(dA:List (Q4))(bn:Q1)(bp:List (Q3))(bq:Int)(br:Int)(bt:Bool)(bu:Q1)(bT:List (Q3))(bv:List (Q4))(bU:List (Q4))(bV:Int)(bW:Int)(bX:Bool)(bY:Q1)(aL:Q1):Option ((Q4)×Int×Unit) :=
  iter (λ r y=>yFa n r2 (λ cC ac dy dM cj bh ba ax ay az aA aB bl bm ah ai aj ak al am aF aq aG aH aI aJ aK ae aC aD aw bD cD cE cF cG cH dz dA bn bp bq br bt bu bT bv bU bV bW bX bY aL=>r ((cC,(ac,(dy,(dM,(cj,(bh,(ba,()))))))),(((ax,(ay,(az,(aA,(aB,(bl,(bm,(ah,(ai,(aj,(ak,(al,(am,(aF,(aq,(aG,(aH,(aI,(aJ,(aK,((ae,()),()))))))))))))))))))))),((aC,(aD,())),((aw,()),((bD,()),())))),(cD,(cE,(cF,(cG,(cH,(dz,(dA,(bn,(bp,(bq,(br,(bt,(bu,(bT,(bv,(bU,(bV,(bW,(bX,(bY,((aL,()),())))))))))))))))))))))))) y.1.1 y.1.2.1 y.1.2.2.1 y.1.2.2.2.1 y.1.2.2.2.2.1 y.1.2.2.2.2.2.1 y.1.2.2.2.2.2.2.1 y.2.1.1.1 y.2.1.1.2.1 y.2.1.1.2.2.1 y.2.1.1.2.2.2.1 y.2.1.1.2.2.2.2.1 y.2.1.1.2.2.2.2.2.1 y.2.1.1.2.2.2.2.2.2.1 y.2.1.1.2.2.2.2.2.2.2.1 y.2.1.1.2.2.2.2.2.2.2.2.1 y.2.1.1.2.2.2.2.2.2.2.2.2.1 y.2.1.1.2.2.2.2.2.2.2.2.2.2.1 y.2.1.1.2.2.2.2.2.2.2.2.2.2.2.1 y.2.1.1.2.2.2.2.2.2.2.2.2.2.2.2.1 y.2.1.1.2.2.2.2.2.2.2.2.2.2.2.2.2.1 y.2.1.1.2.2.2.2.2.2.2.2.2.2.2.2.2.2.1 y.2.1.1.2.2.2.2.2.2.2.2.2.2.2.2.2.2.2.1 y.2.1.1.2.2.2.2.2.2.2.2.2.2.2.2.2.2.2.2.1 y.2.1.1.2.2.2.2.2.2.2.2.2.2.2.2.2.2.2.2.2.1 y.2.1.1.2.2.2.2.2.2.2.2.2.2.2.2.2.2.2.2.2.2.1 y.2.1.1.2.2.2.2.2.2.2.2.2.2.2.2.2.2.2.2.2.2.2.1 y.2.1.1.2.2.2.2.2.2.2.2.2.2.2.2.2.2.2.2.2.2.2.2.1.1 y.2.1.2.1.1 y.2.1.2.1.2.1 y.2.1.2.2.1.1 y.2.1.2.2.2.1.1 y.2.2.1 y.2.2.2.1 y.2.2.2.2.1 y.2.2.2.2.2.1 y.2.2.2.2.2.2.1 y.2.2.2.2.2.2.2.1 y.2.2.2.2.2.2.2.2.1 y.2.2.2.2.2.2.2.2.2.1 y.2.2.2.2.2.2.2.2.2.2.1 y.2.2.2.2.2.2.2.2.2.2.2.1 y.2.2.2.2.2.2.2.2.2.2.2.2.1 y.2.2.2.2.2.2.2.2.2.2.2.2.2.1 y.2.2.2.2.2.2.2.2.2.2.2.2.2.2.1 y.2.2.2.2.2.2.2.2.2.2.2.2.2.2.2.1 y.2.2.2.2.2.2.2.2.2.2.2.2.2.2.2.2.1 y.2.2.2.2.2.2.2.2.2.2.2.2.2.2.2.2.2.1 y.2.2.2.2.2.2.2.2.2.2.2.2.2.2.2.2.2.2.1 y.2.2.2.2.2.2.2.2.2.2.2.2.2.2.2.2.2.2.2.1 y.2.2.2.2.2.2.2.2.2.2.2.2.2.2.2.2.2.2.2.2.1 y.2.2.2.2.2.2.2.2.2.2.2.2.2.2.2.2.2.2.2.2.2.1 y.2.2.2.2.2.2.2.2.2.2.2.2.2.2.2.2.2.2.2.2.2.2.1.1) k ((cC,(ac,(dy,(dM,(cj,(bh,(ba,()))))))),(((ax,(ay,(az,(aA,(aB,(bl,(bm,(ah,(ai,(aj,(ak,(al,(am,(aF,(aq,(aG,(aH,(aI,(aJ,(aK,((ae,()),()))))))))))))))))))))),((aC,(aD,())),((aw,()),((bD,()),())))),(cD,(cE,(cF,(cG,(cH,(dz,(dA,(bn,(bp,(bq,(br,(bt,(bu,(bT,(bv,(bU,(bV,(bW,(bX,(bY,((aL,()),())))))))))))))))))))))))
def yDJ(n:Nat)(r74:List (Q4)->List (Q4)->Int->Int->Int->Int->Int->Int->Option ((Q4)×Int×Unit))(cg:List (Q4))(aO:List (Q4))(eB:Int)(cM:Int)(bc:Int)(be:Int)(aN:Int)(bz:Int):Option ((Q4)×Int×Unit) :=
  (bif decide (cM < eB)then (Option.bind (idx aO cM) λ v75=>(Option.bind (idx cg cM) λ v76=>r74 cg aO eB (IntKind.i64.wrap (cM+1)) bc be aN (IntKind.i64.wrap (bz - (z1F (z05 v76).1 (v75.1,v75.2.1,())).1.1))))else (Option.bind (yDD bz aN) λ v77=>some ((v77.1.1,v77.1.2.1,()),(0:Int),())))
def y5A(n:Nat)(k:Nat)(cg:List (Q4))(aO:List (Q4))(eB:Int)(cM:Int)(bc:Int)(be:Int)(aN:Int)(bz:Int):Option ((Q4)×Int×Unit) :=
  iter (λ r y=>yDJ n (λ cg aO eB cM bc be aN bz=>r ((cg,(aO,(eB,(cM,())))),(((bc,(be,())),((aN,()),((bz,()),()))),()))) y.1.1 y.1.2.1 y.1.2.2.1 y.1.2.2.2.1 y.2.1.1.1 y.2.1.1.2.1 y.2.1.2.1.1 y.2.1.2.2.1.1) k ((cg,(aO,(eB,(cM,())))),(((bc,(be,())),((aN,()),((bz,()),()))),()))
def yH4(n:Nat)(r2:Q1->List (Q4)->List Nat->Int->Int->Q1->List (Q3)->Q1->Int->Int->List (Q4)->List (Q4)->Q1->List (Q3)->Int->Int->Bool->Q1->List (Q3)->List (Q4)->List (Q4)->Int->Int->Bool->Q1->Q1->Int->Int->Int->Int->Q1->List (Q3)->Q1->Int->Int->List (Q4)->List (Q4)->Q1->List (Q3)->Int->Int->Bool->Q1->List (Q3)->List (Q4)->List (Q4)->Int->Int->Bool->Q1->Q1->Option ((Q4)×Int×Unit))(cI:Q1)(bL:List (Q4))(cJ:List Nat)(fe:Int)(dI:Int)(bE:Q1)(bF:List (Q3))(bG:Q1)(bH:Int)(bI:Int)(bJ:List (Q4))(bK:List (Q4))(aQ:Q1)(aR:List (Q3))(aS:Int)(aT:Int)(aU:Bool)(aV:Q1)(aW:List (Q3))(aX:List (Q4))(aY:List (Q4))(aZ:Int)(b6:Int)(b7:Bool)(b8:Q1)(av:Q1)(bf:Int)(bg:Int)(aa:Int)(bQ:Int)(dN:Q1)(dO:List (Q3))(dP:Q1)(dQ:Int)(dR:Int)(cL:List (Q4))(dp:List (Q4))(ck:Q1)(cl:List (Q3))(cm:Int)(cn:Int)(co:Bool)(cp:Q1)(cr:List (Q3))(cu:List (Q4))(cw:List (Q4))(cx:Int)(cy:Int)(cz:Bool)(cA:Q1)(b9:Q1):Option ((Q4)×Int×Unit) :=
  (bif decide (dI < fe)then (Option.bind (idx cJ dI) λ v3=>(y6v n r2 n (cI) (bL) (dI) (v3) (cJ) (fe) (dI) (bE) (bF) (bG) (bH) (bI) (bJ) (bK) (aQ) (aR) (aS) (aT) (aU) (aV) (aW) (aX) (aY) (aZ) (b6) (b7) (b8) (av) (bf) (bg) (aa) (bQ) (dN) (dO) (dP) (dQ) (dR) (cL) (dp) (ck) (cl) (cm) (cn) (co) (cp) (cr) (cu) (cw) (cx) (cy) (cz) (cA) (b9)))else (y5A n n (dp) (cL) ((↑cL.length:Int)) ((0:Int)) (bf) (bg) (aa) (bQ)))
def y7I(n:Nat)(k:Nat)(cI:Q1)(bL:List (Q4))(cJ:List Nat)(fe:Int)(dI:Int)(bE:Q1)(bF:List (Q3))(bG:Q1)(bH:Int)(bI:Int)(bJ:List (Q4))(bK:List (Q4))(aQ:Q1)(aR:List (Q3))(aS:Int)(aT:Int)(aU:Bool)(aV:Q1)(aW:List (Q3))(aX:List (Q4))(aY:List (Q4))(aZ:Int)(b6:Int)(b7:Bool)(b8:Q1)(av:Q1)(bf:Int)(bg:Int)(aa:Int)(bQ:Int)(dN:Q1)(dO:List (Q3))(dP:Q1)(dQ:Int)(dR:Int)(cL:List (Q4))(dp:List (Q4))(ck:Q1)(cl:List (Q3))(cm:Int)(cn:Int)(co:Bool)(cp:Q1)(cr:List (Q3))(cu:List (Q4))(cw:List (Q4))(cx:Int)(cy:Int)(cz:Bool)(cA:Q1)(b9:Q1):Option ((Q4)×Int×Unit) :=
  iter (λ r y=>yH4 n (λ cI bL cJ fe dI bE bF bG bH bI bJ bK aQ aR aS aT aU aV aW aX aY aZ b6 b7 b8 av bf bg aa bQ dN dO dP dQ dR cL dp ck cl cm cn co cp cr cu cw cx cy cz cA b9=>r ((cI,(bL,(cJ,(fe,(dI,()))))),(((bE,(bF,(bG,(bH,(bI,(bJ,(bK,(aQ,(aR,(aS,(aT,(aU,(aV,(aW,(aX,(aY,(aZ,(b6,(b7,(b8,((av,()),()))))))))))))))))))))),((bf,(bg,())),((aa,()),((bQ,()),())))),(dN,(dO,(dP,(dQ,(dR,(cL,(dp,(ck,(cl,(cm,(cn,(co,(cp,(cr,(cu,(cw,(cx,(cy,(cz,(cA,((b9,()),())))))))))))))))))))))))) y.1.1 y.1.2.1 y.1.2.2.1 y.1.2.2.2.1 y.1.2.2.2.2.1 y.2.1.1.1 y.2.1.1.2.1 y.2.1.1.2.2.1 y.2.1.1.2.2.2.1 y.2.1.1.2.2.2.2.1 y.2.1.1.2.2.2.2.2.1 y.2.1.1.2.2.2.2.2.2.1 y.2.1.1.2.2.2.2.2.2.2.1 y.2.1.1.2.2.2.2.2.2.2.2.1 y.2.1.1.2.2.2.2.2.2.2.2.2.1 y.2.1.1.2.2.2.2.2.2.2.2.2.2.1 y.2.1.1.2.2.2.2.2.2.2.2.2.2.2.1 y.2.1.1.2.2.2.2.2.2.2.2.2.2.2.2.1 y.2.1.1.2.2.2.2.2.2.2.2.2.2.2.2.2.1 y.2.1.1.2.2.2.2.2.2.2.2.2.2.2.2.2.2.1 y.2.1.1.2.2.2.2.2.2.2.2.2.2.2.2.2.2.2.1 y.2.1.1.2.2.2.2.2.2.2.2.2.2.2.2.2.2.2.2.1 y.2.1.1.2.2.2.2.2.2.2.2.2.2.2.2.2.2.2.2.2.1 y.2.1.1.2.2.2.2.2.2.2.2.2.2.2.2.2.2.2.2.2.2.1 y.2.1.1.2.2.2.2.2.2.2.2.2.2.2.2.2.2.2.2.2.2.2.1 y.2.1.1.2.2.2.2.2.2.2.2.2.2.2.2.2.2.2.2.2.2.2.2.1.1 y.2.1.2.1.1 y.2.1.2.1.2.1 y.2.1.2.2.1.1 y.2.1.2.2.2.1.1 y.2.2.1 y.2.2.2.1 y.2.2.2.2.1 y.2.2.2.2.2.1 y.2.2.2.2.2.2.1 y.2.2.2.2.2.2.2.1 y.2.2.2.2.2.2.2.2.1 y.2.2.2.2.2.2.2.2.2.1 y.2.2.2.2.2.2.2.2.2.2.1 y.2.2.2.2.2.2.2.2.2.2.2.1 y.2.2.2.2.2.2.2.2.2.2.2.2.1 y.2.2.2.2.2.2.2.2.2.2.2.2.2.1 y.2.2.2.2.2.2.2.2.2.2.2.2.2.2.1 y.2.2.2.2.2.2.2.2.2.2.2.2.2.2.2.1 y.2.2.2.2.2.2.2.2.2.2.2.2.2.2.2.2.1 y.2.2.2.2.2.2.2.2.2.2.2.2.2.2.2.2.2.1 y.2.2.2.2.2.2.2.2.2.2.2.2.2.2.2.2.2.2.1 y.2.2.2.2.2.2.2.2.2.2.2.2.2.2.2.2.2.2.2.1 y.2.2.2.2.2.2.2.2.2.2.2.2.2.2.2.2.2.2.2.2.1 y.2.2.2.2.2.2.2.2.2.2.2.2.2.2.2.2.2.2.2.2.2.1 y.2.2.2.2.2.2.2.2.2.2.2.2.2.2.2.2.2.2.2.2.2.2.1.1) k ((cI,(bL,(cJ,(fe,(dI,()))))),(((bE,(bF,(bG,(bH,(bI,(bJ,(bK,(aQ,(aR,(aS,(aT,(aU,(aV,(aW,(aX,(aY,(aZ,(b6,(b7,(b8,((av,()),()))))))))))))))))))))),((bf,(bg,())),((aa,()),((bQ,()),())))),(dN,(dO,(dP,(dQ,(dR,(cL,(dp,(ck,(cl,(cm,(cn,(co,(cp,(cr,(cu,(cw,(cx,(cy,(cz,(cA,((b9,()),())))))))))))))))))))))))
def yNj(n:Nat)(rp:Q1)(l:List (Q3)):Option ((Q4)×Int×Unit) :=
  (Option.bind (y6Z rp l) λ v0=>(bif v0.1 != 0 then some (((0:Int),(0:Int),()),v0.1,())else (Option.bind (yBO rp l) λ v1=>(bif v1.2.2.1==0 then some (((0:Int),(0:Int),()),(25:Int),())else (y7I n n (rp) (rp.2.2.2.1) (rp.2.2.1) ((↑rp.2.2.1.length:Int)) ((0:Int)) (rp) (l) (rp) ((0:Int)) (v0.1) (v1.1) (v1.2.1) (rp) (l) (v0.1) (v0.1) (v0.1 != 0) (rp) (l) (v1.1) (v1.2.1) (v1.2.2.1) (v1.2.2.1) (v1.2.2.1==0) (rp) (rp) ((0:Int)) ((0:Int)) (v1.2.2.1) ((0:Int)) (rp) (l) (rp) ((0:Int)) (v0.1) (v1.1) (v1.2.1) (rp) (l) (v0.1) (v0.1) (v0.1 != 0) (rp) (l) (v1.1) (v1.2.1) (v1.2.2.1) (v1.2.2.1) (v1.2.2.1==0) (rp) (rp))))))
theorem yYH(n:Nat)(x:yRm.den):runF ybp (yOj n) Tryz.f36 yRm yVz x=yNj n x.1 x.2.1:=by kernel_rfl
def yB5(j10:Q1)(j11:List (Q4))(j12:Int)(j13:Nat)(j14:List Nat)(j15:Int)(j16:Int)(j17:Q1)(j18:List (Q3))(j19:Q1)(j20:Int)(j21:Int)(j22:List (Q4))(j23:List (Q4))(j24:Q1)(j25:List (Q3))(j26:Int)(j27:Int)(j28:Bool)(j29:Q1)(j30:List (Q3))(j31:List (Q4))(j32:List (Q4))(j33:Int)(j34:Int)(j35:Bool)(j36:Q1)(j37:Q1)(j38:Int)(j39:Int)(j40:Int)(j41:Int)(j42:Q1)(j43:List (Q3))(j44:Q1)(j45:Int)(j46:Int)(j47:List (Q4))(j48:List (Q4))(j49:Q1)(j50:List (Q3))(j51:Int)(j52:Int)(j53:Bool)(j54:Q1)(j55:List (Q3))(j56:List (Q4))(j57:List (Q4))(j58:Int)(j59:Int)(j60:Bool)(j61:Q1)(j62:Q1):Option (((Q4)×Int×Unit)⊕((List (Q4))×Int)) :=
  (bif decide ((↑j11.length:Int) > 0)then (Option.bind (idx j11 (0:Int)) λ v63=>(bif decide (v63.1<=j12)then (some (Sum.inr ((j11),(j41))))else (Option.bind (yo Go.FloatKind.f32 (y0A Go.BinOp.mul Go.FloatKind.f32 j13 (nat_lit 1098907648)) IntKind.i64) λ v68=>(some (Sum.inr ((j11),(IntKind.i64.wrap (j41+IntKind.i64.wrap (IntKind.i64.wrap (j40 * v68) * v68)))))))))else (Option.bind (yo Go.FloatKind.f32 (y0A Go.BinOp.mul Go.FloatKind.f32 j13 (nat_lit 1098907648)) IntKind.i64) λ v69=>(some (Sum.inr ((j11),(IntKind.i64.wrap (j41+IntKind.i64.wrap (IntKind.i64.wrap (j40 * v69) * v69))))))))
theorem y2f(n:Nat)(hn:big<=n)(r2:Q1->List (Q4)->List Nat->Int->Int->Q1->List (Q3)->Q1->Int->Int->List (Q4)->List (Q4)->Q1->List (Q3)->Int->Int->Bool->Q1->List (Q3)->List (Q4)->List (Q4)->Int->Int->Bool->Q1->Q1->Int->Int->Int->Int->Q1->List (Q3)->Q1->Int->Int->List (Q4)->List (Q4)->Q1->List (Q3)->Int->Int->Bool->Q1->List (Q3)->List (Q4)->List (Q4)->Int->Int->Bool->Q1->Q1->Option ((Q4)×Int×Unit))(j10:Q1)(j11:List (Q4))(j12:Int)(j13:Nat)(j14:List Nat)(j15:Int)(j16:Int)(j17:Q1)(j18:List (Q3))(j19:Q1)(j20:Int)(j21:Int)(j22:List (Q4))(j23:List (Q4))(j24:Q1)(j25:List (Q3))(j26:Int)(j27:Int)(j28:Bool)(j29:Q1)(j30:List (Q3))(j31:List (Q4))(j32:List (Q4))(j33:Int)(j34:Int)(j35:Bool)(j36:Q1)(j37:Q1)(j38:Int)(j39:Int)(j40:Int)(j41:Int)(j42:Q1)(j43:List (Q3))(j44:Q1)(j45:Int)(j46:Int)(j47:List (Q4))(j48:List (Q4))(j49:Q1)(j50:List (Q3))(j51:Int)(j52:Int)(j53:Bool)(j54:Q1)(j55:List (Q3))(j56:List (Q4))(j57:List (Q4))(j58:Int)(j59:Int)(j60:Bool)(j61:Q1)(j62:Q1):LeF (elim some λ (a7:((List (Q4))×Int))=>r2 j10 a7.1 j14 j15 (IntKind.i64.wrap (j16+1)) j17 j18 j19 j20 j21 j22 j23 j24 j25 j26 j27 j28 j29 j30 j31 j32 j33 j34 j35 j36 j37 j38 j39 j40 a7.2 j42 j43 j44 j45 j46 j47 j48 j49 j50 j51 j52 j53 j54 j55 j56 j57 j58 j59 j60 j61 j62) (yB5 j10 j11 j12 j13 j14 j15 j16 j17 j18 j19 j20 j21 j22 j23 j24 j25 j26 j27 j28 j29 j30 j31 j32 j33 j34 j35 j36 j37 j38 j39 j40 j41 j42 j43 j44 j45 j46 j47 j48 j49 j50 j51 j52 j53 j54 j55 j56 j57 j58 j59 j60 j61 j62) (y83 n r2 j10 j11 j12 j13 j14 j15 j16 j17 j18 j19 j20 j21 j22 j23 j24 j25 j26 j27 j28 j29 j30 j31 j32 j33 j34 j35 j36 j37 j38 j39 j40 j41 j42 j43 j44 j45 j46 j47 j48 j49 j50 j51 j52 j53 j54 j55 j56 j57 j58 j59 j60 j61 j62) :=
  (y6 (y8 λ v63=>(y6 (y7 rfl) (y8 λ v68=>(y7 rfl)))) (y8 λ v69=>(y7 rfl)))
def yKK(cC:Q1)(dy:Int)(dM:Nat)(cj:List Nat)(bh:Int)(ba:Int)(ax:Q1)(ay:List (Q3))(az:Q1)(aA:Int)(aB:Int)(bl:List (Q4))(bm:List (Q4))(ah:Q1)(ai:List (Q3))(aj:Int)(ak:Int)(al:Bool)(am:Q1)(aF:List (Q3))(aq:List (Q4))(aG:List (Q4))(aH:Int)(aI:Int)(aJ:Bool)(aK:Q1)(ae:Q1)(aC:Int)(aD:Int)(aw:Int)(bD:Int)(cD:Q1)(cE:List (Q3))(cF:Q1)(cG:Int)(cH:Int)(dz:List (Q4))(dA:List (Q4))(bn:Q1)(bp:List (Q3))(bq:Int)(br:Int)(bt:Bool)(bu:Q1)(bT:List (Q3))(bv:List (Q4))(bU:List (Q4))(bV:Int)(bW:Int)(bX:Bool)(bY:Q1)(aL:Q1)(ac:List (Q4)):Option ((((Q4)×Int×Unit)⊕((List (Q4))×Int))⊕(List (Q4))) :=
  (bif decide ((↑ac.length:Int) > 0)then (Option.bind (idx ac (0:Int)) λ v5=>(bif decide (v5.2.1<=dy)then (bif decide ((0:Int)<=1) && decide ((1:Int)<=(↑ac.length:Int))then (some (Sum.inr (List.drop (Int.toNat (1:Int)) ac)))else none)else (Option.map Sum.inl (yB5 (cC) (ac) (dy) (dM) (cj) (bh) (ba) (ax) (ay) (az) (aA) (aB) (bl) (bm) (ah) (ai) (aj) (ak) (al) (am) (aF) (aq) (aG) (aH) (aI) (aJ) (aK) (ae) (aC) (aD) (aw) (bD) (cD) (cE) (cF) (cG) (cH) (dz) (dA) (bn) (bp) (bq) (br) (bt) (bu) (bT) (bv) (bU) (bV) (bW) (bX) (bY) (aL)))))else (Option.map Sum.inl (yB5 (cC) (ac) (dy) (dM) (cj) (bh) (ba) (ax) (ay) (az) (aA) (aB) (bl) (bm) (ah) (ai) (aj) (ak) (al) (am) (aF) (aq) (aG) (aH) (aI) (aJ) (aK) (ae) (aC) (aD) (aw) (bD) (cD) (cE) (cF) (cG) (cH) (dz) (dA) (bn) (bp) (bq) (br) (bt) (bu) (bT) (bv) (bU) (bV) (bW) (bX) (bY) (aL))))
theorem yDx(n:Nat)(hn:big<=n)(r2:Q1->List (Q4)->List Nat->Int->Int->Q1->List (Q3)->Q1->Int->Int->List (Q4)->List (Q4)->Q1->List (Q3)->Int->Int->Bool->Q1->List (Q3)->List (Q4)->List (Q4)->Int->Int->Bool->Q1->Q1->Int->Int->Int->Int->Q1->List (Q3)->Q1->Int->Int->List (Q4)->List (Q4)->Q1->List (Q3)->Int->Int->Bool->Q1->List (Q3)->List (Q4)->List (Q4)->Int->Int->Bool->Q1->Q1->Option ((Q4)×Int×Unit))(cC:Q1)(dy:Int)(dM:Nat)(cj:List Nat)(bh:Int)(ba:Int)(ax:Q1)(ay:List (Q3))(az:Q1)(aA:Int)(aB:Int)(bl:List (Q4))(bm:List (Q4))(ah:Q1)(ai:List (Q3))(aj:Int)(ak:Int)(al:Bool)(am:Q1)(aF:List (Q3))(aq:List (Q4))(aG:List (Q4))(aH:Int)(aI:Int)(aJ:Bool)(aK:Q1)(ae:Q1)(aC:Int)(aD:Int)(aw:Int)(bD:Int)(cD:Q1)(cE:List (Q3))(cF:Q1)(cG:Int)(cH:Int)(dz:List (Q4))(dA:List (Q4))(bn:Q1)(bp:List (Q3))(bq:Int)(br:Int)(bt:Bool)(bu:Q1)(bT:List (Q3))(bv:List (Q4))(bU:List (Q4))(bV:Int)(bW:Int)(bX:Bool)(bY:Q1)(aL:Q1)(ac:List (Q4)):LeF (elim some λ (a7:((List (Q4))×Int))=>r2 cC a7.1 cj bh (IntKind.i64.wrap (ba+1)) ax ay az aA aB bl bm ah ai aj ak al am aF aq aG aH aI aJ aK ae aC aD aw a7.2 cD cE cF cG cH dz dA bn bp bq br bt bu bT bv bU bV bW bX bY aL) (y1e (λ a7=>yKK cC dy dM cj bh ba ax ay az aA aB bl bm ah ai aj ak al am aF aq aG aH aI aJ aK ae aC aD aw bD cD cE cF cG cH dz dA bn bp bq br bt bu bT bv bU bV bW bX bY aL a7) wMax ac) (y6v n r2 n cC ac dy dM cj bh ba ax ay az aA aB bl bm ah ai aj ak al am aF aq aG aH aI aJ aK ae aC aD aw bD cD cE cF cG cH dz dA bn bp bq br bt bu bT bv bU bV bW bX bY aL):=by
  refine y37 (f:=(elim some λ (a7:((List (Q4))×Int))=>r2 cC a7.1 cj bh (IntKind.i64.wrap (ba+1)) ax ay az aA aB bl bm ah ai aj ak al am aF aq aG aH aI aJ aK ae aC aD aw a7.2 cD cE cF cG cH dz dA bn bp bq br bt bu bT bv bU bV bW bX bY aL)) (W:=λ ci a7=>y6v n r2 ci cC a7 dy dM cj bh ba ax ay az aA aB bl bm ah ai aj ak al am aF aq aG aH aI aJ aK ae aC aD aw bD cD cE cF cG cH dz dA bn bp bq br bt bu bT bv bU bV bW bX bY aL) (body:=(λ a7=>yKK cC dy dM cj bh ba ax ay az aA aB bl bm ah ai aj ak al am aF aq aG aH aI aJ aK ae aC aD aw bD cD cE cF cG cH dz dA bn bp bq br bt bu bT bv bU bV bW bX bY aL a7)) (λ ci a7=>?_) wMax n ac (by unfold big at hn;unfold wMax;omega)
  show LeF _ _ (yFa n r2 (y6v n r2 ci) cC a7 dy dM cj bh ba ax ay az aA aB bl bm ah ai aj ak al am aF aq aG aH aI aJ aK ae aC aD aw bD cD cE cF cG cH dz dA bn bp bq br bt bu bT bv bU bV bW bX bY aL)
  exact (y6 (y8 λ v5=>(y6 (y6 (y7 rfl) yq) (yr (by apply y2f n hn)))) (yr (by apply y2f n hn)))
def y4j(cg:List (Q4))(aO:List (Q4))(bc:Int)(be:Int)(aN:Int)(cM:Int)(v75:Q4)(bz:Int):Option (((Q4)×Int×Unit)⊕(Int)) :=
  (Option.bind (idx cg cM) λ v76=>(some (Sum.inr (IntKind.i64.wrap (bz - (z1F (z05 v76).1 (v75.1,v75.2.1,())).1.1)))))
def y4c(cg:List (Q4))(aO:List (Q4))(bc:Int)(be:Int)(aN:Int)(bz:Int):Option ((Q4)×Int×Unit) :=
  (Option.bind (yDD bz aN) λ v77=>(some (((v77.1.1,v77.1.2.1,()),(0:Int),()))))
theorem yCX(n:Nat)(hn:big<=n)(cg:List (Q4))(aO:List (Q4))(bc:Int)(be:Int)(aN:Int)(bz:Int)(hx:List.length (aO) < lenMax):LeF some (yM (λ ar dB a7=>y4j cg aO bc be aN ar dB a7) (λ a7=>y4c cg aO bc be aN a7) 0 (aO) bz) (y5A n n cg aO (List.length (aO):Int) 0 bc be aN bz):=by
  refine yQ (f:=some) (W:=λ ci ar a7=>y5A n ci cg aO (List.length (aO):Int) ar bc be aN a7) (body:=(λ ar dB a7=>y4j cg aO bc be aN ar dB a7)) (fin:=(λ a7=>y4c cg aO bc be aN a7)) (λ ci ar a7=>?_) hx bz n (by unfold big at hn;unfold lenMax at hx;omega)
  show LeF _ _ (yDJ n (y5A n ci) cg aO (List.length (aO):Int) ar bc be aN a7)
  exact y6 (y8 λ v75=>(y8 λ v76=>(y7 rfl))) (yr (y8 λ v77=>(y7 rfl)))
def yGH(cI:Q1)(cJ:List Nat)(bE:Q1)(bF:List (Q3))(bG:Q1)(bH:Int)(bI:Int)(bJ:List (Q4))(bK:List (Q4))(aQ:Q1)(aR:List (Q3))(aS:Int)(aT:Int)(aU:Bool)(aV:Q1)(aW:List (Q3))(aX:List (Q4))(aY:List (Q4))(aZ:Int)(b6:Int)(b7:Bool)(b8:Q1)(av:Q1)(bf:Int)(bg:Int)(aa:Int)(dN:Q1)(dO:List (Q3))(dP:Q1)(dQ:Int)(dR:Int)(cL:List (Q4))(dp:List (Q4))(ck:Q1)(cl:List (Q3))(cm:Int)(cn:Int)(co:Bool)(cp:Q1)(cr:List (Q3))(cu:List (Q4))(cw:List (Q4))(cx:Int)(cy:Int)(cz:Bool)(cA:Q1)(b9:Q1)(dI:Int)(v3:Nat)(bL:List (Q4))(bQ:Int):Option (((Q4)×Int×Unit)⊕((List (Q4))×Int)) :=
  (y1e (λ a7=>yKK (cI) (dI) (v3) (cJ) ((↑cJ.length:Int)) (dI) (bE) (bF) (bG) (bH) (bI) (bJ) (bK) (aQ) (aR) (aS) (aT) (aU) (aV) (aW) (aX) (aY) (aZ) (b6) (b7) (b8) (av) (bf) (bg) (aa) (bQ) (dN) (dO) (dP) (dQ) (dR) (cL) (dp) (ck) (cl) (cm) (cn) (co) (cp) (cr) (cu) (cw) (cx) (cy) (cz) (cA) (b9) a7) wMax (bL))
def yGB(cI:Q1)(cJ:List Nat)(bE:Q1)(bF:List (Q3))(bG:Q1)(bH:Int)(bI:Int)(bJ:List (Q4))(bK:List (Q4))(aQ:Q1)(aR:List (Q3))(aS:Int)(aT:Int)(aU:Bool)(aV:Q1)(aW:List (Q3))(aX:List (Q4))(aY:List (Q4))(aZ:Int)(b6:Int)(b7:Bool)(b8:Q1)(av:Q1)(bf:Int)(bg:Int)(aa:Int)(dN:Q1)(dO:List (Q3))(dP:Q1)(dQ:Int)(dR:Int)(cL:List (Q4))(dp:List (Q4))(ck:Q1)(cl:List (Q3))(cm:Int)(cn:Int)(co:Bool)(cp:Q1)(cr:List (Q3))(cu:List (Q4))(cw:List (Q4))(cx:Int)(cy:Int)(cz:Bool)(cA:Q1)(b9:Q1)(bL:List (Q4))(bQ:Int):Option ((Q4)×Int×Unit) :=
  (bif decide (List.length (cL) < lenMax)then yM (λ ar dB a7=>y4j (dp) (cL) (bf) (bg) (aa) ar dB a7) (λ a7=>y4c (dp) (cL) (bf) (bg) (aa) a7) 0 (cL) (bQ)else none)
theorem yEl(n:Nat)(hn:big<=n)(cI:Q1)(cJ:List Nat)(bE:Q1)(bF:List (Q3))(bG:Q1)(bH:Int)(bI:Int)(bJ:List (Q4))(bK:List (Q4))(aQ:Q1)(aR:List (Q3))(aS:Int)(aT:Int)(aU:Bool)(aV:Q1)(aW:List (Q3))(aX:List (Q4))(aY:List (Q4))(aZ:Int)(b6:Int)(b7:Bool)(b8:Q1)(av:Q1)(bf:Int)(bg:Int)(aa:Int)(dN:Q1)(dO:List (Q3))(dP:Q1)(dQ:Int)(dR:Int)(cL:List (Q4))(dp:List (Q4))(ck:Q1)(cl:List (Q3))(cm:Int)(cn:Int)(co:Bool)(cp:Q1)(cr:List (Q3))(cu:List (Q4))(cw:List (Q4))(cx:Int)(cy:Int)(cz:Bool)(cA:Q1)(b9:Q1)(bL:List (Q4))(bQ:Int)(hx:List.length (cJ) < lenMax):LeF some (yM (λ ar dB a7=>yGH cI cJ bE bF bG bH bI bJ bK aQ aR aS aT aU aV aW aX aY aZ b6 b7 b8 av bf bg aa dN dO dP dQ dR cL dp ck cl cm cn co cp cr cu cw cx cy cz cA b9 ar dB a7.1 a7.2) (λ a7=>yGB cI cJ bE bF bG bH bI bJ bK aQ aR aS aT aU aV aW aX aY aZ b6 b7 b8 av bf bg aa dN dO dP dQ dR cL dp ck cl cm cn co cp cr cu cw cx cy cz cA b9 a7.1 a7.2) 0 (cJ) (bL,bQ)) (y7I n n cI bL cJ (List.length (cJ):Int) 0 bE bF bG bH bI bJ bK aQ aR aS aT aU aV aW aX aY aZ b6 b7 b8 av bf bg aa bQ dN dO dP dQ dR cL dp ck cl cm cn co cp cr cu cw cx cy cz cA b9):=by
  refine yQ (f:=some) (W:=λ ci ar a7=>y7I n ci cI a7.1 cJ (List.length (cJ):Int) ar bE bF bG bH bI bJ bK aQ aR aS aT aU aV aW aX aY aZ b6 b7 b8 av bf bg aa a7.2 dN dO dP dQ dR cL dp ck cl cm cn co cp cr cu cw cx cy cz cA b9) (body:=(λ ar dB a7=>yGH cI cJ bE bF bG bH bI bJ bK aQ aR aS aT aU aV aW aX aY aZ b6 b7 b8 av bf bg aa dN dO dP dQ dR cL dp ck cl cm cn co cp cr cu cw cx cy cz cA b9 ar dB a7.1 a7.2)) (fin:=(λ a7=>yGB cI cJ bE bF bG bH bI bJ bK aQ aR aS aT aU aV aW aX aY aZ b6 b7 b8 av bf bg aa dN dO dP dQ dR cL dp ck cl cm cn co cp cr cu cw cx cy cz cA b9 a7.1 a7.2)) (λ ci ar a7=>?_) hx (bL,bQ) n (by unfold big at hn;unfold lenMax at hx;omega)
  show LeF _ _ (yH4 n (y7I n ci) cI a7.1 cJ (List.length (cJ):Int) ar bE bF bG bH bI bJ bK aQ aR aS aT aU aV aW aX aY aZ b6 b7 b8 av bf bg aa a7.2 dN dO dP dQ dR cL dp ck cl cm cn co cp cr cu cw cx cy cz cA b9)
  exact y6 (y8 λ v3=>(by apply yDx n hn)) (yr (yN λ hx=>by apply yCX n hn;exact hx))
def yCN(rp:Q1)(l:List (Q3)):Option ((Q4)×Int×Unit) :=
  (Option.bind (y6Z rp l) λ v0=>(bif v0.1 != 0 then (some ((((0:Int),(0:Int),()),v0.1,())))else (Option.bind (yBO rp l) λ v1=>(bif v1.2.2.1==0 then (some ((((0:Int),(0:Int),()),(25:Int),())))else (bif decide (List.length (rp.2.2.1) < lenMax)then yM (λ ar dB a7=>yGH (rp) (rp.2.2.1) (rp) (l) (rp) ((0:Int)) (v0.1) (v1.1) (v1.2.1) (rp) (l) (v0.1) (v0.1) (v0.1 != 0) (rp) (l) (v1.1) (v1.2.1) (v1.2.2.1) (v1.2.2.1) (v1.2.2.1==0) (rp) (rp) ((0:Int)) ((0:Int)) (v1.2.2.1) (rp) (l) (rp) ((0:Int)) (v0.1) (v1.1) (v1.2.1) (rp) (l) (v0.1) (v0.1) (v0.1 != 0) (rp) (l) (v1.1) (v1.2.1) (v1.2.2.1) (v1.2.2.1) (v1.2.2.1==0) (rp) (rp) ar dB a7.1 a7.2) (λ a7=>yGB (rp) (rp.2.2.1) (rp) (l) (rp) ((0:Int)) (v0.1) (v1.1) (v1.2.1) (rp) (l) (v0.1) (v0.1) (v0.1 != 0) (rp) (l) (v1.1) (v1.2.1) (v1.2.2.1) (v1.2.2.1) (v1.2.2.1==0) (rp) (rp) ((0:Int)) ((0:Int)) (v1.2.2.1) (rp) (l) (rp) ((0:Int)) (v0.1) (v1.1) (v1.2.1) (rp) (l) (v0.1) (v0.1) (v0.1 != 0) (rp) (l) (v1.1) (v1.2.1) (v1.2.2.1) (v1.2.2.1) (v1.2.2.1==0) (rp) (rp) a7.1 a7.2) 0 (rp.2.2.1) ((rp.2.2.2.1),((0:Int)))else none)))))
theorem yTW(rp:Q1)(l:List (Q3))(y:(Q4)×Int×Unit)(h:yCN rp l=some y):∃ n,yNj n rp l=some y :=
  ⟨big,LeF.top (show LeF some (yCN rp l) (yNj big rp l)from (λ (n:Nat) (hn:big<=n)=>show LeF some (yCN rp l) (yNj n rp l)from (y8 λ v0=>(y6 (y7 rfl) (y8 λ v1=>(y6 (y7 rfl) (yN λ hx=>by apply yEl n hn;exact hx)))))) big (Nat.le_refl _)) h⟩
def z15_e:Entry:={ f:=36,args:=yRm,ress:=yVz,m:=λ x=>yCN x.1 x.2.1 }
theorem yPB:FnOK Tryz.prog z15_e:=yJ (g:=ybp) (fn:=Tryz.f36) yC yI (yA y8F (yA yPl (yA yJL (yA yGG (yA yKO eNil))))) (by kernel_rfl) (by kernel_rfl) (by kernel_rfl) (λ x y h=>let ⟨n,hn⟩:=yTW x.1 x.2.1 y h;⟨yOj n,(y5G y5F (y5G y5D iNil)),(yYH n x).trans hn⟩)
abbrev yS1:Ty:=.pair t60 (.pair t31 .unit)
abbrev yWR:Ty:=.pair t96 (.pair t28 .unit)
def yWt:G:={ T:=T,E:=[z18_e,z0n_e],muts:=[],fz:=[] }
def yfi:List (List Nat):=[]
def yQK(n:Nat):Ann:={ keep:=yfi,fuel:=n,inl:=[],deep:=0 }
def yTR(n:Nat)(rp:Q1)(l:List (Q3)):Option (List (List (Q4))×Int×Unit) :=
  (Option.bind (y6Z rp l) λ v0=>(bif v0.1 != 0 then some ([],v0.1,())else (Option.bind (y90 rp l) λ v1=>some (v1.1,(0:Int),()))))
theorem yXd(n:Nat)(x:yS1.den):runF yWt (yQK n) Tryz.f55 yS1 yWR x=yTR n x.1 x.2.1:=by kernel_rfl
def yTB(rp:Q1)(l:List (Q3)):Option (List (List (Q4))×Int×Unit):=yTR 0 rp l
theorem yUy(rp:Q1)(l:List (Q3))(y:List (List (Q4))×Int×Unit)(h:yTB rp l=some y):∃ n,yTR n rp l=some y:=⟨0,h⟩
def z0j_e:Entry:={ f:=55,args:=yS1,ress:=yWR,m:=λ x=>yTB x.1 x.2.1 }
theorem ybb:FnOK Tryz.prog z0j_e:=yJ (g:=yWt) (fn:=Tryz.f55) yC yI (yA y8F (yA yCl eNil)) (by kernel_rfl) (by kernel_rfl) (by kernel_rfl) (λ x y h=>let ⟨n,hn⟩:=yUy x.1 x.2.1 y h;⟨yQK n,iNil,(yXd n x).trans hn⟩)
abbrev yQz:Ty:=.pair t60 (.pair t31 .unit)
abbrev yWy:Ty:=.pair t3 (.pair t28 .unit)
def ybz:G:={ T:=T,E:=[z18_e,z6_e,z06_e],muts:=[24],fz:=[7,27] }
def yfa:List (List Nat):=[[2,7,17,18,19,1000007]]
def yQ5(n:Nat):Ann:={ keep:=yfa,fuel:=n,inl:=[],deep:=0 }
def yNC(n:Nat)(r1:Q1->List (Q3)->List (Q3)->Int->Int->Option (Q4))(bA:Q1)(cc:List (Q3))(eY:List (Q3))(eZ:Int)(eF:Int):Option (Q4) :=
  (bif decide (eF < eZ)then (Option.bind (idx eY eF) λ v2=>(bif decide (cc.length<=memMax)then (bif decide (cc.length+(1:Nat)<=memMax)then (Option.bind (yMy bA (cc++[(v2.1,v2.2.1,v2.2.2.1,())])) λ v3=>(bif !v3.1 then r1 bA (cc++[(v2.1,v2.2.1,v2.2.2.1,())]) eY eZ (IntKind.i64.wrap (eF+1))else r1 bA cc eY eZ (IntKind.i64.wrap (eF+1))))else none)else none))else some ((↑cc.length:Int),(0:Int),()))
def yNT(n:Nat)(k:Nat)(bA:Q1)(cc:List (Q3))(eY:List (Q3))(eZ:Int)(eF:Int):Option (Q4) :=
  iter (λ r y=>yNC n (λ bA cc eY eZ eF=>r ((bA,(cc,(eY,(eZ,(eF,()))))),((),()))) y.1.1 y.1.2.1 y.1.2.2.1 y.1.2.2.2.1 y.1.2.2.2.2.1) k ((bA,(cc,(eY,(eZ,(eF,()))))),((),()))
def yUS(n:Nat)(rp:Q1)(l:List (Q3)):Option (Q4) :=
  (Option.bind (y6Z rp l) λ v0=>(bif v0.1 != 0 then some ((0:Int),v0.1,())else (yNT n n (rp) ([]) (l) ((↑l.length:Int)) ((0:Int)))))
theorem yWX(n:Nat)(x:yQz.den):runF ybz (yQ5 n) Tryz.f57 yQz yWy x=yUS n x.1 x.2.1:=by kernel_rfl
def ySF(rp:Q1)(l:List (Q3)):Option (Q4):=yUS 1000 rp l
theorem ySg(rp:Q1)(l:List (Q3))(y:Q4)(h:ySF rp l=some y):∃ n,yUS n rp l=some y:=⟨1000,h⟩
def z1K_e:Entry:={ f:=57,args:=yQz,ress:=yWy,m:=λ x=>ySF x.1 x.2.1 }
theorem ycM:FnOK Tryz.prog z1K_e:=yJ (g:=ybz) (fn:=Tryz.f57) yC yI (yA y8F (yA ydc (yA yQ9 eNil))) (by kernel_rfl) (by kernel_rfl) (by kernel_rfl) (λ x y h=>let ⟨n,hn⟩:=ySg x.1 x.2.1 y h;⟨yQ5 n,iNil,(yWX n x).trans hn⟩)
abbrev yUb:Ty:=.pair t60 (.pair t31 .unit)
abbrev yal:Ty:=.pair t100 (.pair t28 .unit)
def ybU:G:={ T:=T,E:=[z18_e,z1E_e,z1A_e],muts:=[8],fz:=[] }
def ycy:List (List Nat):=[[1,2,7,8,22]]
def yQB(n:Nat):Ann:={ keep:=ycy,fuel:=n,inl:=[],deep:=0 }
def yNU(n:Nat)(r2:List (Q3)->Q1->Int->Int->List (List Int)->Option (List (List Int)×Int×Unit))(bB:List (Q3))(bM:Q1)(f0:Int)(aP:Int)(aE:List (List Int)):Option (List (List Int)×Int×Unit) :=
  (bif decide (aP < 16)then (bif decide (IntKind.i64.wrap (aP.tdiv (4:Int)) > aP.tmod (4:Int))then r2 bB bM f0 (IntKind.i64.wrap (aP+1)) aE else (bif eqV (Ty.arr (2:Nat) (Ty.int IntKind.i64)) [IntKind.i64.wrap (aP.tdiv (4:Int)),aP.tmod (4:Int)] [aP.tmod (4:Int),IntKind.i64.wrap (aP.tdiv (4:Int))]then r2 bB bM f0 (IntKind.i64.wrap (aP+1)) aE else (bif decide (aP.tmod (4:Int) >= (↑bB.length:Int))then r2 bB bM f0 (IntKind.i64.wrap (aP+1)) aE else (Option.bind (idx bB (IntKind.i64.wrap (aP.tdiv (4:Int)))) λ v7=>(Option.bind (idx bB (aP.tmod (4:Int))) λ v8=>(Option.bind (yAP bM v7 v8) λ v9=>(bif IntKind.i64.wrap (IntKind.i64.wrap (v9.1.1 * v9.1.1)+IntKind.i64.wrap (v9.1.2.1 * v9.1.2.1))==IntKind.i64.wrap (f0 * f0)then (bif decide (aE.length+(1:Nat)<=memMax)then r2 bB bM f0 (IntKind.i64.wrap (aP+1)) (aE++[[IntKind.i64.wrap (aP.tdiv (4:Int)),aP.tmod (4:Int)]])else none)else r2 bB bM f0 (IntKind.i64.wrap (aP+1)) aE)))))))else some (aE,(0:Int),()))
def yOO(n:Nat)(k:Nat)(bB:List (Q3))(bM:Q1)(f0:Int)(aP:Int)(aE:List (List Int)):Option (List (List Int)×Int×Unit) :=
  iter (λ r y=>yNU n (λ bB bM f0 aP aE=>r ((bB,(bM,(f0,(aP,())))),((aE,()),()))) y.1.1 y.1.2.1 y.1.2.2.1 y.1.2.2.2.1 y.2.1.1) k ((bB,(bM,(f0,(aP,())))),((aE,()),()))
def yUQ(n:Nat)(rp:Q1)(l:List (Q3)):Option (List (List Int)×Int×Unit) :=
  (Option.bind (y6Z rp l) λ v0=>(bif v0.1 != 0 then some ([],v0.1,())else (Option.bind (yBq rp) λ v1=>(yOO n n (l) (rp) ((↑v1.1.length:Int)) ((0:Int)) ([])))))
theorem yb0(n:Nat)(x:yUb.den):runF ybU (yQB n) Tryz.f58 yUb yal x=yUQ n x.1 x.2.1:=by kernel_rfl
def ySC(rp:Q1)(l:List (Q3)):Option (List (List Int)×Int×Unit):=yUQ 1000 rp l
theorem ySa(rp:Q1)(l:List (Q3))(y:List (List Int)×Int×Unit)(h:ySC rp l=some y):∃ n,yUQ n rp l=some y:=⟨1000,h⟩
def z13_e:Entry:={ f:=58,args:=yUb,ress:=yal,m:=λ x=>ySC x.1 x.2.1 }
theorem yW1:FnOK Tryz.prog z13_e:=yJ (g:=ybU) (fn:=Tryz.f58) yC yI (yA y8F (yA yPA (yA yJn eNil))) (by kernel_rfl) (by kernel_rfl) (by kernel_rfl) (λ x y h=>let ⟨n,hn⟩:=ySa x.1 x.2.1 y h;⟨yQB n,iNil,(yb0 n x).trans hn⟩)
abbrev yRB:Ty:=.pair t94 (.pair t22 .unit)
abbrev yWF:Ty:=.pair t3 .unit
def ybS:G:={ T:=T,E:=[zX_e,zJ_e,z0a_e],muts:=[],fz:=[] }
def yf8:List (List Nat):=[]
def yOh(n:Nat):Ann:={ keep:=yf8,fuel:=n,inl:=[],deep:=0 }
def yMJ(n:Nat)(rp:Q1)(l:List (Q3)):Option (Int×Unit) :=
  (Option.bind (zX_M rp) λ v0=>(Option.bind (zJ_M l) λ v1=>(Option.bind (y8e [v0.1,v1.1]) λ v2=>some (v2.1,()))))
theorem ycI(n:Nat)(x:yRB.den):runF ybS (yOh n) Tryz.f59 yRB yWF x=yMJ n x.1 x.2.1:=by kernel_rfl
def yNm(rp:Q1)(l:List (Q3)):Option (Int×Unit):=yMJ 0 rp l
theorem yTE(rp:Q1)(l:List (Q3))(y:Int×Unit)(h:yNm rp l=some y):∃ n,yMJ n rp l=some y:=⟨0,h⟩
def z0s_e:Entry:={ f:=59,args:=yRB,ress:=yWF,m:=λ x=>yNm x.1 x.2.1 }
theorem yYr:FnOK Tryz.prog z0s_e:=yJ (g:=ybS) (fn:=Tryz.f59) yC yI (yA ydJ (yA yeN (yA yKy eNil))) (by kernel_rfl) (by kernel_rfl) (by kernel_rfl) (λ x y h=>let ⟨n,hn⟩:=yTE x.1 x.2.1 y h;⟨yOh n,iNil,(ycI n x).trans hn⟩)
abbrev ySO:Ty:=.pair t60 (.pair t31 .unit)
abbrev yXX:Ty:=.pair t23 (.pair t28 .unit)
def yWU:G:={ T:=T,E:=[z18_e,z06_e,z0n_e,z0B_e,zA_e,zl_e,zK_e,z0o_e],muts:=[],fz:=[] }
def ydI:List (List Nat):=[[2,3,7,22,23],[7,9,10,11,51,52]]
def yPa(n:Nat):Ann:={ keep:=ydI,fuel:=n,inl:=[],deep:=0 }
def yJm(n:Nat)(r10:Int->List (List (Q4))->List (Q4)->Int->Int->List (Q4)->Option (List (Q4)×Int×Unit))(dJ:Int)(f9:List (List (Q4)))(bP:List (Q4))(eC:Int)(cN:Int)(dT:List (Q4)):Option (List (Q4)×Int×Unit) :=
  (bif decide (cN < eC)then (Option.bind (zl_M f9 cN bP) λ v11=>(Option.bind (zK_M v11.1) λ v12=>(Option.bind (idx dT cN) λ v13=>(Option.bind (dT[cN.toNat]?) λ v14=>r10 dJ f9 bP eC (IntKind.i64.wrap (cN+1)) (dT.set cN.toNat v12.1)))))else (Option.bind (zK_M f9) λ v15=>(Option.bind (idx dT dJ) λ v16=>(Option.bind (dT[dJ.toNat]?) λ v17=>some (dT.set dJ.toNat (z0o v15.1 (-1:Int)).1,(0:Int),())))))
def yLb(n:Nat)(k:Nat)(dJ:Int)(f9:List (List (Q4)))(bP:List (Q4))(eC:Int)(cN:Int)(dT:List (Q4)):Option (List (Q4)×Int×Unit) :=
  iter (λ r y=>yJm n (λ dJ f9 bP eC cN dT=>r ((dJ,(f9,(bP,(eC,(cN,()))))),((dT,()),()))) y.1.1 y.1.2.1 y.1.2.2.1 y.1.2.2.2.1 y.1.2.2.2.2.1 y.2.1.1) k ((dJ,(f9,(bP,(eC,(cN,()))))),((dT,()),()))
def yCM(n:Nat)(j3:Int)(j4:Q1)(j5:List (Q3)):Option (List (Q4)×Int×Unit) :=
  (bif j3==(↑j5.length:Int)then some ([],(7:Int),())else (bif decide ((0:Int)<=j3) && decide (j3<=(↑j5.length:Int))then (Option.bind (y90 j4 (List.take j3.toNat j5)) λ v8=>(bif decide ((0:Int)<=j3) && decide (j3<=(↑j5.length:Int))then (Option.bind (zA_M (List.take j3.toNat j5) λ (x:(Q3)×Unit)=>yUU x.1 j4 j5 j3) λ v9=>(bif Bool.true && decide ((0:Int)<=(↑j5.length:Int)) && decide ((↑j5.length:Int)<=(↑memMax:Int)) && (↑j5.length:Int)==(↑j5.length:Int)then (yLb n n (j3) (v8.1) (v9.1) (j3) ((0:Int)) ((List.replicate ((↑j5.length:Int).toNat) (((0:Int),(0:Int),())):List (Q4))))else none))else none))else none))
def yLt(n:Nat)(r1:Q1->List (Q3)->Int->Int->Int->Option (List (Q4)×Int×Unit))(bA:Q1)(fh:List (Q3))(ff:Int)(dU:Int)(eD:Int):Option (List (Q4)×Int×Unit) :=
  (bif decide (dU < ff)then (bif decide ((0:Int)<=IntKind.i64.wrap (dU+1)) && decide (IntKind.i64.wrap (dU+1)<=(↑fh.length:Int))then (Option.bind (yMy bA (List.take (IntKind.i64.wrap (dU+1)).toNat fh)) λ v2=>(bif v2.1 then (yCM n (dU) (bA) (fh))else r1 bA fh ff (IntKind.i64.wrap (dU+1)) eD))else none)else (yCM n (eD) (bA) (fh)))
def yOb(n:Nat)(k:Nat)(bA:Q1)(fh:List (Q3))(ff:Int)(dU:Int)(eD:Int):Option (List (Q4)×Int×Unit) :=
  iter (λ r y=>yLt n (λ bA fh ff dU eD=>r ((bA,(fh,(ff,(dU,())))),(((eD,()),()),()))) y.1.1 y.1.2.1 y.1.2.2.1 y.1.2.2.2.1 y.2.1.1.1) k ((bA,(fh,(ff,(dU,())))),(((eD,()),()),()))
def yTJ(n:Nat)(rp:Q1)(l:List (Q3)):Option (List (Q4)×Int×Unit) :=
  (Option.bind (y6Z rp l) λ v0=>(bif v0.1 != 0 then some ([],v0.1,())else (yOb n n (rp) (l) ((↑l.length:Int)) ((0:Int)) ((↑l.length:Int)))))
theorem yVB(n:Nat)(x:ySO.den):runF yWU (yPa n) Tryz.f89 ySO yXX x=yTJ n x.1 x.2.1:=by kernel_rfl
def yTQ(rp:Q1)(l:List (Q3)):Option (List (Q4)×Int×Unit):=yTJ 1000 rp l
theorem yTM(rp:Q1)(l:List (Q3))(y:List (Q4)×Int×Unit)(h:yTQ rp l=some y):∃ n,yTJ n rp l=some y:=⟨1000,h⟩
def z0h_e:Entry:={ f:=89,args:=ySO,ress:=yXX,m:=λ x=>yTQ x.1 x.2.1 }
theorem yaQ:FnOK Tryz.prog z0h_e:=yJ (g:=yWU) (fn:=Tryz.f89) yC yI (yA y8F (yA yQ9 (yA yCl (yA yYP (yA yRj (yA yWv (yA yLy (yA yIy eNil)))))))) (by kernel_rfl) (by kernel_rfl) (by kernel_rfl) (λ x y h=>let ⟨n,hn⟩:=yTM x.1 x.2.1 y h;⟨yPa n,iNil,(yVB n x).trans hn⟩)
end
end Go.Tw
end
section
set_option maxRecDepth 1000000
namespace Go.Tw
open Go.Vx Go.Vx.B Go.Proofs
noncomputable section
def il102:Inl:={ f:=102,fn:=Tryz.f102,keep:=[],muts:=[3,5],fz:=[5],rc:=true }
theorem yNE:y6e Tryz.prog il102:=⟨by kernel_rfl,by kernel_rfl,λ e0 h=>by cases (show (none:Option LibK)=some e0 from h)⟩
abbrev yV4:Ty:=.unit
abbrev yVb:Ty:=.pair t4 .unit
def yWf:G:={ T:=T,E:=[z0w_e,z0Y_e,z0j_e,zj_e,z0P_e,z15_e,z0Q_e,zy_e,zZ_e,z13_e,z0h_e,z1K_e,z0i_e,z0C_e,z14_e,z1J_e,z16_e,z1L_e,z17_e,zr_e,zg_e,zx_e,zz_e],muts:=[155],fz:=[] }
def yeK:List (List Nat):=[]
def yOq(n:Nat):Ann:={ keep:=yeK,fuel:=n,inl:=[il102],deep:=4 }
def yRh(n:Nat)  : Option (Bool×Unit) :=
  (Option.bind (y61 [(81:UInt8),82]) λ v0=>(Option.bind (yTB (z0w []).1 v0.1) λ v1=>(Option.bind (y61 [(81:UInt8),82]) λ v2=>(Option.bind (zj_M (z0w []).1 v2.1) λ v3=>(Option.bind (y61 [(81:UInt8),82]) λ v4=>(Option.bind (yHk (z0w []).1 v4.1) λ v5=>(Option.bind (y61 [(81:UInt8),82]) λ v6=>(Option.bind (yCN (z0w []).1 v6.1) λ v7=>(Option.bind (yHn (v5.1.1,v5.1.2.1,v5.1.2.2.1,()) (0:Int) (4:Int)) λ v8=>(Option.bind (y61 [(90:UInt8),72]) λ v9=>(Option.bind (zj_M (z0w [((3:Int),(4:Int),())]).1 v9.1) λ v10=>(Option.bind (y61 [(90:UInt8),72]) λ v11=>(Option.bind (yCN (z0w [((3:Int),(4:Int),())]).1 v11.1) λ v12=>(bif IntKind.i64.wrap (IntKind.i64.wrap (IntKind.i64.wrap (IntKind.i64.wrap (IntKind.i64.wrap (IntKind.i64.wrap (v1.2.1+v3.2.1)+v5.2.1)+v7.2.1)+v8.2.1)+v10.2.1)+v12.2.1) != 0 then some (Bool.false,())else (Option.bind (zy_M v1.1 [[((4:Int),(0:Int),()),((0:Int),(0:Int),())],[((0:Int),(0:Int),()),((4:Int),(0:Int),())]]) λ v13=>(bif !v13.1 then some (Bool.false,())else (bif v3.1 != 16 then some (Bool.false,())else (bif v5.1.2.2.1 != 1 then some (Bool.false,())else (Option.bind (zZ_M v5.1.2.1 [((8:Int),(0:Int),()),((8:Int),(0:Int),())]) λ v14=>(bif !v14.1 then some (Bool.false,())else (bif !eqV ((Ty.int IntKind.i64).pair ((Ty.int IntKind.i64).pair Ty.unit)) (v7.1.1,v7.1.2.1,()) ((0:Int),(1:Int),())then some (Bool.false,())else (Option.bind (zZ_M v8.1 [((16:Int),(0:Int),()),((0:Int),(0:Int),()),((-16:Int),(0:Int),()),((0:Int),(0:Int),())]) λ v15=>(bif !v15.1 then some (Bool.false,())else (bif v10.1 != 8 then some (Bool.false,())else (bif !eqV ((Ty.int IntKind.i64).pair ((Ty.int IntKind.i64).pair Ty.unit)) (v12.1.1,v12.1.2.1,()) ((512:Int),(1:Int),())then some (Bool.false,())else (Option.bind (y61 [(90:UInt8),72]) λ v32=>(Option.bind (ySC ([(103:UInt8)],(0:Int),[nat_lit 1065353216,nat_lit 0,nat_lit 3212836864,nat_lit 0],[((1:Int),(2:Int),()),((3:Int),(4:Int),())],()) v32.1) λ v33=>(Option.bind (y61 [(90:UInt8),72]) λ v34=>(Option.bind (yTQ ([(103:UInt8)],(0:Int),[nat_lit 1065353216,nat_lit 0,nat_lit 3212836864,nat_lit 0],[((1:Int),(2:Int),()),((3:Int),(4:Int),())],()) v34.1) λ v35=>(Option.bind (y61 [(90:UInt8),72,81]) λ v36=>(Option.bind (ySF ([(103:UInt8)],(0:Int),[nat_lit 1065353216,nat_lit 0,nat_lit 3212836864,nat_lit 0],[((1:Int),(2:Int),()),((3:Int),(4:Int),())],()) v36.1) λ v37=>(Option.bind (y61 [(90:UInt8),72]) λ v38=>(Option.bind (yHk ([(103:UInt8)],(0:Int),[nat_lit 1065353216,nat_lit 0,nat_lit 3212836864,nat_lit 0],[((1:Int),(2:Int),()),((3:Int),(4:Int),())],()) v38.1) λ v39=>(Option.bind (y61 [(90:UInt8)]) λ v40=>(Option.bind (yU7 (v40.1,[((3:Int),(0:Int),())],(2:Int),()) (5:Int) (1:Int)) λ v41=>(Option.bind (ySu (z0w []).1 (v40.1,[((3:Int),(0:Int),())],(2:Int),())) λ v42=>(Option.bind (yUt [nat_lit 0,nat_lit 1065353216,nat_lit 1065353216,nat_lit 0,nat_lit 1073741824,nat_lit 1065353216]) λ v43=>(Option.bind (yTK [nat_lit 0,nat_lit 1065353216,nat_lit 1065353216,nat_lit 0,nat_lit 1073741824,nat_lit 1065353216]) λ v44=>(Option.bind (yQe (2024:Int)) λ v45=>(Option.bind (ySy (v40.1,[((3:Int),(0:Int),())],(2:Int),())) λ v46=>(Option.bind (yT2 (v40.1,[((3:Int),(0:Int),())],(2:Int),())) λ v47=>(bif IntKind.i64.wrap (IntKind.i64.wrap (IntKind.i64.wrap (IntKind.i64.wrap (IntKind.i64.wrap (IntKind.i64.wrap (IntKind.i64.wrap (IntKind.i64.wrap (IntKind.i64.wrap (v33.2.1+v35.2.1)+v37.2.1)+v41.2.1)+v42.2.1)+v43.2.1)+v44.2.1)+v45.2.1)+v46.2.1)+v47.2.1)==0 then (bif v39.2.1==25 then (Option.bind (zr_M v33.1 [[(0:Int),(1:Int)]]) λ v48=>(bif v48.1 then (Option.bind (zZ_M v35.1 [((2:Int),(0:Int),()),((-2:Int),(0:Int),())]) λ v49=>(bif v49.1 then (bif v37.1==2 then (Option.bind (zg_M v41.1 [nat_lit 1040187392]) λ v50=>(bif v50.1 then (bif eqV ((Ty.int IntKind.i64).pair ((Ty.int IntKind.i64).pair Ty.unit)) (v42.1.1,v42.1.2.1,()) ((521:Int),(1:Int),())then (Option.bind (zx_M v43.1 [(1:Int),(4:Int)]) λ v51=>(bif v51.1 then (Option.bind (zx_M v44.1 [(3:Int)]) λ v52=>(bif v52.1 then (bif eqV ((Ty.int IntKind.i64).pair ((Ty.int IntKind.i64).pair Ty.unit)) (v45.1.1,v45.1.2.1,()) ((26:Int),(25:Int),())then (Option.bind (zz_M v46.1 [(nat_lit 1035993088,nat_lit 0)]) λ v53=>(bif v53.1 then some (v47.1==[(116:UInt8),105,100,101,32,50,10,99,111,110,115,116,105,116,117,101,110,116,32,90,32,49,32,48,32,51,32,48,10],())else some (Bool.false,())))else some (Bool.false,()))else some (Bool.false,())))else some (Bool.false,())))else some (Bool.false,()))else some (Bool.false,())))else some (Bool.false,()))else some (Bool.false,())))else some (Bool.false,())))else some (Bool.false,()))else some (Bool.false,())))))))))))))))))))))))))))))))))))))))))))
theorem yYp(n:Nat)(x:yV4.den):runF yWf (yOq n) Tryz.f18 yV4 yVb x=yRh n:=by kernel_rfl
def yUo  : Option (Bool×Unit):=yRh 0
theorem yRi(y:Bool×Unit)(h:yUo=some y):∃ n,yRh n=some y:=⟨0,h⟩
def z0X_e:Entry:={ f:=18,args:=yV4,ress:=yVb,m:=λ x=>yUo }
theorem yWE:FnOK Tryz.prog z0X_e:=yJ (g:=yWf) (fn:=Tryz.f18) yC yI (yA yX2 (yA yZI (yA ybb (yA ydv (yA yOp (yA yPB (yA yPv (yA yd4 (yA ySb (yA yW1 (yA yaQ (yA ycM (yA yVh (yA ycX (yA ybe (yA yZh (yA yac (yA yVs (yA yYG (yA yew (yA ydf (yA yeg (yA yeA eNil))))))))))))))))))))))) (by kernel_rfl) (by kernel_rfl) (by kernel_rfl) (λ x y h=>let ⟨n,hn⟩:=yRi y h;⟨yOq n,(y5G yNE iNil),(yYp n x).trans hn⟩)
end
end Go.Tw
end
