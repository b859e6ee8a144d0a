import Derived.Test.YtpcnkpbpcebokaaGreatDoorBT
import Derived.Test.YtpcnkpbpcebokaaGreatDoorB0
import Derived.Test.YtpcnkpbpcebokaaGreatDoorBS
import Derived.Test.YtpcnkpbpcebokaaGreatDoorLQ
import Derived.Test.YtpcnkpbpcebokaaGreatDoorLR
import Derived.Test.YtpcnkpbpcebokaaGreatDoorBA
import Derived.Test.YtpcnkpbpcebokaaGreatDoorBC
set_option linter.all false
section
set_option maxRecDepth 1000000
namespace Go.Tw
open Go.Vx Go.Vx.B Go.Proofs
noncomputable section
abbrev zr_a:Ty:=.pair t33 .unit
abbrev zr_r:Ty:=.pair t28 .unit
def zr_g:G:={ T:=T,E:=[zL_e,z1D_e,z0f_e,zF_e,zt_e,z0y_e,z0b_e],muts:=[],fz:=[] }
def zr_k:List (List Nat):=[]
def yXI(n:Nat):Ann:={ keep:=zr_k,fuel:=n,inl:=[],deep:=0 }
def zr_m(n:Nat)(t:Q2):Option (Int×Unit) :=
  (Option.bind (zL_M t.1) fun v0=>(Option.bind (zF_M t.2.1 fun (x:(Q4)×Unit)=>zt_M x.1) fun v1=>(Option.bind (y1g v1.1) fun v2=>(Option.bind (y1g [v0.1,(z1D ((↑t.2.1.length:Int) != (↑t.1.length:Int)) (2:Int)).1,(z0f t.2.2.1 (1:Int) (268435456:Int)).1,v2.1]) fun v3=>(bif v3.1 != 0 then some (v3.1,())else (Option.bind (yB7 t.2.1 t.2.2.1) fun v4=>some ((z1D (v4.1 != 1) (1:Int)).1,())))))))
theorem yaX(n:Nat)(x:zr_a.den):runF zr_g (yXI n) Tryz.f28 zr_a zr_r x=zr_m n x.1:=by kernel_rfl
def zr_M(t:Q2):Option (Int×Unit):=zr_m 0 t
theorem yTP(t:Q2)(y:Int×Unit)(h:zr_M t=some y):∃ n,zr_m n t=some y:=⟨0,h⟩
def zr_e:Entry:={ f:=28,args:=zr_a,ress:=zr_r,m:=fun x=>zr_M x.1 }
theorem yG7:FnOK Tryz.prog zr_e:=yJ (g:=zr_g) (fn:=Tryz.f28) yA yI (y6 yRV (y6 y4O (y6 y8l (y6 yVm (y6 ya7 (y6 y3T (y6 yMy eNil))))))) (by kernel_rfl) (by kernel_rfl) (by kernel_rfl) (fun x y h=>let ⟨n,hn⟩:=yTP x.1 y h;⟨yXI n,iNil,(yaX n x).trans hn⟩)
abbrev yRN:Ty:=.pair t3 .unit
abbrev yWv:Ty:=.pair t69 (.pair t28 .unit)
def ySa:G:={ T:=T,E:=[z0f_e,z10_e],muts:=[],fz:=[] }
def yZ0:List (List Nat):=[]
def yN1(n:Nat):Ann:={ keep:=yZ0,fuel:=n,inl:=[],deep:=0 }
def yJC(n:Nat)(year:Int):Option ((Q4)×Int×Unit) :=
  (bif (z0f year (0:Int) (9999:Int)).1 != 0 then some (((0:Int),(0:Int),()),(z0f year (0:Int) (9999:Int)).1,())else (Option.bind (yFx year) fun v0=>some ((v0.1.1,v0.1.2.1,()),(0:Int),())))
theorem yW6(n:Nat)(x:yRN.den):runF ySa (yN1 n) Tryz.f41 yRN yWv x=yJC n x.1:=by kernel_rfl
def yHV(year:Int):Option ((Q4)×Int×Unit):=yJC 0 year
theorem yR6(year:Int)(y:(Q4)×Int×Unit)(h:yHV year=some y):∃ n,yJC n year=some y:=⟨0,h⟩
def z0t_e:Entry:={ f:=41,args:=yRN,ress:=yWv,m:=fun x=>yHV x.1 }
theorem yMw:FnOK Tryz.prog z0t_e:=yJ (g:=ySa) (fn:=Tryz.f41) yA yI (y6 y8l (y6 yLv eNil)) (by kernel_rfl) (by kernel_rfl) (by kernel_rfl) (fun x y h=>let ⟨n,hn⟩:=yR6 x.1 y h;⟨yN1 n,iNil,(yW6 n x).trans hn⟩)
abbrev yNP:Ty:=.pair t60 (.pair t31 .unit)
abbrev yTm:Ty:=.pair t183 .unit
def yVx:G:={ T:=T,E:=[z05_e,z8_e],muts:=[],fz:=[] }
def yZ2:List (List Nat):=[]
def yMp(n:Nat):Ann:={ keep:=yZ2,fuel:=n,inl:=[],deep:=0 }
def yOm(n:Nat)(rp:Q1)(l:List (Q3)):Option (List (List (Q4))×Unit) :=
  (Option.bind (z8_M l fun (x:(Q3)×Unit)=>yPT x.1 l rp) fun v0=>some (v0.1,()))
theorem yX8(n:Nat)(x:yNP.den):runF yVx (yMp n) Tryz.f122 yNP yTm x=yOm n x.1 x.2.1:=by kernel_rfl
def yCs(rp:Q1)(l:List (Q3)):Option (List (List (Q4))×Unit):=yOm 0 rp l
theorem yPv(rp:Q1)(l:List (Q3))(y:List (List (Q4))×Unit)(h:yCs rp l=some y):∃ n,yOm n rp l=some y:=⟨0,h⟩
def z0c_e:Entry:={ f:=122,args:=yNP,ress:=yTm,m:=fun x=>yCs x.1 x.2.1 }
theorem yAk:FnOK Tryz.prog z0c_e:=yJ (g:=yVx) (fn:=Tryz.f122) yA yI (y6 yWI (y6 yYq eNil)) (by kernel_rfl) (by kernel_rfl) (by kernel_rfl) (fun x y h=>let ⟨n,hn⟩:=yPv x.1 x.2.1 y h;⟨yMp n,iNil,(yX8 n x).trans hn⟩)
abbrev zc_a:Ty:=.pair t60 .unit
abbrev zc_r:Ty:=.pair t28 .unit
def zc_g:G:={ T:=T,E:=[zT_e,z13_e,z1D_e],muts:=[],fz:=[] }
def zc_k:List (List Nat):=[]
def yRw(n:Nat):Ann:={ keep:=zc_k,fuel:=n,inl:=[],deep:=0 }
def zc_m(n:Nat)(rp:Q1):Option (Int×Unit) :=
  (Option.bind (zT_M rp) fun v0=>(bif v0.1 != 0 then some (v0.1,())else (Option.bind (yJ6 rp) fun v1=>some ((z1D (decide ((↑v1.1.length:Int) > 128)) (5:Int)).1,()))))
theorem ya3(n:Nat)(x:zc_a.den):runF zc_g (yRw n) Tryz.f128 zc_a zc_r x=zc_m n x.1:=by kernel_rfl
def zc_M(rp:Q1):Option (Int×Unit):=zc_m 0 rp
theorem ySd(rp:Q1)(y:Int×Unit)(h:zc_M rp=some y):∃ n,zc_m n rp=some y:=⟨0,h⟩
def zc_e:Entry:={ f:=128,args:=zc_a,ress:=zc_r,m:=fun x=>zc_M x.1 }
theorem yRy:FnOK Tryz.prog zc_e:=yJ (g:=zc_g) (fn:=Tryz.f128) yA yI (y6 yZe (y6 yLk (y6 y4O eNil))) (by kernel_rfl) (by kernel_rfl) (by kernel_rfl) (fun x y h=>let ⟨n,hn⟩:=ySd x.1 y h;⟨yRw n,iNil,(ya3 n x).trans hn⟩)
end
end Go.Tw
end
section
set_option maxRecDepth 1000000
namespace Go.Tw
open Go.Vx Go.Vx.B Go.Proofs
noncomputable section
abbrev yNt:Ty:=.pair t33 (.pair t3 (.pair t3 .unit))
abbrev yXC:Ty:=.pair t23 (.pair t28 .unit)
def yVc:G:={ T:=T,E:=[zr_e,zu_e,z0y_e,z0H_e],muts:=[9],fz:=[] }
def yaL:List (List Nat):=[[1,3,9,21,22]]
def yMC(n:Nat):Ann:={ keep:=yaL,fuel:=n,inl:=[],deep:=0 }
def yDs(n:Nat)(r3:Int→Q2→Int→Int→List (Q4)→Option (List (Q4)×Int×Unit))(au:Int)(bY:Q2)(aX:Int)(cA:Int)(cf:List (Q4)):Option (List (Q4)×Int×Unit) :=
  (bif decide (cA < aX)then (Option.bind (yG6 bY (IntKind.i64.wrap (au+cA))) fun v4=>(bif decide (cf.length+(1:Nat)≤memMax)then r3 au bY aX (IntKind.i64.wrap (cA+1)) (cf++[v4.1])else none))else some (cf,(0:Int),()))
def y6e(n:Nat)(k:Nat)(au:Int)(bY:Q2)(aX:Int)(cA:Int)(cf:List (Q4)):Option (List (Q4)×Int×Unit) :=
  iter (fun r y=>yDs n (fun au bY aX cA cf=>r ((au,(bY,(aX,(cA,())))),((cf,()),()))) y.1.1 y.1.2.1 y.1.2.2.1 y.1.2.2.2.1 y.2.1.1) k ((au,(bY,(aX,(cA,())))),((cf,()),()))
def yIu(n:Nat)(t:Q2)(p1:Int)(np:Int):Option (List (Q4)×Int×Unit) :=
  (Option.bind (zr_M t) fun v0=>(Option.bind (zu_M p1 np) fun v1=>(Option.bind (y1g [v0.1,v1.1]) fun v2=>(bif v2.1 != 0 then some ([],v2.1,())else (y6e n n (p1) (t) (np) ((0:Int)) ([]))))))
theorem ySQ(n:Nat)(x:yNt.den):runF yVc (yMC n) Tryz.f20 yNt yXC x=yIu n x.1 x.2.1 x.2.2.1:=by kernel_rfl
def yIJ(au:Int)(bY:Q2)(aX:Int)(cA:Int)(cf:List (Q4)):Option ((List (Q4)×Int×Unit)⊕(List (Q4))) :=
  (Option.bind (yG6 bY (IntKind.i64.wrap (au+cA))) fun v4=>(bif decide (cf.length+(1:Nat)≤memMax)then (some (Sum.inr (cf++[v4.1])))else none))
def yIW(au:Int)(bY:Q2)(aX:Int)(cf:List (Q4)):Option (List (Q4)×Int×Unit) :=
  (some ((cf,(0:Int),())))
theorem yDI(n:Nat)(hn:big≤n)(au:Int)(bY:Q2)(aX:Int)(cf:List (Q4))(hx:(aX)≤9223372036854775807):LeF some (y2x (fun bm aA=>yIJ au bY aX bm aA) (fun aA=>yIW au bY aX aA) ((aX) - 0).toNat 0 cf) (y6e n n au bY aX 0 cf):=by
  refine y6z (f:=some) (W:=fun eG bm aA=>y6e n eG au bY aX bm aA) (body:=(fun bm aA=>yIJ au bY aX bm aA)) (fin:=(fun aA=>yIW au bY aX aA)) (fun eG bm aA=>?_) hx cf n 0 (by decide) (by unfold big at hn;omega)
  show LeF _ _ (yDs n (y6e n eG) au bY aX bm aA)
  exact y8 (yE fun v4=>(y8 (yB rfl) y0D)) (y0b (yB rfl))
def yFe(t:Q2)(p1:Int)(np:Int):Option (List (Q4)×Int×Unit) :=
  (Option.bind (zr_M t) fun v0=>(Option.bind (zu_M p1 np) fun v1=>(Option.bind (y1g [v0.1,v1.1]) fun v2=>(bif v2.1 != 0 then (some (([],v2.1,())))else (bif decide ((np)≤9223372036854775807)then y2x (fun bm aA=>yIJ (p1) (t) (np) bm aA) (fun aA=>yIW (p1) (t) (np) aA) ((np) - 0).toNat 0 ([])else none)))))
theorem yOW(t:Q2)(p1:Int)(np:Int)(y:List (Q4)×Int×Unit)(h:yFe t p1 np=some y):∃ n,yIu n t p1 np=some y :=
  ⟨big,LeF.top (show LeF some (yFe t p1 np) (yIu big t p1 np)from (fun (n:Nat) (hn:big≤n)=>show LeF some (yFe t p1 np) (yIu n t p1 np)from (yE fun v0=>(yE fun v1=>(yE fun v2=>(y8 (yB rfl) (yg fun hx=>by apply yDI n hn;exact hx)))))) big (Nat.le_refl _)) h⟩
def z0G_e:Entry:={ f:=20,args:=yNt,ress:=yXC,m:=fun x=>yFe x.1 x.2.1 x.2.2.1 }
theorem yMf:FnOK Tryz.prog z0G_e:=yJ (g:=yVc) (fn:=Tryz.f20) yA yI (y6 yG7 (y6 yZQ (y6 y3T (y6 yNF eNil)))) (by kernel_rfl) (by kernel_rfl) (by kernel_rfl) (fun x y h=>let ⟨n,hn⟩:=yOW x.1 x.2.1 x.2.2.1 y h;⟨yMC n,iNil,(ySQ n x).trans hn⟩)
abbrev yOX:Ty:=.pair t60 (.pair t33 .unit)
abbrev yX0:Ty:=.pair t69 (.pair t28 .unit)
def yUt:G:={ T:=T,E:=[zc_e,zr_e,zl_e,z1D_e,z0y_e,z0H_e,z11_e],muts:=[],fz:=[] }
def yaW:List (List Nat):=[]
def yLy(n:Nat):Ann:={ keep:=yaW,fuel:=n,inl:=[il124,il195],deep:=3 }
def yC7(n:Nat)(r4:Q1→List (Q4)→List Nat→Int→Int→Q1→Q2→Q1→Q2→Int→Int→Q1→Int→Q2→Int→Q2→Bool→Bool→Int→List Int→Int→Int→Bool→Q1→Q1→Int→Int→Int→Q1→Q2→Q1→Q2→Int→Int→Q1→Int→Q2→Int→Q2→Bool→Bool→Int→List Int→Int→Int→Bool→Q1→Q1→Option ((Q4)×Int×Unit))(j12:Q1)(j13:List (Q4))(j14:Int)(j15:Nat)(j16:List Nat)(j17:Int)(j18:Int)(j19:Q1)(j20:Q2)(j21:Q1)(j22:Q2)(j23:Int)(j24:Int)(j25:Q1)(j26:Int)(j27:Q2)(j28:Int)(j29:Q2)(j30:Bool)(j31:Bool)(j32:Int)(j33:List Int)(j34:Int)(j35:Int)(j36:Bool)(j37:Q1)(j38:Q1)(j39:Int)(j40:Int)(j41:Int)(j42:Q1)(j43:Q2)(j44:Q1)(j45:Q2)(j46:Int)(j47:Int)(j48:Q1)(j49:Int)(j50:Q2)(j51:Int)(j52:Q2)(j53:Bool)(j54:Bool)(j55:Int)(j56:List Int)(j57:Int)(j58:Int)(j59:Bool)(j60:Q1)(j61:Q1):Option ((Q4)×Int×Unit) :=
  (bif decide ((↑j13.length:Int) > 0)then (Option.bind (idx j13 (0:Int)) fun v62=>(bif decide (v62.1≤j14)then r4 j12 j13 j16 j17 (IntKind.i64.wrap (j18+1)) j19 j20 j21 j22 j23 j24 j25 j26 j27 j28 j29 j30 j31 j32 j33 j34 j35 j36 j37 j38 j39 j40 j41 j42 j43 j44 j45 j46 j47 j48 j49 j50 j51 j52 j53 j54 j55 j56 j57 j58 j59 j60 j61 else (Option.bind (y0e Go.FloatKind.f32 (y0n Go.BinOp.mul Go.FloatKind.f32 j15 (nat_lit 1098907648)) IntKind.i64) fun v67=>(Option.bind (yG6 j22 (IntKind.i64.wrap (j12.2.1+j14))) fun v68=>r4 j12 j13 j16 j17 (IntKind.i64.wrap (j18+1)) j19 j20 j21 j22 j23 j24 j25 j26 j27 j28 j29 j30 j31 j32 j33 j34 j35 j36 j37 j38 j39 j40 (IntKind.i64.wrap (j41+IntKind.i64.wrap (IntKind.i64.wrap (IntKind.i64.wrap (IntKind.i64.wrap (j22.2.2.1 * v67) - v68.1.1) * IntKind.i64.wrap (IntKind.i64.wrap (j22.2.2.1 * v67) - v68.1.1))+IntKind.i64.wrap (v68.1.2.1 * v68.1.2.1)))) j42 j43 j44 j45 j46 j47 j48 j49 j50 j51 j52 j53 j54 j55 j56 j57 j58 j59 j60 j61))))else (Option.bind (y0e Go.FloatKind.f32 (y0n Go.BinOp.mul Go.FloatKind.f32 j15 (nat_lit 1098907648)) IntKind.i64) fun v69=>(Option.bind (yG6 j22 (IntKind.i64.wrap (j12.2.1+j14))) fun v70=>r4 j12 j13 j16 j17 (IntKind.i64.wrap (j18+1)) j19 j20 j21 j22 j23 j24 j25 j26 j27 j28 j29 j30 j31 j32 j33 j34 j35 j36 j37 j38 j39 j40 (IntKind.i64.wrap (j41+IntKind.i64.wrap (IntKind.i64.wrap (IntKind.i64.wrap (IntKind.i64.wrap (j22.2.2.1 * v69) - v70.1.1) * IntKind.i64.wrap (IntKind.i64.wrap (j22.2.2.1 * v69) - v70.1.1))+IntKind.i64.wrap (v70.1.2.1 * v70.1.2.1)))) j42 j43 j44 j45 j46 j47 j48 j49 j50 j51 j52 j53 j54 j55 j56 j57 j58 j59 j60 j61)))
def yJy(n:Nat)(r4:Q1→List (Q4)→List Nat→Int→Int→Q1→Q2→Q1→Q2→Int→Int→Q1→Int→Q2→Int→Q2→Bool→Bool→Int→List Int→Int→Int→Bool→Q1→Q1→Int→Int→Int→Q1→Q2→Q1→Q2→Int→Int→Q1→Int→Q2→Int→Q2→Bool→Bool→Int→List Int→Int→Int→Bool→Q1→Q1→Option ((Q4)×Int×Unit))(r6:Q1→List (Q4)→Int→Nat→List Nat→Int→Int→Q1→Q2→Q1→Q2→Int→Int→Q1→Int→Q2→Int→Q2→Bool→Bool→Int→List Int→Int→Int→Bool→Q1→Q1→Int→Int→Int→Q1→Q2→Q1→Q2→Int→Int→Q1→Int→Q2→Int→Q2→Bool→Bool→Int→List Int→Int→Int→Bool→Q1→Q1→Option ((Q4)×Int×Unit))(fc:Q1)(bf:List (Q4))(eI:Int)(fe:Nat)(ff:List Nat)(dA:Int)(dB:Int)(ck:Q1)(cl:Q2)(cm:Q1)(cn:Q2)(co:Int)(cp:Int)(bB:Q1)(bC:Int)(bD:Q2)(bE:Int)(bF:Q2)(bG:Bool)(bH:Bool)(bI:Int)(bJ:List Int)(bK:Int)(bL:Int)(bM:Bool)(bN:Q1)(aZ:Q1)(cr:Int)(cu:Int)(cw:Int)(fg:Q1)(fh:Q2)(fk:Q1)(fm:Q2)(fo:Int)(fp:Int)(dC:Q1)(dD:Int)(dE:Q2)(dF:Int)(dG:Q2)(dH:Bool)(dI:Bool)(dJ:Int)(dK:List Int)(dL:Int)(dM:Int)(dN:Bool)(dO:Q1)(bO:Q1):Option ((Q4)×Int×Unit) :=
  (bif decide ((↑bf.length:Int) > 0)then (Option.bind (idx bf (0:Int)) fun v7=>(bif decide (v7.2.1≤eI)then (bif decide ((0:Int)≤1) && decide ((1:Int)≤(↑bf.length:Int))then r6 fc (List.drop (Int.toNat (1:Int)) bf) eI fe ff dA dB ck cl cm cn co cp bB bC bD bE bF bG bH bI bJ bK bL bM bN aZ cr cu cw fg fh fk fm fo fp dC dD dE dF dG dH dI dJ dK dL dM dN dO bO else none)else (yC7 n r4 (fc) (bf) (eI) (fe) (ff) (dA) (dB) (ck) (cl) (cm) (cn) (co) (cp) (bB) (bC) (bD) (bE) (bF) (bG) (bH) (bI) (bJ) (bK) (bL) (bM) (bN) (aZ) (cr) (cu) (cw) (fg) (fh) (fk) (fm) (fo) (fp) (dC) (dD) (dE) (dF) (dG) (dH) (dI) (dJ) (dK) (dL) (dM) (dN) (dO) (bO))))else (yC7 n r4 (fc) (bf) (eI) (fe) (ff) (dA) (dB) (ck) (cl) (cm) (cn) (co) (cp) (bB) (bC) (bD) (bE) (bF) (bG) (bH) (bI) (bJ) (bK) (bL) (bM) (bN) (aZ) (cr) (cu) (cw) (fg) (fh) (fk) (fm) (fo) (fp) (dC) (dD) (dE) (dF) (dG) (dH) (dI) (dJ) (dK) (dL) (dM) (dN) (dO) (bO)))
def yJl(n:Nat)(r4:Q1→List (Q4)→List Nat→Int→Int→Q1→Q2→Q1→Q2→Int→Int→Q1→Int→Q2→Int→Q2→Bool→Bool→Int→List Int→Int→Int→Bool→Q1→Q1→Int→Int→Int→Q1→Q2→Q1→Q2→Int→Int→Q1→Int→Q2→Int→Q2→Bool→Bool→Int→List Int→Int→Int→Bool→Q1→Q1→Option ((Q4)×Int×Unit))(k:Nat)(fc:Q1)(bf:List (Q4))(eI:Int)(fe:Nat)(ff:List Nat)(dA:Int)(dB:Int)(ck:Q1)(cl:Q2)(cm:Q1)(cn:Q2)(co:Int)(cp:Int)(bB:Q1)(bC:Int)(bD:Q2)(bE:Int)(bF:Q2)(bG:Bool)(bH:Bool)(bI:Int)(bJ:List Int)(bK:Int)(bL:Int)(bM:Bool)(bN:Q1)(aZ:Q1)(cr:Int)(cu:Int)(cw:Int)(fg:Q1)(fh:Q2)(fk:Q1)(fm:Q2)(fo:Int)(fp:Int)(dC:Q1)(dD:Int)(dE:Q2)(dF:Int)(dG:Q2)(dH:Bool)(dI:Bool)(dJ:Int)(dK:List Int)(dL:Int)(dM:Int)(dN:Bool)(dO:Q1)(bO:Q1):Option ((Q4)×Int×Unit) :=
  iter (fun r y=>yJy n r4 (fun fc bf eI fe ff dA dB ck cl cm cn co cp bB bC bD bE bF bG bH bI bJ bK bL bM bN aZ cr cu cw fg fh fk fm fo fp dC dD dE dF dG dH dI dJ dK dL dM dN dO bO=>r ((fc,(bf,(eI,(fe,(ff,(dA,(dB,()))))))),(((ck,(cl,(cm,(cn,(co,(cp,(bB,(bC,(bD,(bE,(bF,(bG,(bH,(bI,(bJ,(bK,(bL,(bM,(bN,((aZ,()),())))))))))))))))))))),((cr,(cu,())),((cw,()),()))),(fg,(fh,(fk,(fm,(fo,(fp,(dC,(dD,(dE,(dF,(dG,(dH,(dI,(dJ,(dK,(dL,(dM,(dN,(dO,((bO,()),()))))))))))))))))))))))) y.1.1 y.1.2.1 y.1.2.2.1 y.1.2.2.2.1 y.1.2.2.2.2.1 y.1.2.2.2.2.2.1 y.1.2.2.2.2.2.2.1 y.2.1.1.1 y.2.1.1.2.1 y.2.1.1.2.2.1 y.2.1.1.2.2.2.1 y.2.1.1.2.2.2.2.1 y.2.1.1.2.2.2.2.2.1 y.2.1.1.2.2.2.2.2.2.1 y.2.1.1.2.2.2.2.2.2.2.1 y.2.1.1.2.2.2.2.2.2.2.2.1 y.2.1.1.2.2.2.2.2.2.2.2.2.1 y.2.1.1.2.2.2.2.2.2.2.2.2.2.1 y.2.1.1.2.2.2.2.2.2.2.2.2.2.2.1 y.2.1.1.2.2.2.2.2.2.2.2.2.2.2.2.1 y.2.1.1.2.2.2.2.2.2.2.2.2.2.2.2.2.1 y.2.1.1.2.2.2.2.2.2.2.2.2.2.2.2.2.2.1 y.2.1.1.2.2.2.2.2.2.2.2.2.2.2.2.2.2.2.1 y.2.1.1.2.2.2.2.2.2.2.2.2.2.2.2.2.2.2.2.1 y.2.1.1.2.2.2.2.2.2.2.2.2.2.2.2.2.2.2.2.2.1 y.2.1.1.2.2.2.2.2.2.2.2.2.2.2.2.2.2.2.2.2.2.1 y.2.1.1.2.2.2.2.2.2.2.2.2.2.2.2.2.2.2.2.2.2.2.1.1 y.2.1.2.1.1 y.2.1.2.1.2.1 y.2.1.2.2.1.1 y.2.2.1 y.2.2.2.1 y.2.2.2.2.1 y.2.2.2.2.2.1 y.2.2.2.2.2.2.1 y.2.2.2.2.2.2.2.1 y.2.2.2.2.2.2.2.2.1 y.2.2.2.2.2.2.2.2.2.1 y.2.2.2.2.2.2.2.2.2.2.1 y.2.2.2.2.2.2.2.2.2.2.2.1 y.2.2.2.2.2.2.2.2.2.2.2.2.1 y.2.2.2.2.2.2.2.2.2.2.2.2.2.1 y.2.2.2.2.2.2.2.2.2.2.2.2.2.2.1 y.2.2.2.2.2.2.2.2.2.2.2.2.2.2.2.1 y.2.2.2.2.2.2.2.2.2.2.2.2.2.2.2.2.1 y.2.2.2.2.2.2.2.2.2.2.2.2.2.2.2.2.2.1 y.2.2.2.2.2.2.2.2.2.2.2.2.2.2.2.2.2.2.1 y.2.2.2.2.2.2.2.2.2.2.2.2.2.2.2.2.2.2.2.1 y.2.2.2.2.2.2.2.2.2.2.2.2.2.2.2.2.2.2.2.2.1 y.2.2.2.2.2.2.2.2.2.2.2.2.2.2.2.2.2.2.2.2.2.1.1) k ((fc,(bf,(eI,(fe,(ff,(dA,(dB,()))))))),(((ck,(cl,(cm,(cn,(co,(cp,(bB,(bC,(bD,(bE,(bF,(bG,(bH,(bI,(bJ,(bK,(bL,(bM,(bN,((aZ,()),())))))))))))))))))))),((cr,(cu,())),((cw,()),()))),(fg,(fh,(fk,(fm,(fo,(fp,(dC,(dD,(dE,(dF,(dG,(dH,(dI,(dJ,(dK,(dL,(dM,(dN,(dO,((bO,()),()))))))))))))))))))))))
def yJo(n:Nat)(r4:Q1→List (Q4)→List Nat→Int→Int→Q1→Q2→Q1→Q2→Int→Int→Q1→Int→Q2→Int→Q2→Bool→Bool→Int→List Int→Int→Int→Bool→Q1→Q1→Int→Int→Int→Q1→Q2→Q1→Q2→Int→Int→Q1→Int→Q2→Int→Q2→Bool→Bool→Int→List Int→Int→Int→Bool→Q1→Q1→Option ((Q4)×Int×Unit))(d4:Q1)(aB:List (Q4))(cB:List Nat)(bn:Int)(bj:Int)(b4:Q1)(b6:Q2)(b7:Q1)(dP:Q2)(b8:Int)(b9:Int)(cC:Q1)(cD:Int)(cE:Q2)(aI:Int)(aJ:Q2)(aK:Bool)(aL:Bool)(aM:Int)(cF:List Int)(cG:Int)(cH:Int)(aN:Bool)(aO:Q1)(bq:Q1)(ba:Int)(bc:Int)(aU:Int)(d5:Q1)(d6:Q2)(d7:Q1)(fq:Q2)(d8:Int)(d9:Int)(eJ:Q1)(eK:Int)(eL:Q2)(br:Int)(bt:Q2)(bu:Bool)(bv:Bool)(bw:Int)(eM:List Int)(eN:Int)(eO:Int)(bx:Bool)(bz:Q1)(cI:Q1):Option ((Q4)×Int×Unit) :=
  (bif decide (bj < bn)then (Option.bind (idx cB bj) fun v5=>(yJl n r4 n (d4) (aB) (bj) (v5) (cB) (bn) (bj) (b4) (b6) (b7) (dP) (b8) (b9) (cC) (cD) (cE) (aI) (aJ) (aK) (aL) (aM) (cF) (cG) (cH) (aN) (aO) (bq) (ba) (bc) (aU) (d5) (d6) (d7) (fq) (d8) (d9) (eJ) (eK) (eL) (br) (bt) (bu) (bv) (bw) (eM) (eN) (eO) (bx) (bz) (cI)))else (Option.bind (yGA aU (IntKind.i64.wrap (fq.2.2.1 * fq.2.2.1))) fun v72=>some ((v72.1.1,v72.1.2.1,()),(0:Int),())))
def yJT(n:Nat)(k:Nat)(d4:Q1)(aB:List (Q4))(cB:List Nat)(bn:Int)(bj:Int)(b4:Q1)(b6:Q2)(b7:Q1)(dP:Q2)(b8:Int)(b9:Int)(cC:Q1)(cD:Int)(cE:Q2)(aI:Int)(aJ:Q2)(aK:Bool)(aL:Bool)(aM:Int)(cF:List Int)(cG:Int)(cH:Int)(aN:Bool)(aO:Q1)(bq:Q1)(ba:Int)(bc:Int)(aU:Int)(d5:Q1)(d6:Q2)(d7:Q1)(fq:Q2)(d8:Int)(d9:Int)(eJ:Q1)(eK:Int)(eL:Q2)(br:Int)(bt:Q2)(bu:Bool)(bv:Bool)(bw:Int)(eM:List Int)(eN:Int)(eO:Int)(bx:Bool)(bz:Q1)(cI:Q1):Option ((Q4)×Int×Unit) :=
  iter (fun r y=>yJo n (fun d4 aB cB bn bj b4 b6 b7 dP b8 b9 cC cD cE aI aJ aK aL aM cF cG cH aN aO bq ba bc aU d5 d6 d7 fq d8 d9 eJ eK eL br bt bu bv bw eM eN eO bx bz cI=>r ((d4,(aB,(cB,(bn,(bj,()))))),(((b4,(b6,(b7,(dP,(b8,(b9,(cC,(cD,(cE,(aI,(aJ,(aK,(aL,(aM,(cF,(cG,(cH,(aN,(aO,((bq,()),())))))))))))))))))))),((ba,(bc,())),((aU,()),()))),(d5,(d6,(d7,(fq,(d8,(d9,(eJ,(eK,(eL,(br,(bt,(bu,(bv,(bw,(eM,(eN,(eO,(bx,(bz,((cI,()),()))))))))))))))))))))))) y.1.1 y.1.2.1 y.1.2.2.1 y.1.2.2.2.1 y.1.2.2.2.2.1 y.2.1.1.1 y.2.1.1.2.1 y.2.1.1.2.2.1 y.2.1.1.2.2.2.1 y.2.1.1.2.2.2.2.1 y.2.1.1.2.2.2.2.2.1 y.2.1.1.2.2.2.2.2.2.1 y.2.1.1.2.2.2.2.2.2.2.1 y.2.1.1.2.2.2.2.2.2.2.2.1 y.2.1.1.2.2.2.2.2.2.2.2.2.1 y.2.1.1.2.2.2.2.2.2.2.2.2.2.1 y.2.1.1.2.2.2.2.2.2.2.2.2.2.2.1 y.2.1.1.2.2.2.2.2.2.2.2.2.2.2.2.1 y.2.1.1.2.2.2.2.2.2.2.2.2.2.2.2.2.1 y.2.1.1.2.2.2.2.2.2.2.2.2.2.2.2.2.2.1 y.2.1.1.2.2.2.2.2.2.2.2.2.2.2.2.2.2.2.1 y.2.1.1.2.2.2.2.2.2.2.2.2.2.2.2.2.2.2.2.1 y.2.1.1.2.2.2.2.2.2.2.2.2.2.2.2.2.2.2.2.2.1 y.2.1.1.2.2.2.2.2.2.2.2.2.2.2.2.2.2.2.2.2.2.1 y.2.1.1.2.2.2.2.2.2.2.2.2.2.2.2.2.2.2.2.2.2.2.1.1 y.2.1.2.1.1 y.2.1.2.1.2.1 y.2.1.2.2.1.1 y.2.2.1 y.2.2.2.1 y.2.2.2.2.1 y.2.2.2.2.2.1 y.2.2.2.2.2.2.1 y.2.2.2.2.2.2.2.1 y.2.2.2.2.2.2.2.2.1 y.2.2.2.2.2.2.2.2.2.1 y.2.2.2.2.2.2.2.2.2.2.1 y.2.2.2.2.2.2.2.2.2.2.2.1 y.2.2.2.2.2.2.2.2.2.2.2.2.1 y.2.2.2.2.2.2.2.2.2.2.2.2.2.1 y.2.2.2.2.2.2.2.2.2.2.2.2.2.2.1 y.2.2.2.2.2.2.2.2.2.2.2.2.2.2.2.1 y.2.2.2.2.2.2.2.2.2.2.2.2.2.2.2.2.1 y.2.2.2.2.2.2.2.2.2.2.2.2.2.2.2.2.2.1 y.2.2.2.2.2.2.2.2.2.2.2.2.2.2.2.2.2.2.1 y.2.2.2.2.2.2.2.2.2.2.2.2.2.2.2.2.2.2.2.1 y.2.2.2.2.2.2.2.2.2.2.2.2.2.2.2.2.2.2.2.2.1 y.2.2.2.2.2.2.2.2.2.2.2.2.2.2.2.2.2.2.2.2.2.1.1) k ((d4,(aB,(cB,(bn,(bj,()))))),(((b4,(b6,(b7,(dP,(b8,(b9,(cC,(cD,(cE,(aI,(aJ,(aK,(aL,(aM,(cF,(cG,(cH,(aN,(aO,((bq,()),())))))))))))))))))))),((ba,(bc,())),((aU,()),()))),(d5,(d6,(d7,(fq,(d8,(d9,(eJ,(eK,(eL,(br,(bt,(bu,(bv,(bw,(eM,(eN,(eO,(bx,(bz,((cI,()),()))))))))))))))))))))))
def yOY(n:Nat)(rp:Q1)(t:Q2):Option ((Q4)×Int×Unit) :=
  (Option.bind (zc_M rp) fun v0=>(Option.bind (zr_M t) fun v1=>(Option.bind (zl_M t) fun v2=>(Option.bind (y1g [v0.1,v1.1,(z1D (!v2.1) (4:Int)).1]) fun v3=>(bif v3.1 != 0 then some (((0:Int),(0:Int),()),v3.1,())else (yJT n n (rp) (rp.2.2.2.1) (rp.2.2.1) ((↑rp.2.2.1.length:Int)) ((0:Int)) (rp) (t) (rp) (t) ((0:Int)) (v3.1) (rp) (v0.1) (t) (v1.1) (t) (v2.1) (!v2.1) ((z1D (!v2.1) (4:Int)).1) ([v0.1,v1.1,(z1D (!v2.1) (4:Int)).1]) (v3.1) (v3.1) (v3.1 != 0) (rp) (rp) ((0:Int)) ((0:Int)) ((0:Int)) (rp) (t) (rp) (t) ((0:Int)) (v3.1) (rp) (v0.1) (t) (v1.1) (t) (v2.1) (!v2.1) ((z1D (!v2.1) (4:Int)).1) ([v0.1,v1.1,(z1D (!v2.1) (4:Int)).1]) (v3.1) (v3.1) (v3.1 != 0) (rp) (rp)))))))
theorem yVn(n:Nat)(x:yOX.den):runF yUt (yLy n) Tryz.f37 yOX yX0 x=yOY n x.1 x.2.1:=by kernel_rfl
def yQt(rp:Q1)(t:Q2):Option ((Q4)×Int×Unit):=yOY 1000 rp t
theorem yOx(rp:Q1)(t:Q2)(y:(Q4)×Int×Unit)(h:yQt rp t=some y):∃ n,yOY n rp t=some y:=⟨1000,h⟩
def z03_e:Entry:={ f:=37,args:=yOX,ress:=yX0,m:=fun x=>yQt x.1 x.2.1 }
theorem yXr:FnOK Tryz.prog z03_e:=yJ (g:=yUt) (fn:=Tryz.f37) yA yI (y6 yRy (y6 yG7 (y6 yPG (y6 y4O (y6 y3T (y6 yNF (y6 yH2 eNil))))))) (by kernel_rfl) (by kernel_rfl) (by kernel_rfl) (fun x y h=>let ⟨n,hn⟩:=yOx x.1 x.2.1 y h;⟨yLy n,(y4N y5Z (y4N y5J iNil)),(yVn n x).trans hn⟩)
abbrev yP4:Ty:=.pair t33 (.pair t3 .unit)
abbrev yWh:Ty:=.pair t33 (.pair t28 .unit)
def yW5:G:={ T:=T,E:=[zr_e,z0f_e,zl_e,z1D_e,z0y_e,z10_e,z01_e,zG_e,z0K_e],muts:=[],fz:=[7] }
def yZz:List (List Nat):=[]
def yMt(n:Nat):Ann:={ keep:=yZz,fuel:=n,inl:=[],deep:=0 }
def yJQ(n:Nat)(t:Q2)(year:Int):Option ((Q2)×Int×Unit) :=
  (Option.bind (zr_M t) fun v0=>(Option.bind (zl_M t) fun v1=>(Option.bind (y1g [v0.1,(z0f year (0:Int) (9999:Int)).1,(z1D (!v1.1) (4:Int)).1]) fun v2=>(bif v2.1 != 0 then some (([],[],(0:Int),()),v2.1,())else (Option.bind (yFx year) fun v3=>(Option.bind (zG_M t.2.1 fun (x:(Q4)×Unit)=>yNW x.1 (v3.1.1,v3.1.2.1,())) fun v4=>(Option.bind (yBK t.1 v4.1 (IntKind.i64.wrap (t.2.2.1 * v3.1.2.1))) fun v5=>some ((v5.1.1,v5.1.2.1,v5.1.2.2.1,()),(0:Int),()))))))))
theorem yXu(n:Nat)(x:yP4.den):runF yW5 (yMt n) Tryz.f42 yP4 yWh x=yJQ n x.1 x.2.1:=by kernel_rfl
def yIw(t:Q2)(year:Int):Option ((Q2)×Int×Unit):=yJQ 0 t year
theorem yRE(t:Q2)(year:Int)(y:(Q2)×Int×Unit)(h:yIw t year=some y):∃ n,yJQ n t year=some y:=⟨0,h⟩
def z0V_e:Entry:={ f:=42,args:=yP4,ress:=yWh,m:=fun x=>yIw x.1 x.2.1 }
theorem yUo:FnOK Tryz.prog z0V_e:=yJ (g:=yW5) (fn:=Tryz.f42) yA yI (y6 yG7 (y6 y8l (y6 yPG (y6 y4O (y6 y3T (y6 yLv (y6 yTO (y6 yPs (y6 yHJ eNil))))))))) (by kernel_rfl) (by kernel_rfl) (by kernel_rfl) (fun x y h=>let ⟨n,hn⟩:=yRE x.1 x.2.1 y h;⟨yMt n,iNil,(yXu n x).trans hn⟩)
abbrev yO0:Ty:=.pair t33 .unit
abbrev yXK:Ty:=.pair t79 (.pair t28 .unit)
def yXn:G:={ T:=T,E:=[zr_e,z0Z_e,z1D_e,zF_e,z0y_e,z0a_e,zH_e],muts:=[],fz:=[] }
def yYW:List (List Nat):=[]
def yN8(n:Nat):Ann:={ keep:=yYW,fuel:=n,inl:=[],deep:=0 }
def yJO(n:Nat)(t:Q2):Option (List (Nat×Nat)×Int×Unit) :=
  (Option.bind (zr_M t) fun v0=>(bif v0.1 != 0 then some ([],v0.1,())else (Option.bind (zF_M t.2.1 fun (x:(Q4)×Unit)=>yJ9 x.1) fun v1=>(Option.bind (y1g v1.1) fun v2=>(Option.bind (y1g [(z1D (y2O IntKind.i64 Go.BinOp.and t.2.2.1 (IntKind.i64.wrap (t.2.2.1 - (1:Int))) != 0) (1:Int)).1,v2.1]) fun v3=>(bif v3.1 != 0 then some ([],v3.1,())else (Option.bind (zH_M t.2.1 fun (x:(Q4)×Unit)=>yOj x.1 (yk Go.FloatKind.f32 (IntKind.i64.wrap ((16:Int) * t.2.2.1)),nat_lit 0)) fun v4=>some (v4.1,(0:Int),()))))))))
theorem yUb(n:Nat)(x:yO0.den):runF yXn (yN8 n) Tryz.f43 yO0 yXK x=yJO n x.1:=by kernel_rfl
def yI5(t:Q2):Option (List (Nat×Nat)×Int×Unit):=yJO 0 t
theorem yRS(t:Q2)(y:List (Nat×Nat)×Int×Unit)(h:yI5 t=some y):∃ n,yJO n t=some y:=⟨0,h⟩
def z1B_e:Entry:={ f:=43,args:=yO0,ress:=yXK,m:=fun x=>yI5 x.1 }
theorem yM3:FnOK Tryz.prog z1B_e:=yJ (g:=yXn) (fn:=Tryz.f43) yA yI (y6 yG7 (y6 ySJ (y6 y4O (y6 yVm (y6 y3T (y6 yUP (y6 yam eNil))))))) (by kernel_rfl) (by kernel_rfl) (by kernel_rfl) (fun x y h=>let ⟨n,hn⟩:=yRS x.1 y h;⟨yN8 n,iNil,(yUb n x).trans hn⟩)
def il174:Inl:={ f:=174,fn:=Tryz.f174,keep:=[],muts:=[],fz:=[] }
theorem yLU:y5I Tryz.prog il174:=⟨by kernel_rfl,by kernel_rfl,fun e0 h=>by cases (show (none:Option LibK)=some e0 from h)⟩
def il178:Inl:={ f:=178,fn:=Tryz.f178,keep:=[],muts:=[],fz:=[] }
theorem yKf:y5I Tryz.prog il178:=⟨by kernel_rfl,by kernel_rfl,fun e0 h=>by cases (show (none:Option LibK)=some e0 from h)⟩
def il216:Inl:={ f:=216,fn:=Tryz.f216,lib:=some (.copy 228) }
theorem yKd:y5I Tryz.prog il216:=⟨by kernel_rfl,by kernel_rfl,fun e0 h=>by cases (show some (.copy 228:LibK)=some e0 from h);exact yOw⟩
abbrev yOp:Ty:=.pair t33 .unit
abbrev yWu:Ty:=.pair t9 (.pair t28 .unit)
def yWr:G:={ T:=T,E:=[zr_e,z0D_e,zN_e,z0E_e],muts:=[5],fz:=[] }
def yaU:List (List Nat):=[[1,5,22,23,24]]
def yM0(n:Nat):Ann:={ keep:=yaU,fuel:=n,inl:=[il174,il178,il216],deep:=8 }
def yLQ(n:Nat)(r2:Q2→List (Q3)→Int→Int→List Int→Option (List UInt8×Int×Unit))(dy:Q2)(az:List (Q3))(ew:Int)(dv:Int)(bX:List Int):Option (List UInt8×Int×Unit) :=
  (bif decide (dv < ew)then (Option.bind (idx az dv) fun v3=>(Option.bind (idx dy.2.1 dv) fun v4=>(Option.bind (zN_M [v3.2.1,v3.2.2.1,v4.1,v4.2.1] fun (x:Int×Unit)=>yJ1 x.1) fun v5=>(bif decide ((12:Nat)+v3.1.length < strMax)then (bif decide (([(99:UInt8),111,110,115,116,105,116,117,101,110,116,32]++v3.1).length+(1:Nat) < strMax)then (Option.bind (yK8 v5.1 [(32:UInt8)]) fun v6=>(bif decide (([(99:UInt8),111,110,115,116,105,116,117,101,110,116,32]++v3.1++[(32:UInt8)]).length+v6.1.length < strMax)then (bif decide (([(99:UInt8),111,110,115,116,105,116,117,101,110,116,32]++v3.1++[(32:UInt8)]++v6.1).length+(1:Nat) < strMax)then (bif decide (bX.length+([(99:UInt8),111,110,115,116,105,116,117,101,110,116,32]++v3.1++[(32:UInt8)]++v6.1++[(10:UInt8)]).length≤memMax)then r2 dy az ew (IntKind.i64.wrap (dv+1)) (bX++y2I ([(99:UInt8),111,110,115,116,105,116,117,101,110,116,32]++v3.1++[(32:UInt8)]++v6.1++[(10:UInt8)]))else none)else none)else none))else none)else none))))else (bif decide ((0:Nat) < bX.length)then (bif (↑bX.length:Int)==(↑bX.length:Int) && decide ((0:Nat) < bX.length) && yAg bX then some (y3C bX,(0:Int),())else none)else none))
def yJr(n:Nat)(k:Nat)(dy:Q2)(az:List (Q3))(ew:Int)(dv:Int)(bX:List Int):Option (List UInt8×Int×Unit) :=
  iter (fun r y=>yLQ n (fun dy az ew dv bX=>r ((dy,(az,(ew,(dv,())))),(((),(bX,())),()))) y.1.1 y.1.2.1 y.1.2.2.1 y.1.2.2.2.1 y.2.1.2.1) k ((dy,(az,(ew,(dv,())))),(((),(bX,())),()))
def yQY(n:Nat)(t:Q2):Option (List UInt8×Int×Unit) :=
  (Option.bind (zr_M t) fun v0=>(bif v0.1 != 0 then some ([],v0.1,())else (Option.bind (yJ1 t.2.2.1) fun v1=>(bif decide ((5:Nat)+v1.1.length < strMax)then (bif decide (([(116:UInt8),105,100,101,32]++v1.1).length+(1:Nat) < strMax)then (bif decide ((0:Nat)+([(116:UInt8),105,100,101,32]++v1.1++[(10:UInt8)]).length≤memMax)then (yJr n n (t) (t.1) ((↑t.1.length:Int)) ((0:Int)) (y2I ([(116:UInt8),105,100,101,32]++v1.1++[(10:UInt8)])))else none)else none)else none))))
theorem yU2(n:Nat)(x:yOp.den):runF yWr (yM0 n) Tryz.f97 yOp yWu x=yQY n x.1:=by kernel_rfl
def yPa(t:Q2):Option (List UInt8×Int×Unit):=yQY 1000 t
theorem yRI(t:Q2)(y:List UInt8×Int×Unit)(h:yPa t=some y):∃ n,yQY n t=some y:=⟨1000,h⟩
def z0u_e:Entry:={ f:=97,args:=yOp,ress:=yWu,m:=fun x=>yPa x.1 }
theorem yUg:FnOK Tryz.prog z0u_e:=yJ (g:=yWr) (fn:=Tryz.f97) yA yI (y6 yG7 (y6 ySM (y6 yZJ (y6 yU8 eNil)))) (by kernel_rfl) (by kernel_rfl) (by kernel_rfl) (fun x y h=>let ⟨n,hn⟩:=yRI x.1 y h;⟨yM0 n,(y4N yLU (y4N yKf (y4N yKd iNil))),(yU2 n x).trans hn⟩)
abbrev yR3:Ty:=.pair t60 (.pair t31 .unit)
abbrev yV4:Ty:=.pair t28 .unit
def yVU:G:={ T:=T,E:=[zc_e,zL_e,z0y_e],muts:=[],fz:=[] }
def yZo:List (List Nat):=[]
def yM5(n:Nat):Ann:={ keep:=yZo,fuel:=n,inl:=[],deep:=0 }
def yR9(n:Nat)(rp:Q1)(l:List (Q3)):Option (Int×Unit) :=
  (Option.bind (zc_M rp) fun v0=>(Option.bind (zL_M l) fun v1=>(Option.bind (y1g [v0.1,v1.1]) fun v2=>some (v2.1,()))))
theorem yRz(n:Nat)(x:yR3.den):runF yVU (yM5 n) Tryz.f119 yR3 yV4 x=yR9 n x.1 x.2.1:=by kernel_rfl
def y9e(rp:Q1)(l:List (Q3)):Option (Int×Unit):=yR9 0 rp l
theorem yOf(rp:Q1)(l:List (Q3))(y:Int×Unit)(h:y9e rp l=some y):∃ n,yR9 n rp l=some y:=⟨0,h⟩
def z0x_e:Entry:={ f:=119,args:=yR3,ress:=yV4,m:=fun x=>y9e x.1 x.2.1 }
theorem y7N:FnOK Tryz.prog z0x_e:=yJ (g:=yVU) (fn:=Tryz.f119) yA yI (y6 yRy (y6 yRV (y6 y3T eNil))) (by kernel_rfl) (by kernel_rfl) (by kernel_rfl) (fun x y h=>let ⟨n,hn⟩:=yOf x.1 x.2.1 y h;⟨yM5 n,iNil,(yRz n x).trans hn⟩)
abbrev yNQ:Ty:=.pair t60 (.pair t31 .unit)
abbrev yWm:Ty:=.pair t23 (.pair t23 (.pair t3 .unit))
def yXo:G:={ T:=T,E:=[z0L_e,zA_e,z0c_e,zd_e,zK_e],muts:=[9],fz:=[] }
def yZ8:List (List Nat):=[[7,8,9,18,19]]
def yMh(n:Nat):Ann:={ keep:=yZ8,fuel:=n,inl:=[],deep:=0 }
def yJq(n:Nat)(r2:List (Q4)→List (List (Q4))→Int→Int→List (Q4)→Option (List (Q4)×List (Q4)×Int×Unit))(fr:List (Q4))(ft:List (List (Q4)))(ey:Int)(dQ:Int)(bP:List (Q4)):Option (List (Q4)×List (Q4)×Int×Unit) :=
  (bif decide (dQ < ey)then (Option.bind (zd_M ft dQ fr) fun v3=>(Option.bind (zK_M v3.1) fun v4=>(bif decide (bP.length+(1:Nat)≤memMax)then r2 fr ft ey (IntKind.i64.wrap (dQ+1)) (bP++[v4.1])else none)))else (Option.bind (zK_M ft) fun v5=>some (bP,fr,v5.1.1,())))
def yK0(n:Nat)(k:Nat)(fr:List (Q4))(ft:List (List (Q4)))(ey:Int)(dQ:Int)(bP:List (Q4)):Option (List (Q4)×List (Q4)×Int×Unit) :=
  iter (fun r y=>yJq n (fun fr ft ey dQ bP=>r ((fr,(ft,(ey,(dQ,())))),((bP,()),()))) y.1.1 y.1.2.1 y.1.2.2.1 y.1.2.2.2.1 y.2.1.1) k ((fr,(ft,(ey,(dQ,())))),((bP,()),()))
def yNS(n:Nat)(rp:Q1)(l:List (Q3)):Option (List (Q4)×List (Q4)×Int×Unit) :=
  (Option.bind (zA_M l fun (x:(Q3)×Unit)=>yNM x.1 rp) fun v0=>(Option.bind (yCs rp l) fun v1=>(yK0 n n (v0.1) (v1.1) ((↑l.length:Int)) ((0:Int)) ([]))))
theorem yXX(n:Nat)(x:yNQ.den):runF yXo (yMh n) Tryz.f120 yNQ yWm x=yNS n x.1 x.2.1:=by kernel_rfl
def yKL(rp:Q1)(l:List (Q3)):Option (List (Q4)×List (Q4)×Int×Unit):=yNS 1000 rp l
theorem yOn(rp:Q1)(l:List (Q3))(y:List (Q4)×List (Q4)×Int×Unit)(h:yKL rp l=some y):∃ n,yNS n rp l=some y:=⟨1000,h⟩
def z12_e:Entry:={ f:=120,args:=yNQ,ress:=yWm,m:=fun x=>yKL x.1 x.2.1 }
theorem yLm:FnOK Tryz.prog z12_e:=yJ (g:=yXo) (fn:=Tryz.f120) yA yI (y6 yUY (y6 yQl (y6 yAk (y6 yXF (y6 yJz eNil))))) (by kernel_rfl) (by kernel_rfl) (by kernel_rfl) (fun x y h=>let ⟨n,hn⟩:=yOn x.1 x.2.1 y h;⟨yMh n,iNil,(yXX n x).trans hn⟩)
abbrev zw_a:Ty:=.pair t60 (.pair t31 .unit)
abbrev zw_r:Ty:=.pair t4 .unit
def zw_g:G:={ T:=T,E:=[z0c_e,zK_e],muts:=[],fz:=[] }
def zw_k:List (List Nat):=[]
def yUU(n:Nat):Ann:={ keep:=zw_k,fuel:=n,inl:=[],deep:=0 }
def zw_m(n:Nat)(rp:Q1)(l:List (Q3)):Option (Bool×Unit) :=
  (Option.bind (yCs rp l) fun v0=>(Option.bind (zK_M v0.1) fun v1=>some (eqV ((Ty.int IntKind.i64).pair ((Ty.int IntKind.i64).pair Ty.unit)) v1.1 ((0:Int),(0:Int),()),())))
theorem yaz(n:Nat)(x:zw_a.den):runF zw_g (yUU n) Tryz.f146 zw_a zw_r x=zw_m n x.1 x.2.1:=by kernel_rfl
def zw_M(rp:Q1)(l:List (Q3)):Option (Bool×Unit):=zw_m 0 rp l
theorem ySL(rp:Q1)(l:List (Q3))(y:Bool×Unit)(h:zw_M rp l=some y):∃ n,zw_m n rp l=some y:=⟨0,h⟩
def zw_e:Entry:={ f:=146,args:=zw_a,ress:=zw_r,m:=fun x=>zw_M x.1 x.2.1 }
theorem ySN:FnOK Tryz.prog zw_e:=yJ (g:=zw_g) (fn:=Tryz.f146) yA yI (y6 yAk (y6 yJz eNil)) (by kernel_rfl) (by kernel_rfl) (by kernel_rfl) (fun x y h=>let ⟨n,hn⟩:=ySL x.1 x.2.1 y h;⟨yUU n,iNil,(yaz n x).trans hn⟩)
end
end Go.Tw
end
section
set_option maxRecDepth 1000000
namespace Go.Tw
open Go.Vx Go.Vx.B Go.Proofs
noncomputable section
def il130:Inl:={ f:=130,fn:=Tryz.f130,keep:=[[1,5,8,9,10]],muts:=[5],fz:=[] }
theorem yKF:y5I Tryz.prog il130:=⟨by kernel_rfl,by kernel_rfl,fun e0 h=>by cases (show (none:Option LibK)=some e0 from h)⟩
def il132:Inl:={ f:=132,fn:=Tryz.f132,keep:=[[1,5,8,9,10]],muts:=[5],fz:=[] }
theorem yKT:y5I Tryz.prog il132:=⟨by kernel_rfl,by kernel_rfl,fun e0 h=>by cases (show (none:Option LibK)=some e0 from h)⟩
abbrev yOt:Ty:=.pair t33 (.pair t33 .unit)
abbrev yTo:Ty:=.pair t33 (.pair t28 .unit)
def yTB:G:={ T:=T,E:=[zr_e,zl_e,z1D_e,z0y_e,z7_e,z0v_e,z0w_e,zG_e,z0d_e,z1C_e,zL_e,z0K_e],muts:=[37,41],fz:=[],lv:=some [2,3,4,7] }
def yaH:List (List Nat):=[[2,3,4,7,8,43,44,45],[2,3,4,7,8,9,10,11,43,44,45,55,56]]
def yMu(n:Nat):Ann:={ keep:=yaH,fuel:=n,inl:=[il130,il132],deep:=4 }
def yCH(n:Nat)(r27:Q2→Q2→List (Q3)→Int→Int→Int→List (Q3)→List (Q4)→Option ((Q2)×Int×Unit))(r29:Q2→Q2→Int→Int→List (Q3)→Int→Int→Int→Int→Int→List (Q3)→List (Q4)→List UInt8→Int→Int→Option ((Q2)×Int×Unit))(ac:Q2)(aD:Q2)(aV:Int)(ae:Int)(aw:List (Q3))(ax:Int)(ay:Int)(dc:Int)(aC:Int)(ai:Int)(ah:List (Q3))(aa:List (Q4))(af:List UInt8)(aj:Int)(ak:Int):Option ((Q2)×Int×Unit) :=
  (bif decide (aC < dc)then (Option.bind (idx ac.1 aC) fun v30=>(bif eqV (Ty.str.pair ((Ty.int IntKind.i64).pair ((Ty.int IntKind.i64).pair Ty.unit))) (af,v30.2.1,v30.2.2.1,()) (af,aj,ak,())then (Option.bind (idx aD.2.1 aV) fun v31=>(bif decide (aC < (↑ac.1.length:Int))then (Option.bind (idx aa aC) fun v32=>(Option.bind (aa[aC.toNat]?) fun v33=>(Option.bind (idx aa aC) fun v34=>(Option.bind (aa[aC.toNat]?) fun v35=>r27 ac aD aw ax (IntKind.i64.wrap (ay+1)) ai ah (aa.set aC.toNat (z1C v33 ((z0d v31 ac.2.2.1).1.1,(z0d v31 ac.2.2.1).1.2.1,())).1)))))else (bif decide (ah.length+(1:Nat)≤memMax)then (bif decide (aa.length+(1:Nat)≤memMax)then r27 ac aD aw ax (IntKind.i64.wrap (ay+1)) ai (ah++[(af,aj,ak,())]) (aa++[((z0d v31 ac.2.2.1).1.1,(z0d v31 ac.2.2.1).1.2.1,())])else none)else none)))else r29 ac aD aV ae aw ax ay dc (IntKind.i64.wrap (aC+1)) ai ah aa af aj ak))else (Option.bind (idx aD.2.1 aV) fun v36=>(bif decide (ae < (↑ac.1.length:Int))then (Option.bind (idx aa ae) fun v37=>(Option.bind (aa[ae.toNat]?) fun v38=>(Option.bind (idx aa ae) fun v39=>(Option.bind (aa[ae.toNat]?) fun v40=>r27 ac aD aw ax (IntKind.i64.wrap (ay+1)) ai ah (aa.set ae.toNat (z1C v38 ((z0d v36 ac.2.2.1).1.1,(z0d v36 ac.2.2.1).1.2.1,())).1)))))else (bif decide (ah.length+(1:Nat)≤memMax)then (bif decide (aa.length+(1:Nat)≤memMax)then r27 ac aD aw ax (IntKind.i64.wrap (ay+1)) ai (ah++[(af,aj,ak,())]) (aa++[((z0d v36 ac.2.2.1).1.1,(z0d v36 ac.2.2.1).1.2.1,())])else none)else none))))
def y5X(n:Nat)(r27:Q2→Q2→List (Q3)→Int→Int→Int→List (Q3)→List (Q4)→Option ((Q2)×Int×Unit))(k:Nat)(ac:Q2)(aD:Q2)(aV:Int)(ae:Int)(aw:List (Q3))(ax:Int)(ay:Int)(dc:Int)(aC:Int)(ai:Int)(ah:List (Q3))(aa:List (Q4))(af:List UInt8)(aj:Int)(ak:Int):Option ((Q2)×Int×Unit) :=
  iter (fun r y=>yCH n r27 (fun ac aD aV ae aw ax ay dc aC ai ah aa af aj ak=>r ((ac,(aD,(aV,(ae,(aw,(ax,(ay,(dc,(aC,()))))))))),(((ai,()),(ah,(aa,((af,(aj,(ak,()))),())))),()))) y.1.1 y.1.2.1 y.1.2.2.1 y.1.2.2.2.1 y.1.2.2.2.2.1 y.1.2.2.2.2.2.1 y.1.2.2.2.2.2.2.1 y.1.2.2.2.2.2.2.2.1 y.1.2.2.2.2.2.2.2.2.1 y.2.1.1.1 y.2.1.2.1 y.2.1.2.2.1 y.2.1.2.2.2.1.1 y.2.1.2.2.2.1.2.1 y.2.1.2.2.2.1.2.2.1) k ((ac,(aD,(aV,(ae,(aw,(ax,(ay,(dc,(aC,()))))))))),(((ai,()),(ah,(aa,((af,(aj,(ak,()))),())))),()))
def yBd(n:Nat)(r27:Q2→Q2→List (Q3)→Int→Int→Int→List (Q3)→List (Q4)→Option ((Q2)×Int×Unit))(aE:Q2)(aW:Q2)(am:List (Q3))(df:Int)(bd:Int)(av:Int)(aH:List (Q3))(aS:List (Q4)):Option ((Q2)×Int×Unit) :=
  (bif decide (bd < df)then (Option.bind (idx am bd) fun v28=>(y5X n r27 n (aE) (aW) (bd) ((↑aE.1.length:Int)) (am) (df) (bd) ((↑aE.1.length:Int)) ((0:Int)) (av) (aH) (aS) (v28.1) (v28.2.1) (v28.2.2.1)))else (Option.bind (zL_M aH) fun v41=>(bif v41.1 != 0 then some (([],[],(0:Int),()),v41.1,())else (Option.bind (yBK aH aS (IntKind.i64.wrap (aE.2.2.1 * aW.2.2.1))) fun v42=>some ((v42.1.1,v42.1.2.1,v42.1.2.2.1,()),(0:Int),())))))
def y58(n:Nat)(k:Nat)(aE:Q2)(aW:Q2)(am:List (Q3))(df:Int)(bd:Int)(av:Int)(aH:List (Q3))(aS:List (Q4)):Option ((Q2)×Int×Unit) :=
  iter (fun r y=>yBd n (fun aE aW am df bd av aH aS=>r ((aE,(aW,(am,(df,(bd,()))))),(((av,()),(aH,(aS,()))),()))) y.1.1 y.1.2.1 y.1.2.2.1 y.1.2.2.2.1 y.1.2.2.2.2.1 y.2.1.1.1 y.2.1.2.1 y.2.1.2.2.1) k ((aE,(aW,(am,(df,(bd,()))))),(((av,()),(aH,(aS,()))),()))
def yBX(n:Nat)(r25:Q2→List (Q4)→Int→Int→List (Q4)→Int→List (Q3)→Q2→Q2→Option ((Q2)×Int×Unit))(al:Q2)(aP:List (Q4))(ez:Int)(bZ:Int)(bl:List (Q4))(aq:Int)(bh:List (Q3))(aY:Q2)(aF:Q2):Option ((Q2)×Int×Unit) :=
  (bif decide (bZ < ez)then (Option.bind (idx aP bZ) fun v26=>(bif decide (bl.length+(1:Nat)≤memMax)then r25 al aP ez (IntKind.i64.wrap (bZ+1)) (bl++[(z0w (v26.1,v26.2.1,()) al).1]) aq bh aY aF else none))else (y58 n n (aY) (aF) (aF.1) ((↑aF.1.length:Int)) ((0:Int)) (aq) (bh) (bl)))
def y5U(n:Nat)(k:Nat)(al:Q2)(aP:List (Q4))(ez:Int)(bZ:Int)(bl:List (Q4))(aq:Int)(bh:List (Q3))(aY:Q2)(aF:Q2):Option ((Q2)×Int×Unit) :=
  iter (fun r y=>yBX n (fun al aP ez bZ bl aq bh aY aF=>r (((al,()),(aP,(ez,(bZ,())))),((bl,((aq,()),(bh,()))),(aY,(aF,()))))) y.1.1.1 y.1.2.1 y.1.2.2.1 y.1.2.2.2.1 y.2.1.1 y.2.1.2.1.1 y.2.1.2.2.1 y.2.2.1 y.2.2.2.1) k (((al,()),(aP,(ez,(bZ,())))),((bl,((aq,()),(bh,()))),(aY,(aF,()))))
def yBa(n:Nat)(r23:List (Q3)→Int→Int→List (Q3)→Int→Q2→Q2→Option ((Q2)×Int×Unit))(aQ:List (Q3))(eA:Int)(ca:Int)(bi:List (Q3))(ar:Int)(aG:Q2)(aR:Q2):Option ((Q2)×Int×Unit) :=
  (bif decide (ca < eA)then (Option.bind (idx aQ ca) fun v24=>(bif decide (bi.length+(1:Nat)≤memMax)then r23 aQ eA (IntKind.i64.wrap (ca+1)) (bi++[(z0v (v24.1,v24.2.1,v24.2.2.1,())).1]) ar aG aR else none))else (y5U n n (aR) (aG.2.1) ((↑aG.2.1.length:Int)) ((0:Int)) ([]) (ar) (bi) (aG) (aR)))
def y5E(n:Nat)(k:Nat)(aQ:List (Q3))(eA:Int)(ca:Int)(bi:List (Q3))(ar:Int)(aG:Q2)(aR:Q2):Option ((Q2)×Int×Unit) :=
  iter (fun r y=>yBa n (fun aQ eA ca bi ar aG aR=>r (((),(aQ,(eA,(ca,())))),((bi,((ar,()),())),(aG,(aR,()))))) y.1.2.1 y.1.2.2.1 y.1.2.2.2.1 y.2.1.1 y.2.1.2.1.1 y.2.2.1 y.2.2.2.1) k (((),(aQ,(eA,(ca,())))),((bi,((ar,()),())),(aG,(aR,()))))
def y7L(n:Nat)(a:Q2)(b:Q2):Option ((Q2)×Int×Unit) :=
  (y5E n n (a.1) ((↑a.1.length:Int)) ((0:Int)) ([]) ((0:Int)) (a) (b))
def yLK(n:Nat)(a:Q2)(b:Q2):Option ((Q2)×Int×Unit) :=
  (Option.bind (zr_M a) fun v0=>(Option.bind (zr_M b) fun v1=>(Option.bind (zl_M a) fun v2=>(bif !v2.1 then (Option.bind (y1g [v0.1,v1.1,(z1D Bool.true (4:Int)).1]) fun v3=>(bif v3.1 != 0 then some (([],[],(0:Int),()),v3.1,())else (y7L n a b)))else (Option.bind (zl_M b) fun v4=>(Option.bind (y1g [v0.1,v1.1,(z1D (!v4.1) (4:Int)).1]) fun v5=>(bif v5.1 != 0 then some (([],[],(0:Int),()),v5.1,())else (y7L n a b))))))))
theorem yVi(n:Nat)(x:yOt.den):runF yTB (yMu n) Tryz.f40 yOt yTo x=yLK n x.1 x.2.1:=by kernel_rfl
def y7i(ac:Q2)(aD:Q2)(aV:Int)(ae:Int)(aw:List (Q3))(ax:Int)(ay:Int)(ai:Int)(ah:List (Q3))(aa:List (Q4))(af:List UInt8)(aj:Int)(ak:Int)(aC:Int)(v30:Q3):Option ((((Q2)×Int×Unit)⊕((List (Q3))×(List (Q4))))⊕Unit) :=
  (bif eqV (Ty.str.pair ((Ty.int IntKind.i64).pair ((Ty.int IntKind.i64).pair Ty.unit))) (af,v30.2.1,v30.2.2.1,()) (af,aj,ak,())then (Option.bind (idx aD.2.1 aV) fun v31=>(bif decide (aC < (↑ac.1.length:Int))then (Option.bind (idx aa aC) fun v32=>(Option.bind (aa[aC.toNat]?) fun v33=>(Option.bind (idx aa aC) fun v34=>(Option.bind (aa[aC.toNat]?) fun v35=>(some (Sum.inl (Sum.inr ((ah),(aa.set aC.toNat (z1C v33 ((z0d v31 ac.2.2.1).1.1,(z0d v31 ac.2.2.1).1.2.1,())).1)))))))))else (bif decide (ah.length+(1:Nat)≤memMax)then (bif decide (aa.length+(1:Nat)≤memMax)then (some (Sum.inl (Sum.inr ((ah++[(af,aj,ak,())]),(aa++[((z0d v31 ac.2.2.1).1.1,(z0d v31 ac.2.2.1).1.2.1,())])))))else none)else none)))else (some (Sum.inr ())))
def y8A(ac:Q2)(aD:Q2)(aV:Int)(ae:Int)(aw:List (Q3))(ax:Int)(ay:Int)(ai:Int)(ah:List (Q3))(aa:List (Q4))(af:List UInt8)(aj:Int)(ak:Int):Option (((Q2)×Int×Unit)⊕((List (Q3))×(List (Q4)))) :=
  (Option.bind (idx aD.2.1 aV) fun v36=>(bif decide (ae < (↑ac.1.length:Int))then (Option.bind (idx aa ae) fun v37=>(Option.bind (aa[ae.toNat]?) fun v38=>(Option.bind (idx aa ae) fun v39=>(Option.bind (aa[ae.toNat]?) fun v40=>(some (Sum.inr ((ah),(aa.set ae.toNat (z1C v38 ((z0d v36 ac.2.2.1).1.1,(z0d v36 ac.2.2.1).1.2.1,())).1))))))))else (bif decide (ah.length+(1:Nat)≤memMax)then (bif decide (aa.length+(1:Nat)≤memMax)then (some (Sum.inr ((ah++[(af,aj,ak,())]),(aa++[((z0d v36 ac.2.2.1).1.1,(z0d v36 ac.2.2.1).1.2.1,())]))))else none)else none)))
theorem yBh(n:Nat)(hn:big≤n)(r27:Q2→Q2→List (Q3)→Int→Int→Int→List (Q3)→List (Q4)→Option ((Q2)×Int×Unit))(ac:Q2)(aD:Q2)(aV:Int)(ae:Int)(aw:List (Q3))(ax:Int)(ay:Int)(ai:Int)(ah:List (Q3))(aa:List (Q4))(af:List UInt8)(aj:Int)(ak:Int)(hx:List.length (ac.1) < lenMax):LeF (elim some fun (aA:((List (Q3))×(List (Q4))))=>r27 ac aD aw ax (IntKind.i64.wrap (ay+1)) ai aA.1 aA.2) (yQ (fun bm dR aA=>y7i ac aD aV ae aw ax ay ai ah aa af aj ak bm dR) (fun aA=>y8A ac aD aV ae aw ax ay ai ah aa af aj ak) 0 (ac.1) ()) (y5X n r27 n ac aD aV ae aw ax ay (List.length (ac.1):Int) 0 ai ah aa af aj ak):=by
  refine yd (f:=(elim some fun (aA:((List (Q3))×(List (Q4))))=>r27 ac aD aw ax (IntKind.i64.wrap (ay+1)) ai aA.1 aA.2)) (W:=fun eG bm aA=>y5X n r27 eG ac aD aV ae aw ax ay (List.length (ac.1):Int) bm ai ah aa af aj ak) (body:=(fun bm dR aA=>y7i ac aD aV ae aw ax ay ai ah aa af aj ak bm dR)) (fin:=(fun aA=>y8A ac aD aV ae aw ax ay ai ah aa af aj ak)) (fun eG bm aA=>?_) hx () n (by unfold big at hn;unfold lenMax at hx;omega)
  show LeF _ _ (yCH n r27 (y5X n r27 eG) ac aD aV ae aw ax ay (List.length (ac.1):Int) bm ai ah aa af aj ak)
  exact y8 (yE fun v30=>(y8 (yE fun v31=>(y8 (yE fun v32=>(yE fun v33=>(yE fun v34=>(yE fun v35=>(yB rfl))))) (y8 (y8 (yB rfl) y0D) y0D))) (yB rfl))) (y0b (yE fun v36=>(y8 (yE fun v37=>(yE fun v38=>(yE fun v39=>(yE fun v40=>(yB rfl))))) (y8 (y8 (yB rfl) y0D) y0D))))
def y5p(aE:Q2)(aW:Q2)(am:List (Q3))(av:Int)(bd:Int)(v28:Q3)(aH:List (Q3))(aS:List (Q4)):Option (((Q2)×Int×Unit)⊕((List (Q3))×(List (Q4)))) :=
  (bif decide (List.length (aE.1) < lenMax)then yQ (fun bm dR aA=>y7i (aE) (aW) (bd) ((↑aE.1.length:Int)) (am) ((↑am.length:Int)) (bd) (av) (aH) (aS) (v28.1) (v28.2.1) (v28.2.2.1) bm dR) (fun aA=>y8A (aE) (aW) (bd) ((↑aE.1.length:Int)) (am) ((↑am.length:Int)) (bd) (av) (aH) (aS) (v28.1) (v28.2.1) (v28.2.2.1)) 0 (aE.1) ()else none)
def y4i(aE:Q2)(aW:Q2)(am:List (Q3))(av:Int)(aH:List (Q3))(aS:List (Q4)):Option ((Q2)×Int×Unit) :=
  (Option.bind (zL_M aH) fun v41=>(bif v41.1 != 0 then (some ((([],[],(0:Int),()),v41.1,())))else (Option.bind (yBK aH aS (IntKind.i64.wrap (aE.2.2.1 * aW.2.2.1))) fun v42=>(some (((v42.1.1,v42.1.2.1,v42.1.2.2.1,()),(0:Int),()))))))
theorem yCP(n:Nat)(hn:big≤n)(aE:Q2)(aW:Q2)(am:List (Q3))(av:Int)(aH:List (Q3))(aS:List (Q4))(hx:List.length (am) < lenMax):LeF some (yQ (fun bm dR aA=>y5p aE aW am av bm dR aA.1 aA.2) (fun aA=>y4i aE aW am av aA.1 aA.2) 0 (am) (aH,aS)) (y58 n n aE aW am (List.length (am):Int) 0 av aH aS):=by
  refine yd (f:=some) (W:=fun eG bm aA=>y58 n eG aE aW am (List.length (am):Int) bm av aA.1 aA.2) (body:=(fun bm dR aA=>y5p aE aW am av bm dR aA.1 aA.2)) (fin:=(fun aA=>y4i aE aW am av aA.1 aA.2)) (fun eG bm aA=>?_) hx (aH,aS) n (by unfold big at hn;unfold lenMax at hx;omega)
  show LeF _ _ (yBd n (y58 n eG) aE aW am (List.length (am):Int) bm av aA.1 aA.2)
  exact y8 (yE fun v28=>(yg fun hx=>by apply yBh n hn;exact hx)) (y0b (yE fun v41=>(y8 (yB rfl) (yE fun v42=>(yB rfl)))))
def yA0(al:Q2)(aP:List (Q4))(aq:Int)(bh:List (Q3))(aY:Q2)(aF:Q2)(bZ:Int)(v26:Q4)(bl:List (Q4)):Option (((Q2)×Int×Unit)⊕(List (Q4))) :=
  (bif decide (bl.length+(1:Nat)≤memMax)then (some (Sum.inr (bl++[(z0w (v26.1,v26.2.1,()) al).1])))else none)
def yAD(al:Q2)(aP:List (Q4))(aq:Int)(bh:List (Q3))(aY:Q2)(aF:Q2)(bl:List (Q4)):Option ((Q2)×Int×Unit) :=
  (bif decide (List.length (aF.1) < lenMax)then yQ (fun bm dR aA=>y5p (aY) (aF) (aF.1) (aq) bm dR aA.1 aA.2) (fun aA=>y4i (aY) (aF) (aF.1) (aq) aA.1 aA.2) 0 (aF.1) ((bh),(bl))else none)
theorem yBp(n:Nat)(hn:big≤n)(al:Q2)(aP:List (Q4))(aq:Int)(bh:List (Q3))(aY:Q2)(aF:Q2)(bl:List (Q4))(hx:List.length (aP) < lenMax):LeF some (yQ (fun bm dR aA=>yA0 al aP aq bh aY aF bm dR aA) (fun aA=>yAD al aP aq bh aY aF aA) 0 (aP) bl) (y5U n n al aP (List.length (aP):Int) 0 bl aq bh aY aF):=by
  refine yd (f:=some) (W:=fun eG bm aA=>y5U n eG al aP (List.length (aP):Int) bm aA aq bh aY aF) (body:=(fun bm dR aA=>yA0 al aP aq bh aY aF bm dR aA)) (fin:=(fun aA=>yAD al aP aq bh aY aF aA)) (fun eG bm aA=>?_) hx bl n (by unfold big at hn;unfold lenMax at hx;omega)
  show LeF _ _ (yBX n (y5U n eG) al aP (List.length (aP):Int) bm aA aq bh aY aF)
  exact y8 (yE fun v26=>(y8 (yB rfl) y0D)) (y0b (yg fun hx=>by apply yCP n hn;exact hx))
def yAI(aQ:List (Q3))(ar:Int)(aG:Q2)(aR:Q2)(ca:Int)(v24:Q3)(bi:List (Q3)):Option (((Q2)×Int×Unit)⊕(List (Q3))) :=
  (bif decide (bi.length+(1:Nat)≤memMax)then (some (Sum.inr (bi++[(z0v (v24.1,v24.2.1,v24.2.2.1,())).1])))else none)
def y9d(aQ:List (Q3))(ar:Int)(aG:Q2)(aR:Q2)(bi:List (Q3)):Option ((Q2)×Int×Unit) :=
  (bif decide (List.length (aG.2.1) < lenMax)then yQ (fun bm dR aA=>yA0 (aR) (aG.2.1) (ar) (bi) (aG) (aR) bm dR aA) (fun aA=>yAD (aR) (aG.2.1) (ar) (bi) (aG) (aR) aA) 0 (aG.2.1) ([])else none)
theorem yAo(n:Nat)(hn:big≤n)(aQ:List (Q3))(ar:Int)(aG:Q2)(aR:Q2)(bi:List (Q3))(hx:List.length (aQ) < lenMax):LeF some (yQ (fun bm dR aA=>yAI aQ ar aG aR bm dR aA) (fun aA=>y9d aQ ar aG aR aA) 0 (aQ) bi) (y5E n n aQ (List.length (aQ):Int) 0 bi ar aG aR):=by
  refine yd (f:=some) (W:=fun eG bm aA=>y5E n eG aQ (List.length (aQ):Int) bm aA ar aG aR) (body:=(fun bm dR aA=>yAI aQ ar aG aR bm dR aA)) (fin:=(fun aA=>y9d aQ ar aG aR aA)) (fun eG bm aA=>?_) hx bi n (by unfold big at hn;unfold lenMax at hx;omega)
  show LeF _ _ (yBa n (y5E n eG) aQ (List.length (aQ):Int) bm aA ar aG aR)
  exact y8 (yE fun v24=>(y8 (yB rfl) y0D)) (y0b (yg fun hx=>by apply yBp n hn;exact hx))
def y5m(a:Q2)(b:Q2):Option ((Q2)×Int×Unit) :=
  (bif decide (List.length (a.1) < lenMax)then yQ (fun bm dR aA=>yAI (a.1) ((0:Int)) (a) (b) bm dR aA) (fun aA=>y9d (a.1) ((0:Int)) (a) (b) aA) 0 (a.1) ([])else none)
theorem y3l(n:Nat)(hn:big≤n)(a:Q2)(b:Q2):LeF some (y5m a b) (y7L n a b) :=
  (yg fun hx=>by apply yAo n hn;exact hx)
def yFN(a:Q2)(b:Q2):Option ((Q2)×Int×Unit) :=
  (Option.bind (zr_M a) fun v0=>(Option.bind (zr_M b) fun v1=>(Option.bind (zl_M a) fun v2=>(bif !v2.1 then (Option.bind (y1g [v0.1,v1.1,(z1D Bool.true (4:Int)).1]) fun v3=>(bif v3.1 != 0 then (some ((([],[],(0:Int),()),v3.1,())))else (y5m a b)))else (Option.bind (zl_M b) fun v4=>(Option.bind (y1g [v0.1,v1.1,(z1D (!v4.1) (4:Int)).1]) fun v5=>(bif v5.1 != 0 then (some ((([],[],(0:Int),()),v5.1,())))else (y5m a b))))))))
theorem yQj(a:Q2)(b:Q2)(y:(Q2)×Int×Unit)(h:yFN a b=some y):∃ n,yLK n a b=some y :=
  ⟨big,LeF.top (show LeF some (yFN a b) (yLK big a b)from (fun (n:Nat) (hn:big≤n)=>show LeF some (yFN a b) (yLK n a b)from (yE fun v0=>(yE fun v1=>(yE fun v2=>(y8 (yE fun v3=>(y8 (yB rfl) (by apply y3l n hn))) (yE fun v4=>(yE fun v5=>(y8 (yB rfl) (by apply y3l n hn))))))))) big (Nat.le_refl _)) h⟩
def z1F_e:Entry:={ f:=40,args:=yOt,ress:=yTo,m:=fun x=>yFN x.1 x.2.1 }
theorem yX9:FnOK Tryz.prog z1F_e:=yJ (g:=yTB) (fn:=Tryz.f40) yA yI (y6 yG7 (y6 yPG (y6 y4O (y6 y3T (y6 yYD (y6 yRx (y6 yXE (y6 yPs (y6 y98 (y6 yB2 (y6 yRV (y6 yHJ eNil)))))))))))) (by kernel_rfl) (by kernel_rfl) (by kernel_rfl) (fun x y h=>let ⟨n,hn⟩:=yQj x.1 x.2.1 y h;⟨yMu n,(y4N yKF (y4N yKT iNil)),(yVi n x).trans hn⟩)
end
end Go.Tw
end
section
set_option maxRecDepth 1000000
namespace Go.Tw
open Go.Vx Go.Vx.B Go.Proofs
noncomputable section
abbrev yOT:Ty:=.pair t33 (.pair t3 (.pair t3 .unit))
abbrev yXY:Ty:=.pair t35 (.pair t28 .unit)
def yVg:G:={ T:=T,E:=[z0G_e,z0J_e,z04_e],muts:=[10],fz:=[] }
def yZU:List (List Nat):=[[3,10,24,25,26]]
def yLn(n:Nat):Ann:={ keep:=yZU,fuel:=n,inl:=[],deep:=0 }
def yJU(n:Nat)(r1:Q2→List (Q4)→Int→Int→List Nat→Option (List Nat×Int×Unit))(fC:Q2)(eB:List (Q4))(eC:Int)(dS:Int)(fv:List Nat):Option (List Nat×Int×Unit) :=
  (bif decide (dS < eC)then (Option.bind (idx eB dS) fun v2=>(Option.bind (yRW v2.1 fC.2.2.1) fun v3=>(bif decide ((z04 v3.1).1 > 1024)then some ([],(16:Int),())else (bif decide (fv.length+(1:Nat)≤memMax)then r1 fC eB eC (IntKind.i64.wrap (dS+1)) (fv++[y0n Go.BinOp.quo Go.FloatKind.f32 (yk Go.FloatKind.f32 v3.1) (nat_lit 1098907648)])else none))))else some (fv,(0:Int),()))
def yKi(n:Nat)(k:Nat)(fC:Q2)(eB:List (Q4))(eC:Int)(dS:Int)(fv:List Nat):Option (List Nat×Int×Unit) :=
  iter (fun r y=>yJU n (fun fC eB eC dS fv=>r ((fC,(eB,(eC,(dS,())))),((fv,()),()))) y.1.1 y.1.2.1 y.1.2.2.1 y.1.2.2.2.1 y.2.1.1) k ((fC,(eB,(eC,(dS,())))),((fv,()),()))
def yO1(n:Nat)(t:Q2)(p1:Int)(np:Int):Option (List Nat×Int×Unit) :=
  (Option.bind (yFe t p1 np) fun v0=>(bif v0.2.1 != 0 then some ([],v0.2.1,())else (yKi n n (t) (v0.1) ((↑v0.1.length:Int)) ((0:Int)) ([]))))
theorem yRe(n:Nat)(x:yOT.den):runF yVg (yLn n) Tryz.f22 yOT yXY x=yO1 n x.1 x.2.1 x.2.2.1:=by kernel_rfl
def yOO(t:Q2)(p1:Int)(np:Int):Option (List Nat×Int×Unit):=yO1 1000 t p1 np
theorem yQA(t:Q2)(p1:Int)(np:Int)(y:List Nat×Int×Unit)(h:yOO t p1 np=some y):∃ n,yO1 n t p1 np=some y:=⟨1000,h⟩
def z0X_e:Entry:={ f:=22,args:=yOT,ress:=yXY,m:=fun x=>yOO x.1 x.2.1 x.2.2.1 }
theorem yVl:FnOK Tryz.prog z0X_e:=yJ (g:=yVg) (fn:=Tryz.f22) yA yI (y6 yMf (y6 yVL (y6 yB4 eNil))) (by kernel_rfl) (by kernel_rfl) (by kernel_rfl) (fun x y h=>let ⟨n,hn⟩:=yQA x.1 x.2.1 x.2.2.1 y h;⟨yLn n,iNil,(yRe n x).trans hn⟩)
abbrev yQz:Ty:=.pair t60 (.pair t31 .unit)
abbrev yUd:Ty:=.pair t33 (.pair t28 .unit)
def yXa:G:={ T:=T,E:=[z0x_e,z12_e,z0K_e],muts:=[],fz:=[] }
def yZD:List (List Nat):=[]
def yLZ(n:Nat):Ann:={ keep:=yZD,fuel:=n,inl:=[],deep:=0 }
def yQ6(n:Nat)(rp:Q1)(l:List (Q3)):Option ((Q2)×Int×Unit) :=
  (Option.bind (y9e rp l) fun v0=>(bif v0.1 != 0 then some (([],[],(0:Int),()),v0.1,())else (Option.bind (yKL rp l) fun v1=>(bif v1.2.2.1==0 then some (([],[],(0:Int),()),(25:Int),())else (Option.bind (yBK l v1.1 v1.2.2.1) fun v2=>some ((v2.1.1,v2.1.2.1,v2.1.2.2.1,()),(0:Int),()))))))
theorem yUq(n:Nat)(x:yQz.den):runF yXa (yLZ n) Tryz.f34 yQz yUd x=yQ6 n x.1 x.2.1:=by kernel_rfl
def yKE(rp:Q1)(l:List (Q3)):Option ((Q2)×Int×Unit):=yQ6 0 rp l
theorem yRT(rp:Q1)(l:List (Q3))(y:(Q2)×Int×Unit)(h:yKE rp l=some y):∃ n,yQ6 n rp l=some y:=⟨0,h⟩
def z0F_e:Entry:={ f:=34,args:=yQz,ress:=yUd,m:=fun x=>yKE x.1 x.2.1 }
theorem yUr:FnOK Tryz.prog z0F_e:=yJ (g:=yXa) (fn:=Tryz.f34) yA yI (y6 y7N (y6 yLm (y6 yHJ eNil))) (by kernel_rfl) (by kernel_rfl) (by kernel_rfl) (fun x y h=>let ⟨n,hn⟩:=yRT x.1 x.2.1 y h;⟨yLZ n,iNil,(yUq n x).trans hn⟩)
abbrev zb_a:Ty:=.pair t60 (.pair t31 .unit)
abbrev zb_r:Ty:=.pair t3 (.pair t28 .unit)
def zb_g:G:={ T:=T,E:=[z0x_e,z0c_e,zK_e],muts:=[],fz:=[] }
def zb_k:List (List Nat):=[]
def yWL(n:Nat):Ann:={ keep:=zb_k,fuel:=n,inl:=[],deep:=0 }
def zb_m(n:Nat)(rp:Q1)(l:List (Q3)):Option (Q4) :=
  (Option.bind (y9e rp l) fun v0=>(bif v0.1 != 0 then some ((0:Int),v0.1,())else (Option.bind (yCs rp l) fun v1=>(Option.bind (zK_M v1.1) fun v2=>some (v2.1.1,(0:Int),())))))
theorem yZ4(n:Nat)(x:zb_a.den):runF zb_g (yWL n) Tryz.f35 zb_a zb_r x=zb_m n x.1 x.2.1:=by kernel_rfl
def zb_M(rp:Q1)(l:List (Q3)):Option (Q4):=zb_m 0 rp l
theorem yW9(rp:Q1)(l:List (Q3))(y:Q4)(h:zb_M rp l=some y):∃ n,zb_m n rp l=some y:=⟨0,h⟩
def zb_e:Entry:={ f:=35,args:=zb_a,ress:=zb_r,m:=fun x=>zb_M x.1 x.2.1 }
theorem yaF:FnOK Tryz.prog zb_e:=yJ (g:=zb_g) (fn:=Tryz.f35) yA yI (y6 y7N (y6 yAk (y6 yJz eNil))) (by kernel_rfl) (by kernel_rfl) (by kernel_rfl) (fun x y h=>let ⟨n,hn⟩:=yW9 x.1 x.2.1 y h;⟨yWL n,iNil,(yZ4 n x).trans hn⟩)
abbrev yNr:Ty:=.pair t60 (.pair t31 .unit)
abbrev yUh:Ty:=.pair t69 (.pair t28 .unit)
def yW7:G:={ T:=T,E:=[z0x_e,z12_e,zv_e,z14_e,z11_e],muts:=[],fz:=[] }
def yZM:List (List Nat):=[[4,8,9,10,43,44,45]]
def yMm(n:Nat):Ann:={ keep:=yZM,fuel:=n,inl:=[il124,il195],deep:=3 }
def yBz(n:Nat)(r2:Q1→List (Q4)→List Nat→Int→Int→Q1→List (Q3)→Q1→Int→Int→List (Q4)→List (Q4)→Q1→List (Q3)→Int→Int→Bool→Q1→List (Q3)→List (Q4)→List (Q4)→Int→Int→Bool→Q1→Q1→Int→Int→Int→Int→Q1→List (Q3)→Q1→Int→Int→List (Q4)→List (Q4)→Q1→List (Q3)→Int→Int→Bool→Q1→List (Q3)→List (Q4)→List (Q4)→Int→Int→Bool→Q1→Q1→Option ((Q4)×Int×Unit))(j10:Q1)(j11:List (Q4))(j12:Int)(j13:Nat)(j14:List Nat)(j15:Int)(j16:Int)(j17:Q1)(j18:List (Q3))(j19:Q1)(j20:Int)(j21:Int)(j22:List (Q4))(j23:List (Q4))(j24:Q1)(j25:List (Q3))(j26:Int)(j27:Int)(j28:Bool)(j29:Q1)(j30:List (Q3))(j31:List (Q4))(j32:List (Q4))(j33:Int)(j34:Int)(j35:Bool)(j36:Q1)(j37:Q1)(j38:Int)(j39:Int)(j40:Int)(j41:Int)(j42:Q1)(j43:List (Q3))(j44:Q1)(j45:Int)(j46:Int)(j47:List (Q4))(j48:List (Q4))(j49:Q1)(j50:List (Q3))(j51:Int)(j52:Int)(j53:Bool)(j54:Q1)(j55:List (Q3))(j56:List (Q4))(j57:List (Q4))(j58:Int)(j59:Int)(j60:Bool)(j61:Q1)(j62:Q1):Option ((Q4)×Int×Unit) :=
  (bif decide ((↑j11.length:Int) > 0)then (Option.bind (idx j11 (0:Int)) fun v63=>(bif decide (v63.1≤j12)then r2 j10 j11 j14 j15 (IntKind.i64.wrap (j16+1)) j17 j18 j19 j20 j21 j22 j23 j24 j25 j26 j27 j28 j29 j30 j31 j32 j33 j34 j35 j36 j37 j38 j39 j40 j41 j42 j43 j44 j45 j46 j47 j48 j49 j50 j51 j52 j53 j54 j55 j56 j57 j58 j59 j60 j61 j62 else (Option.bind (y0e Go.FloatKind.f32 (y0n Go.BinOp.mul Go.FloatKind.f32 j13 (nat_lit 1098907648)) IntKind.i64) fun v68=>r2 j10 j11 j14 j15 (IntKind.i64.wrap (j16+1)) j17 j18 j19 j20 j21 j22 j23 j24 j25 j26 j27 j28 j29 j30 j31 j32 j33 j34 j35 j36 j37 j38 j39 j40 (IntKind.i64.wrap (j41+IntKind.i64.wrap (IntKind.i64.wrap (j40 * v68) * v68))) j42 j43 j44 j45 j46 j47 j48 j49 j50 j51 j52 j53 j54 j55 j56 j57 j58 j59 j60 j61 j62)))else (Option.bind (y0e Go.FloatKind.f32 (y0n Go.BinOp.mul Go.FloatKind.f32 j13 (nat_lit 1098907648)) IntKind.i64) fun v69=>r2 j10 j11 j14 j15 (IntKind.i64.wrap (j16+1)) j17 j18 j19 j20 j21 j22 j23 j24 j25 j26 j27 j28 j29 j30 j31 j32 j33 j34 j35 j36 j37 j38 j39 j40 (IntKind.i64.wrap (j41+IntKind.i64.wrap (IntKind.i64.wrap (j40 * v69) * v69))) j42 j43 j44 j45 j46 j47 j48 j49 j50 j51 j52 j53 j54 j55 j56 j57 j58 j59 j60 j61 j62))
def yKP(n:Nat)(r2:Q1→List (Q4)→List Nat→Int→Int→Q1→List (Q3)→Q1→Int→Int→List (Q4)→List (Q4)→Q1→List (Q3)→Int→Int→Bool→Q1→List (Q3)→List (Q4)→List (Q4)→Int→Int→Bool→Q1→Q1→Int→Int→Int→Int→Q1→List (Q3)→Q1→Int→Int→List (Q4)→List (Q4)→Q1→List (Q3)→Int→Int→Bool→Q1→List (Q3)→List (Q4)→List (Q4)→Int→Int→Bool→Q1→Q1→Option ((Q4)×Int×Unit))(r4:Q1→List (Q4)→Int→Nat→List Nat→Int→Int→Q1→List (Q3)→Q1→Int→Int→List (Q4)→List (Q4)→Q1→List (Q3)→Int→Int→Bool→Q1→List (Q3)→List (Q4)→List (Q4)→Int→Int→Bool→Q1→Q1→Int→Int→Int→Int→Q1→List (Q3)→Q1→Int→Int→List (Q4)→List (Q4)→Q1→List (Q3)→Int→Int→Bool→Q1→List (Q3)→List (Q4)→List (Q4)→Int→Int→Bool→Q1→Q1→Option ((Q4)×Int×Unit))(d4:Q1)(aB:List (Q4))(eP:Int)(fw:Nat)(cB:List Nat)(bn:Int)(bj:Int)(b4:Q1)(b6:List (Q3))(b7:Q1)(b8:Int)(b9:Int)(cx:List (Q4))(cy:List (Q4))(aI:Q1)(aJ:List (Q3))(aK:Int)(aL:Int)(aM:Bool)(aN:Q1)(bQ:List (Q3))(aO:List (Q4))(bR:List (Q4))(bS:Int)(bT:Int)(bU:Bool)(bV:Q1)(be:Q1)(ba:Int)(bc:Int)(aU:Int)(cz:Int)(d5:Q1)(d6:List (Q3))(d7:Q1)(d8:Int)(d9:Int)(fy:List (Q4))(fA:List (Q4))(br:Q1)(bt:List (Q3))(bu:Int)(bv:Int)(bw:Bool)(bx:Q1)(dT:List (Q3))(bz:List (Q4))(dU:List (Q4))(dV:Int)(dW:Int)(dX:Bool)(dY:Q1)(bW:Q1):Option ((Q4)×Int×Unit) :=
  (bif decide ((↑aB.length:Int) > 0)then (Option.bind (idx aB (0:Int)) fun v5=>(bif decide (v5.2.1≤eP)then (bif decide ((0:Int)≤1) && decide ((1:Int)≤(↑aB.length:Int))then r4 d4 (List.drop (Int.toNat (1:Int)) aB) eP fw cB bn bj b4 b6 b7 b8 b9 cx cy aI aJ aK aL aM aN bQ aO bR bS bT bU bV be ba bc aU cz d5 d6 d7 d8 d9 fy fA br bt bu bv bw bx dT bz dU dV dW dX dY bW else none)else (yBz n r2 (d4) (aB) (eP) (fw) (cB) (bn) (bj) (b4) (b6) (b7) (b8) (b9) (cx) (cy) (aI) (aJ) (aK) (aL) (aM) (aN) (bQ) (aO) (bR) (bS) (bT) (bU) (bV) (be) (ba) (bc) (aU) (cz) (d5) (d6) (d7) (d8) (d9) (fy) (fA) (br) (bt) (bu) (bv) (bw) (bx) (dT) (bz) (dU) (dV) (dW) (dX) (dY) (bW))))else (yBz n r2 (d4) (aB) (eP) (fw) (cB) (bn) (bj) (b4) (b6) (b7) (b8) (b9) (cx) (cy) (aI) (aJ) (aK) (aL) (aM) (aN) (bQ) (aO) (bR) (bS) (bT) (bU) (bV) (be) (ba) (bc) (aU) (cz) (d5) (d6) (d7) (d8) (d9) (fy) (fA) (br) (bt) (bu) (bv) (bw) (bx) (dT) (bz) (dU) (dV) (dW) (dX) (dY) (bW)))
def yJV(n:Nat)(r2:Q1→List (Q4)→List Nat→Int→Int→Q1→List (Q3)→Q1→Int→Int→List (Q4)→List (Q4)→Q1→List (Q3)→Int→Int→Bool→Q1→List (Q3)→List (Q4)→List (Q4)→Int→Int→Bool→Q1→Q1→Int→Int→Int→Int→Q1→List (Q3)→Q1→Int→Int→List (Q4)→List (Q4)→Q1→List (Q3)→Int→Int→Bool→Q1→List (Q3)→List (Q4)→List (Q4)→Int→Int→Bool→Q1→Q1→Option ((Q4)×Int×Unit))(k:Nat)(d4:Q1)(aB:List (Q4))(eP:Int)(fw:Nat)(cB:List Nat)(bn:Int)(bj:Int)(b4:Q1)(b6:List (Q3))(b7:Q1)(b8:Int)(b9:Int)(cx:List (Q4))(cy:List (Q4))(aI:Q1)(aJ:List (Q3))(aK:Int)(aL:Int)(aM:Bool)(aN:Q1)(bQ:List (Q3))(aO:List (Q4))(bR:List (Q4))(bS:Int)(bT:Int)(bU:Bool)(bV:Q1)(be:Q1)(ba:Int)(bc:Int)(aU:Int)(cz:Int)(d5:Q1)(d6:List (Q3))(d7:Q1)(d8:Int)(d9:Int)(fy:List (Q4))(fA:List (Q4))(br:Q1)(bt:List (Q3))(bu:Int)(bv:Int)(bw:Bool)(bx:Q1)(dT:List (Q3))(bz:List (Q4))(dU:List (Q4))(dV:Int)(dW:Int)(dX:Bool)(dY:Q1)(bW:Q1):Option ((Q4)×Int×Unit) :=
  iter (fun r y=>yKP n r2 (fun d4 aB eP fw cB bn bj b4 b6 b7 b8 b9 cx cy aI aJ aK aL aM aN bQ aO bR bS bT bU bV be ba bc aU cz d5 d6 d7 d8 d9 fy fA br bt bu bv bw bx dT bz dU dV dW dX dY bW=>r ((d4,(aB,(eP,(fw,(cB,(bn,(bj,()))))))),(((b4,(b6,(b7,(b8,(b9,(cx,(cy,(aI,(aJ,(aK,(aL,(aM,(aN,(bQ,(aO,(bR,(bS,(bT,(bU,(bV,((be,()),()))))))))))))))))))))),((ba,(bc,())),((aU,()),((cz,()),())))),(d5,(d6,(d7,(d8,(d9,(fy,(fA,(br,(bt,(bu,(bv,(bw,(bx,(dT,(bz,(dU,(dV,(dW,(dX,(dY,((bW,()),())))))))))))))))))))))))) y.1.1 y.1.2.1 y.1.2.2.1 y.1.2.2.2.1 y.1.2.2.2.2.1 y.1.2.2.2.2.2.1 y.1.2.2.2.2.2.2.1 y.2.1.1.1 y.2.1.1.2.1 y.2.1.1.2.2.1 y.2.1.1.2.2.2.1 y.2.1.1.2.2.2.2.1 y.2.1.1.2.2.2.2.2.1 y.2.1.1.2.2.2.2.2.2.1 y.2.1.1.2.2.2.2.2.2.2.1 y.2.1.1.2.2.2.2.2.2.2.2.1 y.2.1.1.2.2.2.2.2.2.2.2.2.1 y.2.1.1.2.2.2.2.2.2.2.2.2.2.1 y.2.1.1.2.2.2.2.2.2.2.2.2.2.2.1 y.2.1.1.2.2.2.2.2.2.2.2.2.2.2.2.1 y.2.1.1.2.2.2.2.2.2.2.2.2.2.2.2.2.1 y.2.1.1.2.2.2.2.2.2.2.2.2.2.2.2.2.2.1 y.2.1.1.2.2.2.2.2.2.2.2.2.2.2.2.2.2.2.1 y.2.1.1.2.2.2.2.2.2.2.2.2.2.2.2.2.2.2.2.1 y.2.1.1.2.2.2.2.2.2.2.2.2.2.2.2.2.2.2.2.2.1 y.2.1.1.2.2.2.2.2.2.2.2.2.2.2.2.2.2.2.2.2.2.1 y.2.1.1.2.2.2.2.2.2.2.2.2.2.2.2.2.2.2.2.2.2.2.1 y.2.1.1.2.2.2.2.2.2.2.2.2.2.2.2.2.2.2.2.2.2.2.2.1.1 y.2.1.2.1.1 y.2.1.2.1.2.1 y.2.1.2.2.1.1 y.2.1.2.2.2.1.1 y.2.2.1 y.2.2.2.1 y.2.2.2.2.1 y.2.2.2.2.2.1 y.2.2.2.2.2.2.1 y.2.2.2.2.2.2.2.1 y.2.2.2.2.2.2.2.2.1 y.2.2.2.2.2.2.2.2.2.1 y.2.2.2.2.2.2.2.2.2.2.1 y.2.2.2.2.2.2.2.2.2.2.2.1 y.2.2.2.2.2.2.2.2.2.2.2.2.1 y.2.2.2.2.2.2.2.2.2.2.2.2.2.1 y.2.2.2.2.2.2.2.2.2.2.2.2.2.2.1 y.2.2.2.2.2.2.2.2.2.2.2.2.2.2.2.1 y.2.2.2.2.2.2.2.2.2.2.2.2.2.2.2.2.1 y.2.2.2.2.2.2.2.2.2.2.2.2.2.2.2.2.2.1 y.2.2.2.2.2.2.2.2.2.2.2.2.2.2.2.2.2.2.1 y.2.2.2.2.2.2.2.2.2.2.2.2.2.2.2.2.2.2.2.1 y.2.2.2.2.2.2.2.2.2.2.2.2.2.2.2.2.2.2.2.2.1 y.2.2.2.2.2.2.2.2.2.2.2.2.2.2.2.2.2.2.2.2.2.1 y.2.2.2.2.2.2.2.2.2.2.2.2.2.2.2.2.2.2.2.2.2.2.1.1) k ((d4,(aB,(eP,(fw,(cB,(bn,(bj,()))))))),(((b4,(b6,(b7,(b8,(b9,(cx,(cy,(aI,(aJ,(aK,(aL,(aM,(aN,(bQ,(aO,(bR,(bS,(bT,(bU,(bV,((be,()),()))))))))))))))))))))),((ba,(bc,())),((aU,()),((cz,()),())))),(d5,(d6,(d7,(d8,(d9,(fy,(fA,(br,(bt,(bu,(bv,(bw,(bx,(dT,(bz,(dU,(dV,(dW,(dX,(dY,((bW,()),())))))))))))))))))))))))
def yHo(n:Nat)(r74:List (Q4)→List (Q4)→Int→Int→Int→Int→Int→Int→Option ((Q4)×Int×Unit))(eD:List (Q4))(dg:List (Q4))(dl:Int)(cb:Int)(cJ:Int)(cK:Int)(cd:Int)(ce:Int):Option ((Q4)×Int×Unit) :=
  (bif decide (cb < dl)then (Option.bind (idx dg cb) fun v75=>(Option.bind (idx eD cb) fun v76=>r74 eD dg dl (IntKind.i64.wrap (cb+1)) cJ cK cd (IntKind.i64.wrap (ce - (z14 (zv v76).1 (v75.1,v75.2.1,())).1.1))))else (Option.bind (yGA ce cd) fun v77=>some ((v77.1.1,v77.1.2.1,()),(0:Int),())))
def yGb(n:Nat)(k:Nat)(eD:List (Q4))(dg:List (Q4))(dl:Int)(cb:Int)(cJ:Int)(cK:Int)(cd:Int)(ce:Int):Option ((Q4)×Int×Unit) :=
  iter (fun r y=>yHo n (fun eD dg dl cb cJ cK cd ce=>r ((eD,(dg,(dl,(cb,())))),(((cJ,(cK,())),((cd,()),((ce,()),()))),()))) y.1.1 y.1.2.1 y.1.2.2.1 y.1.2.2.2.1 y.2.1.1.1 y.2.1.1.2.1 y.2.1.2.1.1 y.2.1.2.2.1.1) k ((eD,(dg,(dl,(cb,())))),(((cJ,(cK,())),((cd,()),((ce,()),()))),()))
def yK3(n:Nat)(r2:Q1→List (Q4)→List Nat→Int→Int→Q1→List (Q3)→Q1→Int→Int→List (Q4)→List (Q4)→Q1→List (Q3)→Int→Int→Bool→Q1→List (Q3)→List (Q4)→List (Q4)→Int→Int→Bool→Q1→Q1→Int→Int→Int→Int→Q1→List (Q3)→Q1→Int→Int→List (Q4)→List (Q4)→Q1→List (Q3)→Int→Int→Bool→Q1→List (Q3)→List (Q4)→List (Q4)→Int→Int→Bool→Q1→Q1→Option ((Q4)×Int×Unit))(dy:Q1)(cL:List (Q4))(fD:List Nat)(eE:Int)(dw:Int)(dZ:Q1)(e6:List (Q3))(e7:Q1)(e8:Int)(eb:Int)(ed:List (Q4))(ee:List (Q4))(cM:Q1)(cN:List (Q3))(cO:Int)(cP:Int)(cQ:Bool)(cR:Q1)(cS:List (Q3))(cT:List (Q4))(cU:List (Q4))(cV:Int)(cW:Int)(cX:Bool)(cY:Q1)(bA:Q1)(dm:Int)(dn:Int)(dp:Int)(dq:Int)(fF:Q1)(fG:List (Q3))(fH:Q1)(fI:Int)(fJ:Int)(fB:List (Q4))(fE:List (Q4))(eQ:Q1)(eR:List (Q3))(eS:Int)(eT:Int)(eU:Bool)(eV:Q1)(eW:List (Q3))(eX:List (Q4))(eY:List (Q4))(eZ:Int)(f0:Int)(f7:Bool)(f9:Q1)(cZ:Q1):Option ((Q4)×Int×Unit) :=
  (bif decide (dw < eE)then (Option.bind (idx fD dw) fun v3=>(yJV n r2 n (dy) (cL) (dw) (v3) (fD) (eE) (dw) (dZ) (e6) (e7) (e8) (eb) (ed) (ee) (cM) (cN) (cO) (cP) (cQ) (cR) (cS) (cT) (cU) (cV) (cW) (cX) (cY) (bA) (dm) (dn) (dp) (dq) (fF) (fG) (fH) (fI) (fJ) (fB) (fE) (eQ) (eR) (eS) (eT) (eU) (eV) (eW) (eX) (eY) (eZ) (f0) (f7) (f9) (cZ)))else (yGb n n (fE) (fB) ((↑fB.length:Int)) ((0:Int)) (dm) (dn) (dp) (dq)))
def yJR(n:Nat)(k:Nat)(dy:Q1)(cL:List (Q4))(fD:List Nat)(eE:Int)(dw:Int)(dZ:Q1)(e6:List (Q3))(e7:Q1)(e8:Int)(eb:Int)(ed:List (Q4))(ee:List (Q4))(cM:Q1)(cN:List (Q3))(cO:Int)(cP:Int)(cQ:Bool)(cR:Q1)(cS:List (Q3))(cT:List (Q4))(cU:List (Q4))(cV:Int)(cW:Int)(cX:Bool)(cY:Q1)(bA:Q1)(dm:Int)(dn:Int)(dp:Int)(dq:Int)(fF:Q1)(fG:List (Q3))(fH:Q1)(fI:Int)(fJ:Int)(fB:List (Q4))(fE:List (Q4))(eQ:Q1)(eR:List (Q3))(eS:Int)(eT:Int)(eU:Bool)(eV:Q1)(eW:List (Q3))(eX:List (Q4))(eY:List (Q4))(eZ:Int)(f0:Int)(f7:Bool)(f9:Q1)(cZ:Q1):Option ((Q4)×Int×Unit) :=
  iter (fun r y=>yK3 n (fun dy cL fD eE dw dZ e6 e7 e8 eb ed ee cM cN cO cP cQ cR cS cT cU cV cW cX cY bA dm dn dp dq fF fG fH fI fJ fB fE eQ eR eS eT eU eV eW eX eY eZ f0 f7 f9 cZ=>r ((dy,(cL,(fD,(eE,(dw,()))))),(((dZ,(e6,(e7,(e8,(eb,(ed,(ee,(cM,(cN,(cO,(cP,(cQ,(cR,(cS,(cT,(cU,(cV,(cW,(cX,(cY,((bA,()),()))))))))))))))))))))),((dm,(dn,())),((dp,()),((dq,()),())))),(fF,(fG,(fH,(fI,(fJ,(fB,(fE,(eQ,(eR,(eS,(eT,(eU,(eV,(eW,(eX,(eY,(eZ,(f0,(f7,(f9,((cZ,()),())))))))))))))))))))))))) y.1.1 y.1.2.1 y.1.2.2.1 y.1.2.2.2.1 y.1.2.2.2.2.1 y.2.1.1.1 y.2.1.1.2.1 y.2.1.1.2.2.1 y.2.1.1.2.2.2.1 y.2.1.1.2.2.2.2.1 y.2.1.1.2.2.2.2.2.1 y.2.1.1.2.2.2.2.2.2.1 y.2.1.1.2.2.2.2.2.2.2.1 y.2.1.1.2.2.2.2.2.2.2.2.1 y.2.1.1.2.2.2.2.2.2.2.2.2.1 y.2.1.1.2.2.2.2.2.2.2.2.2.2.1 y.2.1.1.2.2.2.2.2.2.2.2.2.2.2.1 y.2.1.1.2.2.2.2.2.2.2.2.2.2.2.2.1 y.2.1.1.2.2.2.2.2.2.2.2.2.2.2.2.2.1 y.2.1.1.2.2.2.2.2.2.2.2.2.2.2.2.2.2.1 y.2.1.1.2.2.2.2.2.2.2.2.2.2.2.2.2.2.2.1 y.2.1.1.2.2.2.2.2.2.2.2.2.2.2.2.2.2.2.2.1 y.2.1.1.2.2.2.2.2.2.2.2.2.2.2.2.2.2.2.2.2.1 y.2.1.1.2.2.2.2.2.2.2.2.2.2.2.2.2.2.2.2.2.2.1 y.2.1.1.2.2.2.2.2.2.2.2.2.2.2.2.2.2.2.2.2.2.2.1 y.2.1.1.2.2.2.2.2.2.2.2.2.2.2.2.2.2.2.2.2.2.2.2.1.1 y.2.1.2.1.1 y.2.1.2.1.2.1 y.2.1.2.2.1.1 y.2.1.2.2.2.1.1 y.2.2.1 y.2.2.2.1 y.2.2.2.2.1 y.2.2.2.2.2.1 y.2.2.2.2.2.2.1 y.2.2.2.2.2.2.2.1 y.2.2.2.2.2.2.2.2.1 y.2.2.2.2.2.2.2.2.2.1 y.2.2.2.2.2.2.2.2.2.2.1 y.2.2.2.2.2.2.2.2.2.2.2.1 y.2.2.2.2.2.2.2.2.2.2.2.2.1 y.2.2.2.2.2.2.2.2.2.2.2.2.2.1 y.2.2.2.2.2.2.2.2.2.2.2.2.2.2.1 y.2.2.2.2.2.2.2.2.2.2.2.2.2.2.2.1 y.2.2.2.2.2.2.2.2.2.2.2.2.2.2.2.2.1 y.2.2.2.2.2.2.2.2.2.2.2.2.2.2.2.2.2.1 y.2.2.2.2.2.2.2.2.2.2.2.2.2.2.2.2.2.2.1 y.2.2.2.2.2.2.2.2.2.2.2.2.2.2.2.2.2.2.2.1 y.2.2.2.2.2.2.2.2.2.2.2.2.2.2.2.2.2.2.2.2.1 y.2.2.2.2.2.2.2.2.2.2.2.2.2.2.2.2.2.2.2.2.2.1 y.2.2.2.2.2.2.2.2.2.2.2.2.2.2.2.2.2.2.2.2.2.2.1.1) k ((dy,(cL,(fD,(eE,(dw,()))))),(((dZ,(e6,(e7,(e8,(eb,(ed,(ee,(cM,(cN,(cO,(cP,(cQ,(cR,(cS,(cT,(cU,(cV,(cW,(cX,(cY,((bA,()),()))))))))))))))))))))),((dm,(dn,())),((dp,()),((dq,()),())))),(fF,(fG,(fH,(fI,(fJ,(fB,(fE,(eQ,(eR,(eS,(eT,(eU,(eV,(eW,(eX,(eY,(eZ,(f0,(f7,(f9,((cZ,()),())))))))))))))))))))))))
def yNa(n:Nat)(rp:Q1)(l:List (Q3)):Option ((Q4)×Int×Unit) :=
  (Option.bind (y9e rp l) fun v0=>(bif v0.1 != 0 then some (((0:Int),(0:Int),()),v0.1,())else (Option.bind (yKL rp l) fun v1=>(bif v1.2.2.1==0 then some (((0:Int),(0:Int),()),(25:Int),())else (yJR n n (rp) (rp.2.2.2.1) (rp.2.2.1) ((↑rp.2.2.1.length:Int)) ((0:Int)) (rp) (l) (rp) ((0:Int)) (v0.1) (v1.1) (v1.2.1) (rp) (l) (v0.1) (v0.1) (v0.1 != 0) (rp) (l) (v1.1) (v1.2.1) (v1.2.2.1) (v1.2.2.1) (v1.2.2.1==0) (rp) (rp) ((0:Int)) ((0:Int)) (v1.2.2.1) ((0:Int)) (rp) (l) (rp) ((0:Int)) (v0.1) (v1.1) (v1.2.1) (rp) (l) (v0.1) (v0.1) (v0.1 != 0) (rp) (l) (v1.1) (v1.2.1) (v1.2.2.1) (v1.2.2.1) (v1.2.2.1==0) (rp) (rp))))))
theorem yWJ(n:Nat)(x:yNr.den):runF yW7 (yMm n) Tryz.f36 yNr yUh x=yNa n x.1 x.2.1:=by kernel_rfl
def yK4(rp:Q1)(l:List (Q3)):Option ((Q4)×Int×Unit):=yNa 1000 rp l
theorem yNH(rp:Q1)(l:List (Q3))(y:(Q4)×Int×Unit)(h:yK4 rp l=some y):∃ n,yNa n rp l=some y:=⟨1000,h⟩
def z0s_e:Entry:={ f:=36,args:=yNr,ress:=yUh,m:=fun x=>yK4 x.1 x.2.1 }
theorem yUJ:FnOK Tryz.prog z0s_e:=yJ (g:=yW7) (fn:=Tryz.f36) yA yI (y6 y7N (y6 yLm (y6 yNu (y6 yDf (y6 yH2 eNil))))) (by kernel_rfl) (by kernel_rfl) (by kernel_rfl) (fun x y h=>let ⟨n,hn⟩:=yNH x.1 x.2.1 y h;⟨yMm n,(y4N y5Z (y4N y5J iNil)),(yWJ n x).trans hn⟩)
abbrev yQv:Ty:=.pair t60 (.pair t31 .unit)
abbrev yV5:Ty:=.pair t96 (.pair t28 .unit)
def yS8:G:={ T:=T,E:=[z0x_e,z0c_e],muts:=[],fz:=[] }
def yYs:List (List Nat):=[]
def yN9(n:Nat):Ann:={ keep:=yYs,fuel:=n,inl:=[],deep:=0 }
def yNl(n:Nat)(rp:Q1)(l:List (Q3)):Option (List (List (Q4))×Int×Unit) :=
  (Option.bind (y9e rp l) fun v0=>(bif v0.1 != 0 then some ([],v0.1,())else (Option.bind (yCs rp l) fun v1=>some (v1.1,(0:Int),()))))
theorem yT4(n:Nat)(x:yQv.den):runF yS8 (yN9 n) Tryz.f55 yQv yV5 x=yNl n x.1 x.2.1:=by kernel_rfl
def yRG(rp:Q1)(l:List (Q3)):Option (List (List (Q4))×Int×Unit):=yNl 0 rp l
theorem yQP(rp:Q1)(l:List (Q3))(y:List (List (Q4))×Int×Unit)(h:yRG rp l=some y):∃ n,yNl n rp l=some y:=⟨0,h⟩
def z0Y_e:Entry:={ f:=55,args:=yQv,ress:=yV5,m:=fun x=>yRG x.1 x.2.1 }
theorem yVJ:FnOK Tryz.prog z0Y_e:=yJ (g:=yS8) (fn:=Tryz.f55) yA yI (y6 y7N (y6 yAk eNil)) (by kernel_rfl) (by kernel_rfl) (by kernel_rfl) (fun x y h=>let ⟨n,hn⟩:=yQP x.1 x.2.1 y h;⟨yN9 n,iNil,(yT4 n x).trans hn⟩)
abbrev yP3:Ty:=.pair t60 (.pair t31 .unit)
abbrev yT7:Ty:=.pair t3 (.pair t28 .unit)
def yWK:G:={ T:=T,E:=[z0x_e,z6_e,zw_e],muts:=[24],fz:=[7,27] }
def yYV:List (List Nat):=[[2,7,17,18,19,1000007]]
def yMo(n:Nat):Ann:={ keep:=yYV,fuel:=n,inl:=[],deep:=0 }
def yK1(n:Nat)(r1:Q1→List (Q3)→List (Q3)→Int→Int→Option (Q4))(cg:Q1)(bg:List (Q3))(eg:List (Q3))(ek:Int)(dx:Int):Option (Q4) :=
  (bif decide (dx < ek)then (Option.bind (idx eg dx) fun v2=>(bif decide (bg.length≤memMax)then (bif decide (bg.length+(1:Nat)≤memMax)then (Option.bind (zw_M cg (bg++[(v2.1,v2.2.1,v2.2.2.1,())])) fun v3=>(bif !v3.1 then r1 cg (bg++[(v2.1,v2.2.1,v2.2.2.1,())]) eg ek (IntKind.i64.wrap (dx+1))else r1 cg bg eg ek (IntKind.i64.wrap (dx+1))))else none)else none))else some ((↑bg.length:Int),(0:Int),()))
def yIz(n:Nat)(k:Nat)(cg:Q1)(bg:List (Q3))(eg:List (Q3))(ek:Int)(dx:Int):Option (Q4) :=
  iter (fun r y=>yK1 n (fun cg bg eg ek dx=>r ((cg,(bg,(eg,(ek,(dx,()))))),((),()))) y.1.1 y.1.2.1 y.1.2.2.1 y.1.2.2.2.1 y.1.2.2.2.2.1) k ((cg,(bg,(eg,(ek,(dx,()))))),((),()))
def yO3(n:Nat)(rp:Q1)(l:List (Q3)):Option (Q4) :=
  (Option.bind (y9e rp l) fun v0=>(bif v0.1 != 0 then some ((0:Int),v0.1,())else (yIz n n (rp) ([]) (l) ((↑l.length:Int)) ((0:Int)))))
theorem yXO(n:Nat)(x:yP3.den):runF yWK (yMo n) Tryz.f57 yP3 yT7 x=yO3 n x.1 x.2.1:=by kernel_rfl
def yPF(rp:Q1)(l:List (Q3)):Option (Q4):=yO3 1000 rp l
theorem yNv(rp:Q1)(l:List (Q3))(y:Q4)(h:yPF rp l=some y):∃ n,yO3 n rp l=some y:=⟨1000,h⟩
def z1A_e:Entry:={ f:=57,args:=yP3,ress:=yT7,m:=fun x=>yPF x.1 x.2.1 }
theorem ySo:FnOK Tryz.prog z1A_e:=yJ (g:=yWK) (fn:=Tryz.f57) yA yI (y6 y7N (y6 yYx (y6 ySN eNil))) (by kernel_rfl) (by kernel_rfl) (by kernel_rfl) (fun x y h=>let ⟨n,hn⟩:=yNv x.1 x.2.1 y h;⟨yMo n,iNil,(yXO n x).trans hn⟩)
abbrev yPd:Ty:=.pair t60 (.pair t31 .unit)
abbrev yX2:Ty:=.pair t100 (.pair t28 .unit)
def yVv:G:={ T:=T,E:=[z0x_e,z13_e,z0z_e],muts:=[8],fz:=[] }
def yat:List (List Nat):=[[1,2,7,8,22]]
def yM8(n:Nat):Ann:={ keep:=yat,fuel:=n,inl:=[],deep:=0 }
def yJn(n:Nat)(r2:List (Q3)→Q1→Int→Int→List (List Int)→Option (List (List Int)×Int×Unit))(dz:List (Q3))(ev:Q1)(ep:Int)(az:Int)(bP:List (List Int)):Option (List (List Int)×Int×Unit) :=
  (bif decide (az < 16)then (bif decide (IntKind.i64.wrap (az.tdiv (4:Int)) > az.tmod (4:Int))then r2 dz ev ep (IntKind.i64.wrap (az+1)) bP else (bif eqV (Ty.arr (2:Nat) (Ty.int IntKind.i64)) [IntKind.i64.wrap (az.tdiv (4:Int)),az.tmod (4:Int)] [az.tmod (4:Int),IntKind.i64.wrap (az.tdiv (4:Int))]then r2 dz ev ep (IntKind.i64.wrap (az+1)) bP else (bif decide (az.tmod (4:Int) ≥ (↑dz.length:Int))then r2 dz ev ep (IntKind.i64.wrap (az+1)) bP else (Option.bind (idx dz (IntKind.i64.wrap (az.tdiv (4:Int)))) fun v7=>(Option.bind (idx dz (az.tmod (4:Int))) fun v8=>(Option.bind (yGX ev v7 v8) fun v9=>(bif IntKind.i64.wrap (IntKind.i64.wrap (v9.1.1 * v9.1.1)+IntKind.i64.wrap (v9.1.2.1 * v9.1.2.1))==IntKind.i64.wrap (ep * ep)then (bif decide (bP.length+(1:Nat)≤memMax)then r2 dz ev ep (IntKind.i64.wrap (az+1)) (bP++[[IntKind.i64.wrap (az.tdiv (4:Int)),az.tmod (4:Int)]])else none)else r2 dz ev ep (IntKind.i64.wrap (az+1)) bP)))))))else some (bP,(0:Int),()))
def yLC(n:Nat)(k:Nat)(dz:List (Q3))(ev:Q1)(ep:Int)(az:Int)(bP:List (List Int)):Option (List (List Int)×Int×Unit) :=
  iter (fun r y=>yJn n (fun dz ev ep az bP=>r ((dz,(ev,(ep,(az,())))),((bP,()),()))) y.1.1 y.1.2.1 y.1.2.2.1 y.1.2.2.2.1 y.2.1.1) k ((dz,(ev,(ep,(az,())))),((bP,()),()))
def yRO(n:Nat)(rp:Q1)(l:List (Q3)):Option (List (List Int)×Int×Unit) :=
  (Option.bind (y9e rp l) fun v0=>(bif v0.1 != 0 then some ([],v0.1,())else (Option.bind (yJ6 rp) fun v1=>(yLC n n (l) (rp) ((↑v1.1.length:Int)) ((0:Int)) ([])))))
theorem yRm(n:Nat)(x:yPd.den):runF yVv (yM8 n) Tryz.f58 yPd yX2 x=yRO n x.1 x.2.1:=by kernel_rfl
def yNO(rp:Q1)(l:List (Q3)):Option (List (List Int)×Int×Unit):=yRO 1000 rp l
theorem yQk(rp:Q1)(l:List (Q3))(y:List (List Int)×Int×Unit)(h:yNO rp l=some y):∃ n,yRO n rp l=some y:=⟨1000,h⟩
def z0q_e:Entry:={ f:=58,args:=yPd,ress:=yX2,m:=fun x=>yNO x.1 x.2.1 }
theorem yVA:FnOK Tryz.prog z0q_e:=yJ (g:=yVv) (fn:=Tryz.f58) yA yI (y6 y7N (y6 yLk (y6 yGt eNil))) (by kernel_rfl) (by kernel_rfl) (by kernel_rfl) (fun x y h=>let ⟨n,hn⟩:=yQk x.1 x.2.1 y h;⟨yM8 n,iNil,(yRm n x).trans hn⟩)
abbrev yRA:Ty:=.pair t60 (.pair t31 .unit)
abbrev yTa:Ty:=.pair t23 (.pair t28 .unit)
def ySC:G:={ T:=T,E:=[z0x_e,zw_e,z0c_e,z02_e,zA_e,zd_e,zK_e,z0d_e],muts:=[],fz:=[] }
def yax:List (List Nat):=[[2,3,7,22,23],[7,9,10,11,51,52]]
def yLi(n:Nat):Ann:={ keep:=yax,fuel:=n,inl:=[],deep:=0 }
def yH8(n:Nat)(r10:Int→List (List (Q4))→List (Q4)→Int→Int→List (Q4)→Option (List (Q4)×Int×Unit))(cc:Int)(eu:List (List (Q4)))(aT:List (Q4))(dt:Int)(bp:Int)(ci:List (Q4)):Option (List (Q4)×Int×Unit) :=
  (bif decide (bp < dt)then (Option.bind (zd_M eu bp aT) fun v11=>(Option.bind (zK_M v11.1) fun v12=>(Option.bind (idx ci bp) fun v13=>(Option.bind (ci[bp.toNat]?) fun v14=>r10 cc eu aT dt (IntKind.i64.wrap (bp+1)) (ci.set bp.toNat v12.1)))))else (Option.bind (zK_M eu) fun v15=>(Option.bind (idx ci cc) fun v16=>(Option.bind (ci[cc.toNat]?) fun v17=>some (ci.set cc.toNat (z0d v15.1 (-1:Int)).1,(0:Int),())))))
def yHg(n:Nat)(k:Nat)(cc:Int)(eu:List (List (Q4)))(aT:List (Q4))(dt:Int)(bp:Int)(ci:List (Q4)):Option (List (Q4)×Int×Unit) :=
  iter (fun r y=>yH8 n (fun cc eu aT dt bp ci=>r ((cc,(eu,(aT,(dt,(bp,()))))),((ci,()),()))) y.1.1 y.1.2.1 y.1.2.2.1 y.1.2.2.2.1 y.1.2.2.2.2.1 y.2.1.1) k ((cc,(eu,(aT,(dt,(bp,()))))),((ci,()),()))
def yC0(n:Nat)(j3:Int)(j4:Q1)(j5:List (Q3)):Option (List (Q4)×Int×Unit) :=
  (bif j3==(↑j5.length:Int)then some ([],(7:Int),())else (bif decide ((0:Int)≤j3) && decide (j3≤(↑j5.length:Int))then (Option.bind (yCs j4 (List.take j3.toNat j5)) fun v8=>(bif decide ((0:Int)≤j3) && decide (j3≤(↑j5.length:Int))then (Option.bind (zA_M (List.take j3.toNat j5) fun (x:(Q3)×Unit)=>yRH x.1 j4 j5 j3) fun v9=>(bif Bool.true && decide ((0:Int)≤(↑j5.length:Int)) && decide ((↑j5.length:Int)≤(↑memMax:Int)) && (↑j5.length:Int)==(↑j5.length:Int)then (yHg n n (j3) (v8.1) (v9.1) (j3) ((0:Int)) ((List.replicate ((↑j5.length:Int).toNat) (((0:Int),(0:Int),())):List (Q4))))else none))else none))else none))
def yJb(n:Nat)(r1:Q1→List (Q3)→Int→Int→Int→Option (List (Q4)×Int×Unit))(cg:Q1)(eH:List (Q3))(eF:Int)(cj:Int)(du:Int):Option (List (Q4)×Int×Unit) :=
  (bif decide (cj < eF)then (bif decide ((0:Int)≤IntKind.i64.wrap (cj+1)) && decide (IntKind.i64.wrap (cj+1)≤(↑eH.length:Int))then (Option.bind (zw_M cg (List.take (IntKind.i64.wrap (cj+1)).toNat eH)) fun v2=>(bif v2.1 then (yC0 n (cj) (cg) (eH))else r1 cg eH eF (IntKind.i64.wrap (cj+1)) du))else none)else (yC0 n (du) (cg) (eH)))
def yLH(n:Nat)(k:Nat)(cg:Q1)(eH:List (Q3))(eF:Int)(cj:Int)(du:Int):Option (List (Q4)×Int×Unit) :=
  iter (fun r y=>yJb n (fun cg eH eF cj du=>r ((cg,(eH,(eF,(cj,())))),(((du,()),()),()))) y.1.1 y.1.2.1 y.1.2.2.1 y.1.2.2.2.1 y.2.1.1.1) k ((cg,(eH,(eF,(cj,())))),(((du,()),()),()))
def yQU(n:Nat)(rp:Q1)(l:List (Q3)):Option (List (Q4)×Int×Unit) :=
  (Option.bind (y9e rp l) fun v0=>(bif v0.1 != 0 then some ([],v0.1,())else (yLH n n (rp) (l) ((↑l.length:Int)) ((0:Int)) ((↑l.length:Int)))))
theorem yX3(n:Nat)(x:yRA.den):runF ySC (yLi n) Tryz.f89 yRA yTa x=yQU n x.1 x.2.1:=by kernel_rfl
def yPk(rp:Q1)(l:List (Q3)):Option (List (Q4)×Int×Unit):=yQU 1000 rp l
theorem yQ7(rp:Q1)(l:List (Q3))(y:List (Q4)×Int×Unit)(h:yPk rp l=some y):∃ n,yQU n rp l=some y:=⟨1000,h⟩
def z0W_e:Entry:={ f:=89,args:=yRA,ress:=yTa,m:=fun x=>yPk x.1 x.2.1 }
theorem yWM:FnOK Tryz.prog z0W_e:=yJ (g:=ySC) (fn:=Tryz.f89) yA yI (y6 y7N (y6 ySN (y6 yAk (y6 yXB (y6 yQl (y6 yXF (y6 yJz (y6 y98 eNil)))))))) (by kernel_rfl) (by kernel_rfl) (by kernel_rfl) (fun x y h=>let ⟨n,hn⟩:=yQ7 x.1 x.2.1 y h;⟨yLi n,iNil,(yX3 n x).trans hn⟩)
end
end Go.Tw
end
section
set_option maxRecDepth 1000000
namespace Go.Tw
open Go.Vx Go.Vx.B Go.Proofs
noncomputable section
def il102:Inl:={ f:=102,fn:=Tryz.f102,keep:=[],muts:=[3,5],fz:=[5],rc:=true }
theorem yLM:y5I Tryz.prog il102:=⟨by kernel_rfl,by kernel_rfl,fun e0 h=>by cases (show (none:Option LibK)=some e0 from h)⟩
abbrev yP8:Ty:=.unit
abbrev yWE:Ty:=.pair t4 .unit
def yW2:G:={ T:=T,E:=[z0k_e,z0O_e,z0Y_e,zb_e,z0F_e,z0s_e,z0G_e,zp_e,zV_e,z0q_e,z0W_e,z1A_e,z0X_e,z03_e,z0r_e,z19_e,z0t_e,z1B_e,z0u_e,zi_e,za_e,zo_e,zq_e],muts:=[155],fz:=[] }
def yYg:List (List Nat):=[]
def yM9(n:Nat):Ann:={ keep:=yYg,fuel:=n,inl:=[il102],deep:=4 }
def yQG(n:Nat)  : Option (Bool×Unit) :=
  (Option.bind (y5e [(81:UInt8),82]) fun v0=>(Option.bind (yRG (z0k []).1 v0.1) fun v1=>(Option.bind (y5e [(81:UInt8),82]) fun v2=>(Option.bind (zb_M (z0k []).1 v2.1) fun v3=>(Option.bind (y5e [(81:UInt8),82]) fun v4=>(Option.bind (yKE (z0k []).1 v4.1) fun v5=>(Option.bind (y5e [(81:UInt8),82]) fun v6=>(Option.bind (yK4 (z0k []).1 v6.1) fun v7=>(Option.bind (yFe (v5.1.1,v5.1.2.1,v5.1.2.2.1,()) (0:Int) (4:Int)) fun v8=>(Option.bind (y5e [(90:UInt8),72]) fun v9=>(Option.bind (zb_M (z0k [((3:Int),(4:Int),())]).1 v9.1) fun v10=>(Option.bind (y5e [(90:UInt8),72]) fun v11=>(Option.bind (yK4 (z0k [((3:Int),(4:Int),())]).1 v11.1) fun v12=>(bif IntKind.i64.wrap (IntKind.i64.wrap (IntKind.i64.wrap (IntKind.i64.wrap (IntKind.i64.wrap (IntKind.i64.wrap (v1.2.1+v3.2.1)+v5.2.1)+v7.2.1)+v8.2.1)+v10.2.1)+v12.2.1) != 0 then some (Bool.false,())else (Option.bind (zp_M v1.1 [[((4:Int),(0:Int),()),((0:Int),(0:Int),())],[((0:Int),(0:Int),()),((4:Int),(0:Int),())]]) fun v13=>(bif !v13.1 then some (Bool.false,())else (bif v3.1 != 16 then some (Bool.false,())else (bif v5.1.2.2.1 != 1 then some (Bool.false,())else (Option.bind (zV_M v5.1.2.1 [((8:Int),(0:Int),()),((8:Int),(0:Int),())]) fun v14=>(bif !v14.1 then some (Bool.false,())else (bif !eqV ((Ty.int IntKind.i64).pair ((Ty.int IntKind.i64).pair Ty.unit)) (v7.1.1,v7.1.2.1,()) ((0:Int),(1:Int),())then some (Bool.false,())else (Option.bind (zV_M v8.1 [((16:Int),(0:Int),()),((0:Int),(0:Int),()),((-16:Int),(0:Int),()),((0:Int),(0:Int),())]) fun v15=>(bif !v15.1 then some (Bool.false,())else (bif v10.1 != 8 then some (Bool.false,())else (bif !eqV ((Ty.int IntKind.i64).pair ((Ty.int IntKind.i64).pair Ty.unit)) (v12.1.1,v12.1.2.1,()) ((512:Int),(1:Int),())then some (Bool.false,())else (Option.bind (y5e [(90:UInt8),72]) fun v32=>(Option.bind (yNO ([(103:UInt8)],(0:Int),[nat_lit 1065353216,nat_lit 0,nat_lit 3212836864,nat_lit 0],[((1:Int),(2:Int),()),((3:Int),(4:Int),())],()) v32.1) fun v33=>(Option.bind (y5e [(90:UInt8),72]) fun v34=>(Option.bind (yPk ([(103:UInt8)],(0:Int),[nat_lit 1065353216,nat_lit 0,nat_lit 3212836864,nat_lit 0],[((1:Int),(2:Int),()),((3:Int),(4:Int),())],()) v34.1) fun v35=>(Option.bind (y5e [(90:UInt8),72,81]) fun v36=>(Option.bind (yPF ([(103:UInt8)],(0:Int),[nat_lit 1065353216,nat_lit 0,nat_lit 3212836864,nat_lit 0],[((1:Int),(2:Int),()),((3:Int),(4:Int),())],()) v36.1) fun v37=>(Option.bind (y5e [(90:UInt8),72]) fun v38=>(Option.bind (yKE ([(103:UInt8)],(0:Int),[nat_lit 1065353216,nat_lit 0,nat_lit 3212836864,nat_lit 0],[((1:Int),(2:Int),()),((3:Int),(4:Int),())],()) v38.1) fun v39=>(Option.bind (y5e [(90:UInt8)]) fun v40=>(Option.bind (yOO (v40.1,[((3:Int),(0:Int),())],(2:Int),()) (5:Int) (1:Int)) fun v41=>(Option.bind (yQt (z0k []).1 (v40.1,[((3:Int),(0:Int),())],(2:Int),())) fun v42=>(Option.bind (yRY [nat_lit 0,nat_lit 1065353216,nat_lit 1065353216,nat_lit 0,nat_lit 1073741824,nat_lit 1065353216]) fun v43=>(Option.bind (yRK [nat_lit 0,nat_lit 1065353216,nat_lit 1065353216,nat_lit 0,nat_lit 1073741824,nat_lit 1065353216]) fun v44=>(Option.bind (yHV (2024:Int)) fun v45=>(Option.bind (yI5 (v40.1,[((3:Int),(0:Int),())],(2:Int),())) fun v46=>(Option.bind (yPa (v40.1,[((3:Int),(0:Int),())],(2:Int),())) fun v47=>(bif IntKind.i64.wrap (IntKind.i64.wrap (IntKind.i64.wrap (IntKind.i64.wrap (IntKind.i64.wrap (IntKind.i64.wrap (IntKind.i64.wrap (IntKind.i64.wrap (IntKind.i64.wrap (v33.2.1+v35.2.1)+v37.2.1)+v41.2.1)+v42.2.1)+v43.2.1)+v44.2.1)+v45.2.1)+v46.2.1)+v47.2.1)==0 then (bif v39.2.1==25 then (Option.bind (zi_M v33.1 [[(0:Int),(1:Int)]]) fun v48=>(bif v48.1 then (Option.bind (zV_M v35.1 [((2:Int),(0:Int),()),((-2:Int),(0:Int),())]) fun v49=>(bif v49.1 then (bif v37.1==2 then (Option.bind (za_M v41.1 [nat_lit 1040187392]) fun v50=>(bif v50.1 then (bif eqV ((Ty.int IntKind.i64).pair ((Ty.int IntKind.i64).pair Ty.unit)) (v42.1.1,v42.1.2.1,()) ((521:Int),(1:Int),())then (Option.bind (zo_M v43.1 [(1:Int),(4:Int)]) fun v51=>(bif v51.1 then (Option.bind (zo_M v44.1 [(3:Int)]) fun v52=>(bif v52.1 then (bif eqV ((Ty.int IntKind.i64).pair ((Ty.int IntKind.i64).pair Ty.unit)) (v45.1.1,v45.1.2.1,()) ((26:Int),(25:Int),())then (Option.bind (zq_M v46.1 [(nat_lit 1035993088,nat_lit 0)]) fun v53=>(bif v53.1 then some (v47.1==[(116:UInt8),105,100,101,32,50,10,99,111,110,115,116,105,116,117,101,110,116,32,90,32,49,32,48,32,51,32,48,10],())else some (Bool.false,())))else some (Bool.false,()))else some (Bool.false,())))else some (Bool.false,())))else some (Bool.false,()))else some (Bool.false,())))else some (Bool.false,()))else some (Bool.false,())))else some (Bool.false,())))else some (Bool.false,()))else some (Bool.false,())))))))))))))))))))))))))))))))))))))))))))
theorem yXs(n:Nat)(x:yP8.den):runF yW2 (yM9 n) Tryz.f18 yP8 yWE x=yQG n:=by kernel_rfl
def yOr  : Option (Bool×Unit):=yQG 0
theorem yNI(y:Bool×Unit)(h:yOr=some y):∃ n,yQG n=some y:=⟨0,h⟩
def z0N_e:Entry:={ f:=18,args:=yP8,ress:=yWE,m:=fun x=>yOr }
theorem ySG:FnOK Tryz.prog z0N_e:=yJ (g:=yW2) (fn:=Tryz.f18) yA yI (y6 yUL (y6 yTD (y6 yVJ (y6 yaF (y6 yUr (y6 yUJ (y6 yMf (y6 yYp (y6 yQo (y6 yVA (y6 yWM (y6 ySo (y6 yVl (y6 yXr (y6 yVf (y6 yW4 (y6 yMw (y6 yM3 (y6 yUg (y6 yYc (y6 yaO (y6 yaD (y6 yY9 eNil))))))))))))))))))))))) (by kernel_rfl) (by kernel_rfl) (by kernel_rfl) (fun x y h=>let ⟨n,hn⟩:=yNI y h;⟨yM9 n,(y4N yLM iNil),(yXs n x).trans hn⟩)
end
end Go.Tw
end
