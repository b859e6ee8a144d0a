import Derived.Test.YtpcnkpbpcebokaaGreatDoorBT
import Derived.Test.YtpcnkpbpcebokaaGreatDoorB0
import Derived.Test.YtpcnkpbpcebokaaGreatDoorBS
import Derived.Test.YtpcnkpbpcebokaaGreatDoorLQ
import Derived.Test.YtpcnkpbpcebokaaGreatDoorLR
import Derived.Test.YtpcnkpbpcebokaaGreatDoorBA
import Derived.Test.YtpcnkpbpcebokaaGreatDoorBC
set_option linter.all false
section
set_option maxRecDepth 1000000
namespace Go.Tw
open Go.Vx Go.Vx.B Go.Proofs
noncomputable section
abbrev zr_a:Ty:=.pair t33 .unit
abbrev zr_r:Ty:=.pair t28 .unit
def zr_g:G:={ T:=T,E:=[zL_e,z1D_e,z0f_e,zF_e,zt_e,z0y_e,z0b_e],muts:=[],fz:=[] }
def zr_k:List (List Nat):=[]
def yVU(n:Nat):Ann:={ keep:=zr_k,fuel:=n,inl:=[],deep:=0 }
def zr_m(n:Nat)(t:Q2):Option (Int×Unit) :=
  (Option.bind (zL_M t.1) fun v0=>(Option.bind (zF_M t.2.1 fun (x:(Q4)×Unit)=>zt_M x.1) fun v1=>(Option.bind (y1g v1.1) fun v2=>(Option.bind (y1g [v0.1,(z1D ((↑t.2.1.length:Int) != (↑t.1.length:Int)) (2:Int)).1,(z0f t.2.2.1 (1:Int) (268435456:Int)).1,v2.1]) fun v3=>(bif v3.1 != 0 then some (v3.1,())else (Option.bind (yAl t.2.1 t.2.2.1) fun v4=>some ((z1D (v4.1 != 1) (1:Int)).1,())))))))
theorem yaU(n:Nat)(x:zr_a.den):runF zr_g (yVU n) Tryz.f28 zr_a zr_r x=zr_m n x.1:=by kernel_rfl
def zr_M(t:Q2):Option (Int×Unit):=zr_m 0 t
theorem yWR(t:Q2)(y:Int×Unit)(h:zr_M t=some y):∃ n,zr_m n t=some y:=⟨0,h⟩
def zr_e:Entry:={ f:=28,args:=zr_a,ress:=zr_r,m:=fun x=>zr_M x.1 }
theorem yFO:FnOK Tryz.prog zr_e:=yJ (g:=zr_g) (fn:=Tryz.f28) yA yI (y6 yPq (y6 y4W (y6 y9F (y6 ySs (y6 yZA (y6 y3S (y6 yMm eNil))))))) (by kernel_rfl) (by kernel_rfl) (by kernel_rfl) (fun x y h=>let ⟨n,hn⟩:=yWR x.1 y h;⟨yVU n,iNil,(yaU n x).trans hn⟩)
abbrev yQx:Ty:=.pair t3 .unit
abbrev yS3:Ty:=.pair t69 (.pair t28 .unit)
def yUe:G:={ T:=T,E:=[z0f_e,z10_e],muts:=[],fz:=[] }
def yZB:List (List Nat):=[]
def yM1(n:Nat):Ann:={ keep:=yZB,fuel:=n,inl:=[],deep:=0 }
def yL9(n:Nat)(year:Int):Option ((Q4)×Int×Unit) :=
  (bif (z0f year (0:Int) (9999:Int)).1 != 0 then some (((0:Int),(0:Int),()),(z0f year (0:Int) (9999:Int)).1,())else (Option.bind (yF9 year) fun v0=>some ((v0.1.1,v0.1.2.1,()),(0:Int),())))
theorem yS0(n:Nat)(x:yQx.den):runF yUe (yM1 n) Tryz.f41 yQx yS3 x=yL9 n x.1:=by kernel_rfl
def yGp(year:Int):Option ((Q4)×Int×Unit):=yL9 0 year
theorem yOP(year:Int)(y:(Q4)×Int×Unit)(h:yGp year=some y):∃ n,yL9 n year=some y:=⟨0,h⟩
def z0t_e:Entry:={ f:=41,args:=yQx,ress:=yS3,m:=fun x=>yGp x.1 }
theorem yMl:FnOK Tryz.prog z0t_e:=yJ (g:=yUe) (fn:=Tryz.f41) yA yI (y6 y9F (y6 yLg eNil)) (by kernel_rfl) (by kernel_rfl) (by kernel_rfl) (fun x y h=>let ⟨n,hn⟩:=yOP x.1 y h;⟨yM1 n,iNil,(yS0 n x).trans hn⟩)
abbrev yNe:Ty:=.pair t60 (.pair t31 .unit)
abbrev yUu:Ty:=.pair t183 .unit
def yTb:G:={ T:=T,E:=[z05_e,z8_e],muts:=[],fz:=[] }
def yaN:List (List Nat):=[]
def yN9(n:Nat):Ann:={ keep:=yaN,fuel:=n,inl:=[],deep:=0 }
def yNa(n:Nat)(rp:Q1)(l:List (Q3)):Option (List (List (Q4))×Unit) :=
  (Option.bind (z8_M l fun (x:(Q3)×Unit)=>yR3 x.1 l rp) fun v0=>some (v0.1,()))
theorem yT7(n:Nat)(x:yNe.den):runF yTb (yN9 n) Tryz.f122 yNe yUu x=yNa n x.1 x.2.1:=by kernel_rfl
def yCr(rp:Q1)(l:List (Q3)):Option (List (List (Q4))×Unit):=yNa 0 rp l
theorem yNT(rp:Q1)(l:List (Q3))(y:List (List (Q4))×Unit)(h:yCr rp l=some y):∃ n,yNa n rp l=some y:=⟨0,h⟩
def z0c_e:Entry:={ f:=122,args:=yNe,ress:=yUu,m:=fun x=>yCr x.1 x.2.1 }
theorem yBd:FnOK Tryz.prog z0c_e:=yJ (g:=yTb) (fn:=Tryz.f122) yA yI (y6 yTG (y6 yaw eNil)) (by kernel_rfl) (by kernel_rfl) (by kernel_rfl) (fun x y h=>let ⟨n,hn⟩:=yNT x.1 x.2.1 y h;⟨yN9 n,iNil,(yT7 n x).trans hn⟩)
abbrev zc_a:Ty:=.pair t60 .unit
abbrev zc_r:Ty:=.pair t28 .unit
def zc_g:G:={ T:=T,E:=[zT_e,z13_e,z1D_e],muts:=[],fz:=[] }
def zc_k:List (List Nat):=[]
def yXm(n:Nat):Ann:={ keep:=zc_k,fuel:=n,inl:=[],deep:=0 }
def zc_m(n:Nat)(rp:Q1):Option (Int×Unit) :=
  (Option.bind (zT_M rp) fun v0=>(bif v0.1 != 0 then some (v0.1,())else (Option.bind (yKp rp) fun v1=>some ((z1D (decide ((↑v1.1.length:Int) > 128)) (5:Int)).1,()))))
theorem ya2(n:Nat)(x:zc_a.den):runF zc_g (yXm n) Tryz.f128 zc_a zc_r x=zc_m n x.1:=by kernel_rfl
def zc_M(rp:Q1):Option (Int×Unit):=zc_m 0 rp
theorem yTm(rp:Q1)(y:Int×Unit)(h:zc_M rp=some y):∃ n,zc_m n rp=some y:=⟨0,h⟩
def zc_e:Entry:={ f:=128,args:=zc_a,ress:=zc_r,m:=fun x=>zc_M x.1 }
theorem yT5:FnOK Tryz.prog zc_e:=yJ (g:=zc_g) (fn:=Tryz.f128) yA yI (y6 yZH (y6 yMe (y6 y4W eNil))) (by kernel_rfl) (by kernel_rfl) (by kernel_rfl) (fun x y h=>let ⟨n,hn⟩:=yTm x.1 y h;⟨yXm n,iNil,(ya2 n x).trans hn⟩)
end
end Go.Tw
end
section
set_option maxRecDepth 1000000
namespace Go.Tw
open Go.Vx Go.Vx.B Go.Proofs
noncomputable section
abbrev yPv:Ty:=.pair t33 (.pair t3 (.pair t3 .unit))
abbrev yY0:Ty:=.pair t23 (.pair t28 .unit)
def ySc:G:={ T:=T,E:=[zr_e,zu_e,z0y_e,z0H_e],muts:=[9],fz:=[] }
def yZg:List (List Nat):=[[1,3,9,21,22]]
def yNF(n:Nat):Ann:={ keep:=yZg,fuel:=n,inl:=[],deep:=0 }
def yDi(n:Nat)(r3:Int→Q2→Int→Int→List (Q4)→Option (List (Q4)×Int×Unit))(au:Int)(bY:Q2)(aX:Int)(cA:Int)(cf:List (Q4)):Option (List (Q4)×Int×Unit) :=
  (bif decide (cA < aX)then (Option.bind (yF8 bY (IntKind.i64.wrap (au+cA))) fun v4=>(bif decide (cf.length+(1:Nat)≤memMax)then r3 au bY aX (IntKind.i64.wrap (cA+1)) (cf++[v4.1])else none))else some (cf,(0:Int),()))
def y6a(n:Nat)(k:Nat)(au:Int)(bY:Q2)(aX:Int)(cA:Int)(cf:List (Q4)):Option (List (Q4)×Int×Unit) :=
  iter (fun r y=>yDi n (fun au bY aX cA cf=>r ((au,(bY,(aX,(cA,())))),((cf,()),()))) y.1.1 y.1.2.1 y.1.2.2.1 y.1.2.2.2.1 y.2.1.1) k ((au,(bY,(aX,(cA,())))),((cf,()),()))
def yL6(n:Nat)(t:Q2)(p1:Int)(np:Int):Option (List (Q4)×Int×Unit) :=
  (Option.bind (zr_M t) fun v0=>(Option.bind (zu_M p1 np) fun v1=>(Option.bind (y1g [v0.1,v1.1]) fun v2=>(bif v2.1 != 0 then some ([],v2.1,())else (y6a n n (p1) (t) (np) ((0:Int)) ([]))))))
theorem yWl(n:Nat)(x:yPv.den):runF ySc (yNF n) Tryz.f20 yPv yY0 x=yL6 n x.1 x.2.1 x.2.2.1:=by kernel_rfl
def yHN(au:Int)(bY:Q2)(aX:Int)(cA:Int)(cf:List (Q4)):Option ((List (Q4)×Int×Unit)⊕(List (Q4))) :=
  (Option.bind (yF8 bY (IntKind.i64.wrap (au+cA))) fun v4=>(bif decide (cf.length+(1:Nat)≤memMax)then (some (Sum.inr (cf++[v4.1])))else none))
def yIB(au:Int)(bY:Q2)(aX:Int)(cf:List (Q4)):Option (List (Q4)×Int×Unit) :=
  (some ((cf,(0:Int),())))
theorem yCl(n:Nat)(hn:big≤n)(au:Int)(bY:Q2)(aX:Int)(cf:List (Q4))(hx:(aX)≤9223372036854775807):LeF some (y2p (fun bm aA=>yHN au bY aX bm aA) (fun aA=>yIB au bY aX aA) ((aX) - 0).toNat 0 cf) (y6a n n au bY aX 0 cf):=by
  refine y6k (f:=some) (W:=fun eG bm aA=>y6a n eG au bY aX bm aA) (body:=(fun bm aA=>yHN au bY aX bm aA)) (fin:=(fun aA=>yIB au bY aX aA)) (fun eG bm aA=>?_) hx cf n 0 (by decide) (by unfold big at hn;omega)
  show LeF _ _ (yDi n (y6a n eG) au bY aX bm aA)
  exact y8 (yE fun v4=>(y8 (yB rfl) y0C)) (y0c (yB rfl))
def yGK(t:Q2)(p1:Int)(np:Int):Option (List (Q4)×Int×Unit) :=
  (Option.bind (zr_M t) fun v0=>(Option.bind (zu_M p1 np) fun v1=>(Option.bind (y1g [v0.1,v1.1]) fun v2=>(bif v2.1 != 0 then (some (([],v2.1,())))else (bif decide ((np)≤9223372036854775807)then y2p (fun bm aA=>yHN (p1) (t) (np) bm aA) (fun aA=>yIB (p1) (t) (np) aA) ((np) - 0).toNat 0 ([])else none)))))
theorem yOE(t:Q2)(p1:Int)(np:Int)(y:List (Q4)×Int×Unit)(h:yGK t p1 np=some y):∃ n,yL6 n t p1 np=some y :=
  ⟨big,LeF.top (show LeF some (yGK t p1 np) (yL6 big t p1 np)from (fun (n:Nat) (hn:big≤n)=>show LeF some (yGK t p1 np) (yL6 n t p1 np)from (yE fun v0=>(yE fun v1=>(yE fun v2=>(y8 (yB rfl) (yg fun hx=>by apply yCl n hn;exact hx)))))) big (Nat.le_refl _)) h⟩
def z0G_e:Entry:={ f:=20,args:=yPv,ress:=yY0,m:=fun x=>yGK x.1 x.2.1 x.2.2.1 }
theorem yLz:FnOK Tryz.prog z0G_e:=yJ (g:=ySc) (fn:=Tryz.f20) yA yI (y6 yFO (y6 yam (y6 y3S (y6 yLk eNil)))) (by kernel_rfl) (by kernel_rfl) (by kernel_rfl) (fun x y h=>let ⟨n,hn⟩:=yOE x.1 x.2.1 x.2.2.1 y h;⟨yNF n,iNil,(yWl n x).trans hn⟩)
abbrev yRJ:Ty:=.pair t60 (.pair t33 .unit)
abbrev yTx:Ty:=.pair t69 (.pair t28 .unit)
def yVb:G:={ T:=T,E:=[zc_e,zr_e,zl_e,z1D_e,z0y_e,z0H_e,z11_e],muts:=[],fz:=[] }
def yZd:List (List Nat):=[]
def yNB(n:Nat):Ann:={ keep:=yZd,fuel:=n,inl:=[il124,il195],deep:=3 }
def yBz(n:Nat)(r4:Q1→List (Q4)→List Nat→Int→Int→Q1→Q2→Q1→Q2→Int→Int→Q1→Int→Q2→Int→Q2→Bool→Bool→Int→List Int→Int→Int→Bool→Q1→Q1→Int→Int→Int→Q1→Q2→Q1→Q2→Int→Int→Q1→Int→Q2→Int→Q2→Bool→Bool→Int→List Int→Int→Int→Bool→Q1→Q1→Option ((Q4)×Int×Unit))(j12:Q1)(j13:List (Q4))(j14:Int)(j15:Nat)(j16:List Nat)(j17:Int)(j18:Int)(j19:Q1)(j20:Q2)(j21:Q1)(j22:Q2)(j23:Int)(j24:Int)(j25:Q1)(j26:Int)(j27:Q2)(j28:Int)(j29:Q2)(j30:Bool)(j31:Bool)(j32:Int)(j33:List Int)(j34:Int)(j35:Int)(j36:Bool)(j37:Q1)(j38:Q1)(j39:Int)(j40:Int)(j41:Int)(j42:Q1)(j43:Q2)(j44:Q1)(j45:Q2)(j46:Int)(j47:Int)(j48:Q1)(j49:Int)(j50:Q2)(j51:Int)(j52:Q2)(j53:Bool)(j54:Bool)(j55:Int)(j56:List Int)(j57:Int)(j58:Int)(j59:Bool)(j60:Q1)(j61:Q1):Option ((Q4)×Int×Unit) :=
  (bif decide ((↑j13.length:Int) > 0)then (Option.bind (idx j13 (0:Int)) fun v62=>(bif decide (v62.1≤j14)then r4 j12 j13 j16 j17 (IntKind.i64.wrap (j18+1)) j19 j20 j21 j22 j23 j24 j25 j26 j27 j28 j29 j30 j31 j32 j33 j34 j35 j36 j37 j38 j39 j40 j41 j42 j43 j44 j45 j46 j47 j48 j49 j50 j51 j52 j53 j54 j55 j56 j57 j58 j59 j60 j61 else (Option.bind (y0d Go.FloatKind.f32 (y0g Go.BinOp.mul Go.FloatKind.f32 j15 (nat_lit 1098907648)) IntKind.i64) fun v67=>(Option.bind (yF8 j22 (IntKind.i64.wrap (j12.2.1+j14))) fun v68=>r4 j12 j13 j16 j17 (IntKind.i64.wrap (j18+1)) j19 j20 j21 j22 j23 j24 j25 j26 j27 j28 j29 j30 j31 j32 j33 j34 j35 j36 j37 j38 j39 j40 (IntKind.i64.wrap (j41+IntKind.i64.wrap (IntKind.i64.wrap (IntKind.i64.wrap (IntKind.i64.wrap (j22.2.2.1 * v67) - v68.1.1) * IntKind.i64.wrap (IntKind.i64.wrap (j22.2.2.1 * v67) - v68.1.1))+IntKind.i64.wrap (v68.1.2.1 * v68.1.2.1)))) j42 j43 j44 j45 j46 j47 j48 j49 j50 j51 j52 j53 j54 j55 j56 j57 j58 j59 j60 j61))))else (Option.bind (y0d Go.FloatKind.f32 (y0g Go.BinOp.mul Go.FloatKind.f32 j15 (nat_lit 1098907648)) IntKind.i64) fun v69=>(Option.bind (yF8 j22 (IntKind.i64.wrap (j12.2.1+j14))) fun v70=>r4 j12 j13 j16 j17 (IntKind.i64.wrap (j18+1)) j19 j20 j21 j22 j23 j24 j25 j26 j27 j28 j29 j30 j31 j32 j33 j34 j35 j36 j37 j38 j39 j40 (IntKind.i64.wrap (j41+IntKind.i64.wrap (IntKind.i64.wrap (IntKind.i64.wrap (IntKind.i64.wrap (j22.2.2.1 * v69) - v70.1.1) * IntKind.i64.wrap (IntKind.i64.wrap (j22.2.2.1 * v69) - v70.1.1))+IntKind.i64.wrap (v70.1.2.1 * v70.1.2.1)))) j42 j43 j44 j45 j46 j47 j48 j49 j50 j51 j52 j53 j54 j55 j56 j57 j58 j59 j60 j61)))
def yKb(n:Nat)(r4:Q1→List (Q4)→List Nat→Int→Int→Q1→Q2→Q1→Q2→Int→Int→Q1→Int→Q2→Int→Q2→Bool→Bool→Int→List Int→Int→Int→Bool→Q1→Q1→Int→Int→Int→Q1→Q2→Q1→Q2→Int→Int→Q1→Int→Q2→Int→Q2→Bool→Bool→Int→List Int→Int→Int→Bool→Q1→Q1→Option ((Q4)×Int×Unit))(r6:Q1→List (Q4)→Int→Nat→List Nat→Int→Int→Q1→Q2→Q1→Q2→Int→Int→Q1→Int→Q2→Int→Q2→Bool→Bool→Int→List Int→Int→Int→Bool→Q1→Q1→Int→Int→Int→Q1→Q2→Q1→Q2→Int→Int→Q1→Int→Q2→Int→Q2→Bool→Bool→Int→List Int→Int→Int→Bool→Q1→Q1→Option ((Q4)×Int×Unit))(fc:Q1)(bf:List (Q4))(eI:Int)(fe:Nat)(ff:List Nat)(dA:Int)(dB:Int)(ck:Q1)(cl:Q2)(cm:Q1)(cn:Q2)(co:Int)(cp:Int)(bB:Q1)(bC:Int)(bD:Q2)(bE:Int)(bF:Q2)(bG:Bool)(bH:Bool)(bI:Int)(bJ:List Int)(bK:Int)(bL:Int)(bM:Bool)(bN:Q1)(aZ:Q1)(cr:Int)(cu:Int)(cw:Int)(fg:Q1)(fh:Q2)(fk:Q1)(fm:Q2)(fo:Int)(fp:Int)(dC:Q1)(dD:Int)(dE:Q2)(dF:Int)(dG:Q2)(dH:Bool)(dI:Bool)(dJ:Int)(dK:List Int)(dL:Int)(dM:Int)(dN:Bool)(dO:Q1)(bO:Q1):Option ((Q4)×Int×Unit) :=
  (bif decide ((↑bf.length:Int) > 0)then (Option.bind (idx bf (0:Int)) fun v7=>(bif decide (v7.2.1≤eI)then (bif decide ((0:Int)≤1) && decide ((1:Int)≤(↑bf.length:Int))then r6 fc (List.drop (Int.toNat (1:Int)) bf) eI fe ff dA dB ck cl cm cn co cp bB bC bD bE bF bG bH bI bJ bK bL bM bN aZ cr cu cw fg fh fk fm fo fp dC dD dE dF dG dH dI dJ dK dL dM dN dO bO else none)else (yBz n r4 (fc) (bf) (eI) (fe) (ff) (dA) (dB) (ck) (cl) (cm) (cn) (co) (cp) (bB) (bC) (bD) (bE) (bF) (bG) (bH) (bI) (bJ) (bK) (bL) (bM) (bN) (aZ) (cr) (cu) (cw) (fg) (fh) (fk) (fm) (fo) (fp) (dC) (dD) (dE) (dF) (dG) (dH) (dI) (dJ) (dK) (dL) (dM) (dN) (dO) (bO))))else (yBz n r4 (fc) (bf) (eI) (fe) (ff) (dA) (dB) (ck) (cl) (cm) (cn) (co) (cp) (bB) (bC) (bD) (bE) (bF) (bG) (bH) (bI) (bJ) (bK) (bL) (bM) (bN) (aZ) (cr) (cu) (cw) (fg) (fh) (fk) (fm) (fo) (fp) (dC) (dD) (dE) (dF) (dG) (dH) (dI) (dJ) (dK) (dL) (dM) (dN) (dO) (bO)))
def yKx(n:Nat)(r4:Q1→List (Q4)→List Nat→Int→Int→Q1→Q2→Q1→Q2→Int→Int→Q1→Int→Q2→Int→Q2→Bool→Bool→Int→List Int→Int→Int→Bool→Q1→Q1→Int→Int→Int→Q1→Q2→Q1→Q2→Int→Int→Q1→Int→Q2→Int→Q2→Bool→Bool→Int→List Int→Int→Int→Bool→Q1→Q1→Option ((Q4)×Int×Unit))(k:Nat)(fc:Q1)(bf:List (Q4))(eI:Int)(fe:Nat)(ff:List Nat)(dA:Int)(dB:Int)(ck:Q1)(cl:Q2)(cm:Q1)(cn:Q2)(co:Int)(cp:Int)(bB:Q1)(bC:Int)(bD:Q2)(bE:Int)(bF:Q2)(bG:Bool)(bH:Bool)(bI:Int)(bJ:List Int)(bK:Int)(bL:Int)(bM:Bool)(bN:Q1)(aZ:Q1)(cr:Int)(cu:Int)(cw:Int)(fg:Q1)(fh:Q2)(fk:Q1)(fm:Q2)(fo:Int)(fp:Int)(dC:Q1)(dD:Int)(dE:Q2)(dF:Int)(dG:Q2)(dH:Bool)(dI:Bool)(dJ:Int)(dK:List Int)(dL:Int)(dM:Int)(dN:Bool)(dO:Q1)(bO:Q1):Option ((Q4)×Int×Unit) :=
  iter (fun r y=>yKb n r4 (fun fc bf eI fe ff dA dB ck cl cm cn co cp bB bC bD bE bF bG bH bI bJ bK bL bM bN aZ cr cu cw fg fh fk fm fo fp dC dD dE dF dG dH dI dJ dK dL dM dN dO bO=>r ((fc,(bf,(eI,(fe,(ff,(dA,(dB,()))))))),(((ck,(cl,(cm,(cn,(co,(cp,(bB,(bC,(bD,(bE,(bF,(bG,(bH,(bI,(bJ,(bK,(bL,(bM,(bN,((aZ,()),())))))))))))))))))))),((cr,(cu,())),((cw,()),()))),(fg,(fh,(fk,(fm,(fo,(fp,(dC,(dD,(dE,(dF,(dG,(dH,(dI,(dJ,(dK,(dL,(dM,(dN,(dO,((bO,()),()))))))))))))))))))))))) y.1.1 y.1.2.1 y.1.2.2.1 y.1.2.2.2.1 y.1.2.2.2.2.1 y.1.2.2.2.2.2.1 y.1.2.2.2.2.2.2.1 y.2.1.1.1 y.2.1.1.2.1 y.2.1.1.2.2.1 y.2.1.1.2.2.2.1 y.2.1.1.2.2.2.2.1 y.2.1.1.2.2.2.2.2.1 y.2.1.1.2.2.2.2.2.2.1 y.2.1.1.2.2.2.2.2.2.2.1 y.2.1.1.2.2.2.2.2.2.2.2.1 y.2.1.1.2.2.2.2.2.2.2.2.2.1 y.2.1.1.2.2.2.2.2.2.2.2.2.2.1 y.2.1.1.2.2.2.2.2.2.2.2.2.2.2.1 y.2.1.1.2.2.2.2.2.2.2.2.2.2.2.2.1 y.2.1.1.2.2.2.2.2.2.2.2.2.2.2.2.2.1 y.2.1.1.2.2.2.2.2.2.2.2.2.2.2.2.2.2.1 y.2.1.1.2.2.2.2.2.2.2.2.2.2.2.2.2.2.2.1 y.2.1.1.2.2.2.2.2.2.2.2.2.2.2.2.2.2.2.2.1 y.2.1.1.2.2.2.2.2.2.2.2.2.2.2.2.2.2.2.2.2.1 y.2.1.1.2.2.2.2.2.2.2.2.2.2.2.2.2.2.2.2.2.2.1 y.2.1.1.2.2.2.2.2.2.2.2.2.2.2.2.2.2.2.2.2.2.2.1.1 y.2.1.2.1.1 y.2.1.2.1.2.1 y.2.1.2.2.1.1 y.2.2.1 y.2.2.2.1 y.2.2.2.2.1 y.2.2.2.2.2.1 y.2.2.2.2.2.2.1 y.2.2.2.2.2.2.2.1 y.2.2.2.2.2.2.2.2.1 y.2.2.2.2.2.2.2.2.2.1 y.2.2.2.2.2.2.2.2.2.2.1 y.2.2.2.2.2.2.2.2.2.2.2.1 y.2.2.2.2.2.2.2.2.2.2.2.2.1 y.2.2.2.2.2.2.2.2.2.2.2.2.2.1 y.2.2.2.2.2.2.2.2.2.2.2.2.2.2.1 y.2.2.2.2.2.2.2.2.2.2.2.2.2.2.2.1 y.2.2.2.2.2.2.2.2.2.2.2.2.2.2.2.2.1 y.2.2.2.2.2.2.2.2.2.2.2.2.2.2.2.2.2.1 y.2.2.2.2.2.2.2.2.2.2.2.2.2.2.2.2.2.2.1 y.2.2.2.2.2.2.2.2.2.2.2.2.2.2.2.2.2.2.2.1 y.2.2.2.2.2.2.2.2.2.2.2.2.2.2.2.2.2.2.2.2.1 y.2.2.2.2.2.2.2.2.2.2.2.2.2.2.2.2.2.2.2.2.2.1.1) k ((fc,(bf,(eI,(fe,(ff,(dA,(dB,()))))))),(((ck,(cl,(cm,(cn,(co,(cp,(bB,(bC,(bD,(bE,(bF,(bG,(bH,(bI,(bJ,(bK,(bL,(bM,(bN,((aZ,()),())))))))))))))))))))),((cr,(cu,())),((cw,()),()))),(fg,(fh,(fk,(fm,(fo,(fp,(dC,(dD,(dE,(dF,(dG,(dH,(dI,(dJ,(dK,(dL,(dM,(dN,(dO,((bO,()),()))))))))))))))))))))))
def yJD(n:Nat)(r4:Q1→List (Q4)→List Nat→Int→Int→Q1→Q2→Q1→Q2→Int→Int→Q1→Int→Q2→Int→Q2→Bool→Bool→Int→List Int→Int→Int→Bool→Q1→Q1→Int→Int→Int→Q1→Q2→Q1→Q2→Int→Int→Q1→Int→Q2→Int→Q2→Bool→Bool→Int→List Int→Int→Int→Bool→Q1→Q1→Option ((Q4)×Int×Unit))(d4:Q1)(aB:List (Q4))(cB:List Nat)(bn:Int)(bj:Int)(b4:Q1)(b6:Q2)(b7:Q1)(dP:Q2)(b8:Int)(b9:Int)(cC:Q1)(cD:Int)(cE:Q2)(aI:Int)(aJ:Q2)(aK:Bool)(aL:Bool)(aM:Int)(cF:List Int)(cG:Int)(cH:Int)(aN:Bool)(aO:Q1)(bq:Q1)(ba:Int)(bc:Int)(aU:Int)(d5:Q1)(d6:Q2)(d7:Q1)(fq:Q2)(d8:Int)(d9:Int)(eJ:Q1)(eK:Int)(eL:Q2)(br:Int)(bt:Q2)(bu:Bool)(bv:Bool)(bw:Int)(eM:List Int)(eN:Int)(eO:Int)(bx:Bool)(bz:Q1)(cI:Q1):Option ((Q4)×Int×Unit) :=
  (bif decide (bj < bn)then (Option.bind (idx cB bj) fun v5=>(yKx n r4 n (d4) (aB) (bj) (v5) (cB) (bn) (bj) (b4) (b6) (b7) (dP) (b8) (b9) (cC) (cD) (cE) (aI) (aJ) (aK) (aL) (aM) (cF) (cG) (cH) (aN) (aO) (bq) (ba) (bc) (aU) (d5) (d6) (d7) (fq) (d8) (d9) (eJ) (eK) (eL) (br) (bt) (bu) (bv) (bw) (eM) (eN) (eO) (bx) (bz) (cI)))else (Option.bind (yFS aU (IntKind.i64.wrap (fq.2.2.1 * fq.2.2.1))) fun v72=>some ((v72.1.1,v72.1.2.1,()),(0:Int),())))
def yLQ(n:Nat)(k:Nat)(d4:Q1)(aB:List (Q4))(cB:List Nat)(bn:Int)(bj:Int)(b4:Q1)(b6:Q2)(b7:Q1)(dP:Q2)(b8:Int)(b9:Int)(cC:Q1)(cD:Int)(cE:Q2)(aI:Int)(aJ:Q2)(aK:Bool)(aL:Bool)(aM:Int)(cF:List Int)(cG:Int)(cH:Int)(aN:Bool)(aO:Q1)(bq:Q1)(ba:Int)(bc:Int)(aU:Int)(d5:Q1)(d6:Q2)(d7:Q1)(fq:Q2)(d8:Int)(d9:Int)(eJ:Q1)(eK:Int)(eL:Q2)(br:Int)(bt:Q2)(bu:Bool)(bv:Bool)(bw:Int)(eM:List Int)(eN:Int)(eO:Int)(bx:Bool)(bz:Q1)(cI:Q1):Option ((Q4)×Int×Unit) :=
  iter (fun r y=>yJD n (fun d4 aB cB bn bj b4 b6 b7 dP b8 b9 cC cD cE aI aJ aK aL aM cF cG cH aN aO bq ba bc aU d5 d6 d7 fq d8 d9 eJ eK eL br bt bu bv bw eM eN eO bx bz cI=>r ((d4,(aB,(cB,(bn,(bj,()))))),(((b4,(b6,(b7,(dP,(b8,(b9,(cC,(cD,(cE,(aI,(aJ,(aK,(aL,(aM,(cF,(cG,(cH,(aN,(aO,((bq,()),())))))))))))))))))))),((ba,(bc,())),((aU,()),()))),(d5,(d6,(d7,(fq,(d8,(d9,(eJ,(eK,(eL,(br,(bt,(bu,(bv,(bw,(eM,(eN,(eO,(bx,(bz,((cI,()),()))))))))))))))))))))))) y.1.1 y.1.2.1 y.1.2.2.1 y.1.2.2.2.1 y.1.2.2.2.2.1 y.2.1.1.1 y.2.1.1.2.1 y.2.1.1.2.2.1 y.2.1.1.2.2.2.1 y.2.1.1.2.2.2.2.1 y.2.1.1.2.2.2.2.2.1 y.2.1.1.2.2.2.2.2.2.1 y.2.1.1.2.2.2.2.2.2.2.1 y.2.1.1.2.2.2.2.2.2.2.2.1 y.2.1.1.2.2.2.2.2.2.2.2.2.1 y.2.1.1.2.2.2.2.2.2.2.2.2.2.1 y.2.1.1.2.2.2.2.2.2.2.2.2.2.2.1 y.2.1.1.2.2.2.2.2.2.2.2.2.2.2.2.1 y.2.1.1.2.2.2.2.2.2.2.2.2.2.2.2.2.1 y.2.1.1.2.2.2.2.2.2.2.2.2.2.2.2.2.2.1 y.2.1.1.2.2.2.2.2.2.2.2.2.2.2.2.2.2.2.1 y.2.1.1.2.2.2.2.2.2.2.2.2.2.2.2.2.2.2.2.1 y.2.1.1.2.2.2.2.2.2.2.2.2.2.2.2.2.2.2.2.2.1 y.2.1.1.2.2.2.2.2.2.2.2.2.2.2.2.2.2.2.2.2.2.1 y.2.1.1.2.2.2.2.2.2.2.2.2.2.2.2.2.2.2.2.2.2.2.1.1 y.2.1.2.1.1 y.2.1.2.1.2.1 y.2.1.2.2.1.1 y.2.2.1 y.2.2.2.1 y.2.2.2.2.1 y.2.2.2.2.2.1 y.2.2.2.2.2.2.1 y.2.2.2.2.2.2.2.1 y.2.2.2.2.2.2.2.2.1 y.2.2.2.2.2.2.2.2.2.1 y.2.2.2.2.2.2.2.2.2.2.1 y.2.2.2.2.2.2.2.2.2.2.2.1 y.2.2.2.2.2.2.2.2.2.2.2.2.1 y.2.2.2.2.2.2.2.2.2.2.2.2.2.1 y.2.2.2.2.2.2.2.2.2.2.2.2.2.2.1 y.2.2.2.2.2.2.2.2.2.2.2.2.2.2.2.1 y.2.2.2.2.2.2.2.2.2.2.2.2.2.2.2.2.1 y.2.2.2.2.2.2.2.2.2.2.2.2.2.2.2.2.2.1 y.2.2.2.2.2.2.2.2.2.2.2.2.2.2.2.2.2.2.1 y.2.2.2.2.2.2.2.2.2.2.2.2.2.2.2.2.2.2.2.1 y.2.2.2.2.2.2.2.2.2.2.2.2.2.2.2.2.2.2.2.2.1 y.2.2.2.2.2.2.2.2.2.2.2.2.2.2.2.2.2.2.2.2.2.1.1) k ((d4,(aB,(cB,(bn,(bj,()))))),(((b4,(b6,(b7,(dP,(b8,(b9,(cC,(cD,(cE,(aI,(aJ,(aK,(aL,(aM,(cF,(cG,(cH,(aN,(aO,((bq,()),())))))))))))))))))))),((ba,(bc,())),((aU,()),()))),(d5,(d6,(d7,(fq,(d8,(d9,(eJ,(eK,(eL,(br,(bt,(bu,(bv,(bw,(eM,(eN,(eO,(bx,(bz,((cI,()),()))))))))))))))))))))))
def yOk(n:Nat)(rp:Q1)(t:Q2):Option ((Q4)×Int×Unit) :=
  (Option.bind (zc_M rp) fun v0=>(Option.bind (zr_M t) fun v1=>(Option.bind (zl_M t) fun v2=>(Option.bind (y1g [v0.1,v1.1,(z1D (!v2.1) (4:Int)).1]) fun v3=>(bif v3.1 != 0 then some (((0:Int),(0:Int),()),v3.1,())else (yLQ n n (rp) (rp.2.2.2.1) (rp.2.2.1) ((↑rp.2.2.1.length:Int)) ((0:Int)) (rp) (t) (rp) (t) ((0:Int)) (v3.1) (rp) (v0.1) (t) (v1.1) (t) (v2.1) (!v2.1) ((z1D (!v2.1) (4:Int)).1) ([v0.1,v1.1,(z1D (!v2.1) (4:Int)).1]) (v3.1) (v3.1) (v3.1 != 0) (rp) (rp) ((0:Int)) ((0:Int)) ((0:Int)) (rp) (t) (rp) (t) ((0:Int)) (v3.1) (rp) (v0.1) (t) (v1.1) (t) (v2.1) (!v2.1) ((z1D (!v2.1) (4:Int)).1) ([v0.1,v1.1,(z1D (!v2.1) (4:Int)).1]) (v3.1) (v3.1) (v3.1 != 0) (rp) (rp)))))))
theorem ySz(n:Nat)(x:yRJ.den):runF yVb (yNB n) Tryz.f37 yRJ yTx x=yOk n x.1 x.2.1:=by kernel_rfl
def yQ7(rp:Q1)(t:Q2):Option ((Q4)×Int×Unit):=yOk 1000 rp t
theorem yQs(rp:Q1)(t:Q2)(y:(Q4)×Int×Unit)(h:yQ7 rp t=some y):∃ n,yOk n rp t=some y:=⟨1000,h⟩
def z03_e:Entry:={ f:=37,args:=yRJ,ress:=yTx,m:=fun x=>yQ7 x.1 x.2.1 }
theorem yTZ:FnOK Tryz.prog z03_e:=yJ (g:=yVb) (fn:=Tryz.f37) yA yI (y6 yT5 (y6 yFO (y6 yPk (y6 y4W (y6 y3S (y6 yLk (y6 yHh eNil))))))) (by kernel_rfl) (by kernel_rfl) (by kernel_rfl) (fun x y h=>let ⟨n,hn⟩:=yQs x.1 x.2.1 y h;⟨yNB n,(y4M y4w (y4M y5A iNil)),(ySz n x).trans hn⟩)
abbrev yPV:Ty:=.pair t33 (.pair t3 .unit)
abbrev yUc:Ty:=.pair t33 (.pair t28 .unit)
def ySI:G:={ T:=T,E:=[zr_e,z0f_e,zl_e,z1D_e,z0y_e,z10_e,z01_e,zG_e,z0K_e],muts:=[],fz:=[7] }
def yZp:List (List Nat):=[]
def yMt(n:Nat):Ann:={ keep:=yZp,fuel:=n,inl:=[],deep:=0 }
def yK7(n:Nat)(t:Q2)(year:Int):Option ((Q2)×Int×Unit) :=
  (Option.bind (zr_M t) fun v0=>(Option.bind (zl_M t) fun v1=>(Option.bind (y1g [v0.1,(z0f year (0:Int) (9999:Int)).1,(z1D (!v1.1) (4:Int)).1]) fun v2=>(bif v2.1 != 0 then some (([],[],(0:Int),()),v2.1,())else (Option.bind (yF9 year) fun v3=>(Option.bind (zG_M t.2.1 fun (x:(Q4)×Unit)=>yPR x.1 (v3.1.1,v3.1.2.1,())) fun v4=>(Option.bind (yC2 t.1 v4.1 (IntKind.i64.wrap (t.2.2.1 * v3.1.2.1))) fun v5=>some ((v5.1.1,v5.1.2.1,v5.1.2.2.1,()),(0:Int),()))))))))
theorem yW1(n:Nat)(x:yPV.den):runF ySI (yMt n) Tryz.f42 yPV yUc x=yK7 n x.1 x.2.1:=by kernel_rfl
def yJT(t:Q2)(year:Int):Option ((Q2)×Int×Unit):=yK7 0 t year
theorem yPM(t:Q2)(year:Int)(y:(Q2)×Int×Unit)(h:yJT t year=some y):∃ n,yK7 n t year=some y:=⟨0,h⟩
def z0V_e:Entry:={ f:=42,args:=yPV,ress:=yUc,m:=fun x=>yJT x.1 x.2.1 }
theorem yXi:FnOK Tryz.prog z0V_e:=yJ (g:=ySI) (fn:=Tryz.f42) yA yI (y6 yFO (y6 y9F (y6 yPk (y6 y4W (y6 y3S (y6 yLg (y6 yTw (y6 yQT (y6 yH8 eNil))))))))) (by kernel_rfl) (by kernel_rfl) (by kernel_rfl) (fun x y h=>let ⟨n,hn⟩:=yPM x.1 x.2.1 y h;⟨yMt n,iNil,(yW1 n x).trans hn⟩)
abbrev yOl:Ty:=.pair t33 .unit
abbrev yWS:Ty:=.pair t79 (.pair t28 .unit)
def yXS:G:={ T:=T,E:=[zr_e,z0Z_e,z1D_e,zF_e,z0y_e,z0a_e,zH_e],muts:=[],fz:=[] }
def yYg:List (List Nat):=[]
def yM0(n:Nat):Ann:={ keep:=yYg,fuel:=n,inl:=[],deep:=0 }
def yJp(n:Nat)(t:Q2):Option (List (Nat×Nat)×Int×Unit) :=
  (Option.bind (zr_M t) fun v0=>(bif v0.1 != 0 then some ([],v0.1,())else (Option.bind (zF_M t.2.1 fun (x:(Q4)×Unit)=>yKq x.1) fun v1=>(Option.bind (y1g v1.1) fun v2=>(Option.bind (y1g [(z1D (y2S IntKind.i64 Go.BinOp.and t.2.2.1 (IntKind.i64.wrap (t.2.2.1 - (1:Int))) != 0) (1:Int)).1,v2.1]) fun v3=>(bif v3.1 != 0 then some ([],v3.1,())else (Option.bind (zH_M t.2.1 fun (x:(Q4)×Unit)=>yON x.1 (yk Go.FloatKind.f32 (IntKind.i64.wrap ((16:Int) * t.2.2.1)),nat_lit 0)) fun v4=>some (v4.1,(0:Int),()))))))))
theorem yRt(n:Nat)(x:yOl.den):runF yXS (yM0 n) Tryz.f43 yOl yWS x=yJp n x.1:=by kernel_rfl
def yHB(t:Q2):Option (List (Nat×Nat)×Int×Unit):=yJp 0 t
theorem yQ5(t:Q2)(y:List (Nat×Nat)×Int×Unit)(h:yHB t=some y):∃ n,yJp n t=some y:=⟨0,h⟩
def z1B_e:Entry:={ f:=43,args:=yOl,ress:=yWS,m:=fun x=>yHB x.1 }
theorem yNE:FnOK Tryz.prog z1B_e:=yJ (g:=yXS) (fn:=Tryz.f43) yA yI (y6 yFO (y6 yW5 (y6 y4W (y6 ySs (y6 y3S (y6 yUP (y6 yan eNil))))))) (by kernel_rfl) (by kernel_rfl) (by kernel_rfl) (fun x y h=>let ⟨n,hn⟩:=yQ5 x.1 y h;⟨yM0 n,iNil,(yRt n x).trans hn⟩)
def il174:Inl:={ f:=174,fn:=Tryz.f174,keep:=[],muts:=[],fz:=[] }
theorem yKY:y5S Tryz.prog il174:=⟨by kernel_rfl,by kernel_rfl,fun e0 h=>by cases (show (none:Option LibK)=some e0 from h)⟩
def il178:Inl:={ f:=178,fn:=Tryz.f178,keep:=[],muts:=[],fz:=[] }
theorem yJJ:y5S Tryz.prog il178:=⟨by kernel_rfl,by kernel_rfl,fun e0 h=>by cases (show (none:Option LibK)=some e0 from h)⟩
def il216:Inl:={ f:=216,fn:=Tryz.f216,lib:=some (.copy 228) }
theorem yKS:y5S Tryz.prog il216:=⟨by kernel_rfl,by kernel_rfl,fun e0 h=>by cases (show some (.copy 228:LibK)=some e0 from h);exact yQC⟩
abbrev yNU:Ty:=.pair t33 .unit
abbrev yY1:Ty:=.pair t9 (.pair t28 .unit)
def yXe:G:={ T:=T,E:=[zr_e,z0D_e,zN_e,z0E_e],muts:=[5],fz:=[] }
def yaH:List (List Nat):=[[1,5,22,23,24]]
def yLd(n:Nat):Ann:={ keep:=yaH,fuel:=n,inl:=[il174,il178,il216],deep:=8 }
def yLP(n:Nat)(r2:Q2→List (Q3)→Int→Int→List Int→Option (List UInt8×Int×Unit))(dy:Q2)(az:List (Q3))(ew:Int)(dv:Int)(bX:List Int):Option (List UInt8×Int×Unit) :=
  (bif decide (dv < ew)then (Option.bind (idx az dv) fun v3=>(Option.bind (idx dy.2.1 dv) fun v4=>(Option.bind (zN_M [v3.2.1,v3.2.2.1,v4.1,v4.2.1] fun (x:Int×Unit)=>yKr x.1) fun v5=>(bif decide ((12:Nat)+v3.1.length < strMax)then (bif decide (([(99:UInt8),111,110,115,116,105,116,117,101,110,116,32]++v3.1).length+(1:Nat) < strMax)then (Option.bind (yLV v5.1 [(32:UInt8)]) fun v6=>(bif decide (([(99:UInt8),111,110,115,116,105,116,117,101,110,116,32]++v3.1++[(32:UInt8)]).length+v6.1.length < strMax)then (bif decide (([(99:UInt8),111,110,115,116,105,116,117,101,110,116,32]++v3.1++[(32:UInt8)]++v6.1).length+(1:Nat) < strMax)then (bif decide (bX.length+([(99:UInt8),111,110,115,116,105,116,117,101,110,116,32]++v3.1++[(32:UInt8)]++v6.1++[(10:UInt8)]).length≤memMax)then r2 dy az ew (IntKind.i64.wrap (dv+1)) (bX++y2D ([(99:UInt8),111,110,115,116,105,116,117,101,110,116,32]++v3.1++[(32:UInt8)]++v6.1++[(10:UInt8)]))else none)else none)else none))else none)else none))))else (bif decide ((0:Nat) < bX.length)then (bif (↑bX.length:Int)==(↑bX.length:Int) && decide ((0:Nat) < bX.length) && yAO bX then some (y3J bX,(0:Int),())else none)else none))
def yK0(n:Nat)(k:Nat)(dy:Q2)(az:List (Q3))(ew:Int)(dv:Int)(bX:List Int):Option (List UInt8×Int×Unit) :=
  iter (fun r y=>yLP n (fun dy az ew dv bX=>r ((dy,(az,(ew,(dv,())))),(((),(bX,())),()))) y.1.1 y.1.2.1 y.1.2.2.1 y.1.2.2.2.1 y.2.1.2.1) k ((dy,(az,(ew,(dv,())))),(((),(bX,())),()))
def yNM(n:Nat)(t:Q2):Option (List UInt8×Int×Unit) :=
  (Option.bind (zr_M t) fun v0=>(bif v0.1 != 0 then some ([],v0.1,())else (Option.bind (yKr t.2.2.1) fun v1=>(bif decide ((5:Nat)+v1.1.length < strMax)then (bif decide (([(116:UInt8),105,100,101,32]++v1.1).length+(1:Nat) < strMax)then (bif decide ((0:Nat)+([(116:UInt8),105,100,101,32]++v1.1++[(10:UInt8)]).length≤memMax)then (yK0 n n (t) (t.1) ((↑t.1.length:Int)) ((0:Int)) (y2D ([(116:UInt8),105,100,101,32]++v1.1++[(10:UInt8)])))else none)else none)else none))))
theorem yX1(n:Nat)(x:yNU.den):runF yXe (yLd n) Tryz.f97 yNU yY1 x=yNM n x.1:=by kernel_rfl
def yO1(t:Q2):Option (List UInt8×Int×Unit):=yNM 1000 t
theorem yPl(t:Q2)(y:List UInt8×Int×Unit)(h:yO1 t=some y):∃ n,yNM n t=some y:=⟨1000,h⟩
def z0u_e:Entry:={ f:=97,args:=yNU,ress:=yY1,m:=fun x=>yO1 x.1 }
theorem yUF:FnOK Tryz.prog z0u_e:=yJ (g:=yXe) (fn:=Tryz.f97) yA yI (y6 yFO (y6 yVT (y6 yaM (y6 yY9 eNil)))) (by kernel_rfl) (by kernel_rfl) (by kernel_rfl) (fun x y h=>let ⟨n,hn⟩:=yPl x.1 y h;⟨yLd n,(y4M yKY (y4M yJJ (y4M yKS iNil))),(yX1 n x).trans hn⟩)
abbrev yNI:Ty:=.pair t60 (.pair t31 .unit)
abbrev yXN:Ty:=.pair t28 .unit
def yUi:G:={ T:=T,E:=[zc_e,zL_e,z0y_e],muts:=[],fz:=[] }
def yb0:List (List Nat):=[]
def yMM(n:Nat):Ann:={ keep:=yb0,fuel:=n,inl:=[],deep:=0 }
def yP0(n:Nat)(rp:Q1)(l:List (Q3)):Option (Int×Unit) :=
  (Option.bind (zc_M rp) fun v0=>(Option.bind (zL_M l) fun v1=>(Option.bind (y1g [v0.1,v1.1]) fun v2=>some (v2.1,()))))
theorem yX2(n:Nat)(x:yNI.den):runF yUi (yMM n) Tryz.f119 yNI yXN x=yP0 n x.1 x.2.1:=by kernel_rfl
def yAG(rp:Q1)(l:List (Q3)):Option (Int×Unit):=yP0 0 rp l
theorem yOm(rp:Q1)(l:List (Q3))(y:Int×Unit)(h:yAG rp l=some y):∃ n,yP0 n rp l=some y:=⟨0,h⟩
def z0x_e:Entry:={ f:=119,args:=yNI,ress:=yXN,m:=fun x=>yAG x.1 x.2.1 }
theorem y7h:FnOK Tryz.prog z0x_e:=yJ (g:=yUi) (fn:=Tryz.f119) yA yI (y6 yT5 (y6 yPq (y6 y3S eNil))) (by kernel_rfl) (by kernel_rfl) (by kernel_rfl) (fun x y h=>let ⟨n,hn⟩:=yOm x.1 x.2.1 y h;⟨yMM n,iNil,(yX2 n x).trans hn⟩)
abbrev yOx:Ty:=.pair t60 (.pair t31 .unit)
abbrev ySF:Ty:=.pair t23 (.pair t23 (.pair t3 .unit))
def yWW:G:={ T:=T,E:=[z0L_e,zA_e,z0c_e,zd_e,zK_e],muts:=[9],fz:=[] }
def yYh:List (List Nat):=[[7,8,9,18,19]]
def yMB(n:Nat):Ann:={ keep:=yYh,fuel:=n,inl:=[],deep:=0 }
def yJL(n:Nat)(r2:List (Q4)→List (List (Q4))→Int→Int→List (Q4)→Option (List (Q4)×List (Q4)×Int×Unit))(fr:List (Q4))(ft:List (List (Q4)))(ey:Int)(dQ:Int)(bP:List (Q4)):Option (List (Q4)×List (Q4)×Int×Unit) :=
  (bif decide (dQ < ey)then (Option.bind (zd_M ft dQ fr) fun v3=>(Option.bind (zK_M v3.1) fun v4=>(bif decide (bP.length+(1:Nat)≤memMax)then r2 fr ft ey (IntKind.i64.wrap (dQ+1)) (bP++[v4.1])else none)))else (Option.bind (zK_M ft) fun v5=>some (bP,fr,v5.1.1,())))
def yKc(n:Nat)(k:Nat)(fr:List (Q4))(ft:List (List (Q4)))(ey:Int)(dQ:Int)(bP:List (Q4)):Option (List (Q4)×List (Q4)×Int×Unit) :=
  iter (fun r y=>yJL n (fun fr ft ey dQ bP=>r ((fr,(ft,(ey,(dQ,())))),((bP,()),()))) y.1.1 y.1.2.1 y.1.2.2.1 y.1.2.2.2.1 y.2.1.1) k ((fr,(ft,(ey,(dQ,())))),((bP,()),()))
def yOM(n:Nat)(rp:Q1)(l:List (Q3)):Option (List (Q4)×List (Q4)×Int×Unit) :=
  (Option.bind (zA_M l fun (x:(Q3)×Unit)=>yPe x.1 rp) fun v0=>(Option.bind (yCr rp l) fun v1=>(yKc n n (v0.1) (v1.1) ((↑l.length:Int)) ((0:Int)) ([]))))
theorem yS5(n:Nat)(x:yOx.den):runF yWW (yMB n) Tryz.f120 yOx ySF x=yOM n x.1 x.2.1:=by kernel_rfl
def yK8(rp:Q1)(l:List (Q3)):Option (List (Q4)×List (Q4)×Int×Unit):=yOM 1000 rp l
theorem yOi(rp:Q1)(l:List (Q3))(y:List (Q4)×List (Q4)×Int×Unit)(h:yK8 rp l=some y):∃ n,yOM n rp l=some y:=⟨1000,h⟩
def z12_e:Entry:={ f:=120,args:=yOx,ress:=ySF,m:=fun x=>yK8 x.1 x.2.1 }
theorem yM9:FnOK Tryz.prog z12_e:=yJ (g:=yWW) (fn:=Tryz.f120) yA yI (y6 yUx (y6 yOK (y6 yBd (y6 yUh (y6 yJF eNil))))) (by kernel_rfl) (by kernel_rfl) (by kernel_rfl) (fun x y h=>let ⟨n,hn⟩:=yOi x.1 x.2.1 y h;⟨yMB n,iNil,(yS5 n x).trans hn⟩)
abbrev zw_a:Ty:=.pair t60 (.pair t31 .unit)
abbrev zw_r:Ty:=.pair t4 .unit
def zw_g:G:={ T:=T,E:=[z0c_e,zK_e],muts:=[],fz:=[] }
def zw_k:List (List Nat):=[]
def yXM(n:Nat):Ann:={ keep:=zw_k,fuel:=n,inl:=[],deep:=0 }
def zw_m(n:Nat)(rp:Q1)(l:List (Q3)):Option (Bool×Unit) :=
  (Option.bind (yCr rp l) fun v0=>(Option.bind (zK_M v0.1) fun v1=>some (eqV ((Ty.int IntKind.i64).pair ((Ty.int IntKind.i64).pair Ty.unit)) v1.1 ((0:Int),(0:Int),()),())))
theorem yYx(n:Nat)(x:zw_a.den):runF zw_g (yXM n) Tryz.f146 zw_a zw_r x=zw_m n x.1 x.2.1:=by kernel_rfl
def zw_M(rp:Q1)(l:List (Q3)):Option (Bool×Unit):=zw_m 0 rp l
theorem yRx(rp:Q1)(l:List (Q3))(y:Bool×Unit)(h:zw_M rp l=some y):∃ n,zw_m n rp l=some y:=⟨0,h⟩
def zw_e:Entry:={ f:=146,args:=zw_a,ress:=zw_r,m:=fun x=>zw_M x.1 x.2.1 }
theorem yT3:FnOK Tryz.prog zw_e:=yJ (g:=zw_g) (fn:=Tryz.f146) yA yI (y6 yBd (y6 yJF eNil)) (by kernel_rfl) (by kernel_rfl) (by kernel_rfl) (fun x y h=>let ⟨n,hn⟩:=yRx x.1 x.2.1 y h;⟨yXM n,iNil,(yYx n x).trans hn⟩)
end
end Go.Tw
end
section
set_option maxRecDepth 1000000
namespace Go.Tw
open Go.Vx Go.Vx.B Go.Proofs
noncomputable section
def il130:Inl:={ f:=130,fn:=Tryz.f130,keep:=[[1,5,8,9,10]],muts:=[5],fz:=[] }
theorem yL8:y5S Tryz.prog il130:=⟨by kernel_rfl,by kernel_rfl,fun e0 h=>by cases (show (none:Option LibK)=some e0 from h)⟩
def il132:Inl:={ f:=132,fn:=Tryz.f132,keep:=[[1,5,8,9,10]],muts:=[5],fz:=[] }
theorem yKh:y5S Tryz.prog il132:=⟨by kernel_rfl,by kernel_rfl,fun e0 h=>by cases (show (none:Option LibK)=some e0 from h)⟩
abbrev yOC:Ty:=.pair t33 (.pair t33 .unit)
abbrev yXO:Ty:=.pair t33 (.pair t28 .unit)
def yY8:G:={ T:=T,E:=[zr_e,zl_e,z1D_e,z0y_e,z7_e,z0v_e,z0w_e,zG_e,z0d_e,z1C_e,zL_e,z0K_e],muts:=[37,41],fz:=[],lv:=some [2,3,4,7] }
def yaf:List (List Nat):=[[2,3,4,7,8,43,44,45],[2,3,4,7,8,9,10,11,43,44,45,55,56]]
def yMz(n:Nat):Ann:={ keep:=yaf,fuel:=n,inl:=[il130,il132],deep:=4 }
def yBq(n:Nat)(r27:Q2→Q2→List (Q3)→Int→Int→Int→List (Q3)→List (Q4)→Option ((Q2)×Int×Unit))(r29:Q2→Q2→Int→Int→List (Q3)→Int→Int→Int→Int→Int→List (Q3)→List (Q4)→List UInt8→Int→Int→Option ((Q2)×Int×Unit))(ac:Q2)(aD:Q2)(aV:Int)(ae:Int)(aw:List (Q3))(ax:Int)(ay:Int)(dc:Int)(aC:Int)(ai:Int)(ah:List (Q3))(aa:List (Q4))(af:List UInt8)(aj:Int)(ak:Int):Option ((Q2)×Int×Unit) :=
  (bif decide (aC < dc)then (Option.bind (idx ac.1 aC) fun v30=>(bif eqV (Ty.str.pair ((Ty.int IntKind.i64).pair ((Ty.int IntKind.i64).pair Ty.unit))) (af,v30.2.1,v30.2.2.1,()) (af,aj,ak,())then (Option.bind (idx aD.2.1 aV) fun v31=>(bif decide (aC < (↑ac.1.length:Int))then (Option.bind (idx aa aC) fun v32=>(Option.bind (aa[aC.toNat]?) fun v33=>(Option.bind (idx aa aC) fun v34=>(Option.bind (aa[aC.toNat]?) fun v35=>r27 ac aD aw ax (IntKind.i64.wrap (ay+1)) ai ah (aa.set aC.toNat (z1C v33 ((z0d v31 ac.2.2.1).1.1,(z0d v31 ac.2.2.1).1.2.1,())).1)))))else (bif decide (ah.length+(1:Nat)≤memMax)then (bif decide (aa.length+(1:Nat)≤memMax)then r27 ac aD aw ax (IntKind.i64.wrap (ay+1)) ai (ah++[(af,aj,ak,())]) (aa++[((z0d v31 ac.2.2.1).1.1,(z0d v31 ac.2.2.1).1.2.1,())])else none)else none)))else r29 ac aD aV ae aw ax ay dc (IntKind.i64.wrap (aC+1)) ai ah aa af aj ak))else (Option.bind (idx aD.2.1 aV) fun v36=>(bif decide (ae < (↑ac.1.length:Int))then (Option.bind (idx aa ae) fun v37=>(Option.bind (aa[ae.toNat]?) fun v38=>(Option.bind (idx aa ae) fun v39=>(Option.bind (aa[ae.toNat]?) fun v40=>r27 ac aD aw ax (IntKind.i64.wrap (ay+1)) ai ah (aa.set ae.toNat (z1C v38 ((z0d v36 ac.2.2.1).1.1,(z0d v36 ac.2.2.1).1.2.1,())).1)))))else (bif decide (ah.length+(1:Nat)≤memMax)then (bif decide (aa.length+(1:Nat)≤memMax)then r27 ac aD aw ax (IntKind.i64.wrap (ay+1)) ai (ah++[(af,aj,ak,())]) (aa++[((z0d v36 ac.2.2.1).1.1,(z0d v36 ac.2.2.1).1.2.1,())])else none)else none))))
def y4t(n:Nat)(r27:Q2→Q2→List (Q3)→Int→Int→Int→List (Q3)→List (Q4)→Option ((Q2)×Int×Unit))(k:Nat)(ac:Q2)(aD:Q2)(aV:Int)(ae:Int)(aw:List (Q3))(ax:Int)(ay:Int)(dc:Int)(aC:Int)(ai:Int)(ah:List (Q3))(aa:List (Q4))(af:List UInt8)(aj:Int)(ak:Int):Option ((Q2)×Int×Unit) :=
  iter (fun r y=>yBq n r27 (fun ac aD aV ae aw ax ay dc aC ai ah aa af aj ak=>r ((ac,(aD,(aV,(ae,(aw,(ax,(ay,(dc,(aC,()))))))))),(((ai,()),(ah,(aa,((af,(aj,(ak,()))),())))),()))) y.1.1 y.1.2.1 y.1.2.2.1 y.1.2.2.2.1 y.1.2.2.2.2.1 y.1.2.2.2.2.2.1 y.1.2.2.2.2.2.2.1 y.1.2.2.2.2.2.2.2.1 y.1.2.2.2.2.2.2.2.2.1 y.2.1.1.1 y.2.1.2.1 y.2.1.2.2.1 y.2.1.2.2.2.1.1 y.2.1.2.2.2.1.2.1 y.2.1.2.2.2.1.2.2.1) k ((ac,(aD,(aV,(ae,(aw,(ax,(ay,(dc,(aC,()))))))))),(((ai,()),(ah,(aa,((af,(aj,(ak,()))),())))),()))
def yAy(n:Nat)(r27:Q2→Q2→List (Q3)→Int→Int→Int→List (Q3)→List (Q4)→Option ((Q2)×Int×Unit))(aE:Q2)(aW:Q2)(am:List (Q3))(df:Int)(bd:Int)(av:Int)(aH:List (Q3))(aS:List (Q4)):Option ((Q2)×Int×Unit) :=
  (bif decide (bd < df)then (Option.bind (idx am bd) fun v28=>(y4t n r27 n (aE) (aW) (bd) ((↑aE.1.length:Int)) (am) (df) (bd) ((↑aE.1.length:Int)) ((0:Int)) (av) (aH) (aS) (v28.1) (v28.2.1) (v28.2.2.1)))else (Option.bind (zL_M aH) fun v41=>(bif v41.1 != 0 then some (([],[],(0:Int),()),v41.1,())else (Option.bind (yC2 aH aS (IntKind.i64.wrap (aE.2.2.1 * aW.2.2.1))) fun v42=>some ((v42.1.1,v42.1.2.1,v42.1.2.2.1,()),(0:Int),())))))
def y58(n:Nat)(k:Nat)(aE:Q2)(aW:Q2)(am:List (Q3))(df:Int)(bd:Int)(av:Int)(aH:List (Q3))(aS:List (Q4)):Option ((Q2)×Int×Unit) :=
  iter (fun r y=>yAy n (fun aE aW am df bd av aH aS=>r ((aE,(aW,(am,(df,(bd,()))))),(((av,()),(aH,(aS,()))),()))) y.1.1 y.1.2.1 y.1.2.2.1 y.1.2.2.2.1 y.1.2.2.2.2.1 y.2.1.1.1 y.2.1.2.1 y.2.1.2.2.1) k ((aE,(aW,(am,(df,(bd,()))))),(((av,()),(aH,(aS,()))),()))
def yAh(n:Nat)(r25:Q2→List (Q4)→Int→Int→List (Q4)→Int→List (Q3)→Q2→Q2→Option ((Q2)×Int×Unit))(al:Q2)(aP:List (Q4))(ez:Int)(bZ:Int)(bl:List (Q4))(aq:Int)(bh:List (Q3))(aY:Q2)(aF:Q2):Option ((Q2)×Int×Unit) :=
  (bif decide (bZ < ez)then (Option.bind (idx aP bZ) fun v26=>(bif decide (bl.length+(1:Nat)≤memMax)then r25 al aP ez (IntKind.i64.wrap (bZ+1)) (bl++[(z0w (v26.1,v26.2.1,()) al).1]) aq bh aY aF else none))else (y58 n n (aY) (aF) (aF.1) ((↑aF.1.length:Int)) ((0:Int)) (aq) (bh) (bl)))
def y4z(n:Nat)(k:Nat)(al:Q2)(aP:List (Q4))(ez:Int)(bZ:Int)(bl:List (Q4))(aq:Int)(bh:List (Q3))(aY:Q2)(aF:Q2):Option ((Q2)×Int×Unit) :=
  iter (fun r y=>yAh n (fun al aP ez bZ bl aq bh aY aF=>r (((al,()),(aP,(ez,(bZ,())))),((bl,((aq,()),(bh,()))),(aY,(aF,()))))) y.1.1.1 y.1.2.1 y.1.2.2.1 y.1.2.2.2.1 y.2.1.1 y.2.1.2.1.1 y.2.1.2.2.1 y.2.2.1 y.2.2.2.1) k (((al,()),(aP,(ez,(bZ,())))),((bl,((aq,()),(bh,()))),(aY,(aF,()))))
def yBb(n:Nat)(r23:List (Q3)→Int→Int→List (Q3)→Int→Q2→Q2→Option ((Q2)×Int×Unit))(aQ:List (Q3))(eA:Int)(ca:Int)(bi:List (Q3))(ar:Int)(aG:Q2)(aR:Q2):Option ((Q2)×Int×Unit) :=
  (bif decide (ca < eA)then (Option.bind (idx aQ ca) fun v24=>(bif decide (bi.length+(1:Nat)≤memMax)then r23 aQ eA (IntKind.i64.wrap (ca+1)) (bi++[(z0v (v24.1,v24.2.1,v24.2.2.1,())).1]) ar aG aR else none))else (y4z n n (aR) (aG.2.1) ((↑aG.2.1.length:Int)) ((0:Int)) ([]) (ar) (bi) (aG) (aR)))
def y4v(n:Nat)(k:Nat)(aQ:List (Q3))(eA:Int)(ca:Int)(bi:List (Q3))(ar:Int)(aG:Q2)(aR:Q2):Option ((Q2)×Int×Unit) :=
  iter (fun r y=>yBb n (fun aQ eA ca bi ar aG aR=>r (((),(aQ,(eA,(ca,())))),((bi,((ar,()),())),(aG,(aR,()))))) y.1.2.1 y.1.2.2.1 y.1.2.2.2.1 y.2.1.1 y.2.1.2.1.1 y.2.2.1 y.2.2.2.1) k (((),(aQ,(eA,(ca,())))),((bi,((ar,()),())),(aG,(aR,()))))
def y7V(n:Nat)(a:Q2)(b:Q2):Option ((Q2)×Int×Unit) :=
  (y4v n n (a.1) ((↑a.1.length:Int)) ((0:Int)) ([]) ((0:Int)) (a) (b))
def yJ9(n:Nat)(a:Q2)(b:Q2):Option ((Q2)×Int×Unit) :=
  (Option.bind (zr_M a) fun v0=>(Option.bind (zr_M b) fun v1=>(Option.bind (zl_M a) fun v2=>(bif !v2.1 then (Option.bind (y1g [v0.1,v1.1,(z1D Bool.true (4:Int)).1]) fun v3=>(bif v3.1 != 0 then some (([],[],(0:Int),()),v3.1,())else (y7V n a b)))else (Option.bind (zl_M b) fun v4=>(Option.bind (y1g [v0.1,v1.1,(z1D (!v4.1) (4:Int)).1]) fun v5=>(bif v5.1 != 0 then some (([],[],(0:Int),()),v5.1,())else (y7V n a b))))))))
theorem yX8(n:Nat)(x:yOC.den):runF yY8 (yMz n) Tryz.f40 yOC yXO x=yJ9 n x.1 x.2.1:=by kernel_rfl
def y76(ac:Q2)(aD:Q2)(aV:Int)(ae:Int)(aw:List (Q3))(ax:Int)(ay:Int)(ai:Int)(ah:List (Q3))(aa:List (Q4))(af:List UInt8)(aj:Int)(ak:Int)(aC:Int)(v30:Q3):Option ((((Q2)×Int×Unit)⊕((List (Q3))×(List (Q4))))⊕Unit) :=
  (bif eqV (Ty.str.pair ((Ty.int IntKind.i64).pair ((Ty.int IntKind.i64).pair Ty.unit))) (af,v30.2.1,v30.2.2.1,()) (af,aj,ak,())then (Option.bind (idx aD.2.1 aV) fun v31=>(bif decide (aC < (↑ac.1.length:Int))then (Option.bind (idx aa aC) fun v32=>(Option.bind (aa[aC.toNat]?) fun v33=>(Option.bind (idx aa aC) fun v34=>(Option.bind (aa[aC.toNat]?) fun v35=>(some (Sum.inl (Sum.inr ((ah),(aa.set aC.toNat (z1C v33 ((z0d v31 ac.2.2.1).1.1,(z0d v31 ac.2.2.1).1.2.1,())).1)))))))))else (bif decide (ah.length+(1:Nat)≤memMax)then (bif decide (aa.length+(1:Nat)≤memMax)then (some (Sum.inl (Sum.inr ((ah++[(af,aj,ak,())]),(aa++[((z0d v31 ac.2.2.1).1.1,(z0d v31 ac.2.2.1).1.2.1,())])))))else none)else none)))else (some (Sum.inr ())))
def y7U(ac:Q2)(aD:Q2)(aV:Int)(ae:Int)(aw:List (Q3))(ax:Int)(ay:Int)(ai:Int)(ah:List (Q3))(aa:List (Q4))(af:List UInt8)(aj:Int)(ak:Int):Option (((Q2)×Int×Unit)⊕((List (Q3))×(List (Q4)))) :=
  (Option.bind (idx aD.2.1 aV) fun v36=>(bif decide (ae < (↑ac.1.length:Int))then (Option.bind (idx aa ae) fun v37=>(Option.bind (aa[ae.toNat]?) fun v38=>(Option.bind (idx aa ae) fun v39=>(Option.bind (aa[ae.toNat]?) fun v40=>(some (Sum.inr ((ah),(aa.set ae.toNat (z1C v38 ((z0d v36 ac.2.2.1).1.1,(z0d v36 ac.2.2.1).1.2.1,())).1))))))))else (bif decide (ah.length+(1:Nat)≤memMax)then (bif decide (aa.length+(1:Nat)≤memMax)then (some (Sum.inr ((ah++[(af,aj,ak,())]),(aa++[((z0d v36 ac.2.2.1).1.1,(z0d v36 ac.2.2.1).1.2.1,())]))))else none)else none)))
theorem yBM(n:Nat)(hn:big≤n)(r27:Q2→Q2→List (Q3)→Int→Int→Int→List (Q3)→List (Q4)→Option ((Q2)×Int×Unit))(ac:Q2)(aD:Q2)(aV:Int)(ae:Int)(aw:List (Q3))(ax:Int)(ay:Int)(ai:Int)(ah:List (Q3))(aa:List (Q4))(af:List UInt8)(aj:Int)(ak:Int)(hx:List.length (ac.1) < lenMax):LeF (elim some fun (aA:((List (Q3))×(List (Q4))))=>r27 ac aD aw ax (IntKind.i64.wrap (ay+1)) ai aA.1 aA.2) (yQ (fun bm dR aA=>y76 ac aD aV ae aw ax ay ai ah aa af aj ak bm dR) (fun aA=>y7U ac aD aV ae aw ax ay ai ah aa af aj ak) 0 (ac.1) ()) (y4t n r27 n ac aD aV ae aw ax ay (List.length (ac.1):Int) 0 ai ah aa af aj ak):=by
  refine yd (f:=(elim some fun (aA:((List (Q3))×(List (Q4))))=>r27 ac aD aw ax (IntKind.i64.wrap (ay+1)) ai aA.1 aA.2)) (W:=fun eG bm aA=>y4t n r27 eG ac aD aV ae aw ax ay (List.length (ac.1):Int) bm ai ah aa af aj ak) (body:=(fun bm dR aA=>y76 ac aD aV ae aw ax ay ai ah aa af aj ak bm dR)) (fin:=(fun aA=>y7U ac aD aV ae aw ax ay ai ah aa af aj ak)) (fun eG bm aA=>?_) hx () n (by unfold big at hn;unfold lenMax at hx;omega)
  show LeF _ _ (yBq n r27 (y4t n r27 eG) ac aD aV ae aw ax ay (List.length (ac.1):Int) bm ai ah aa af aj ak)
  exact y8 (yE fun v30=>(y8 (yE fun v31=>(y8 (yE fun v32=>(yE fun v33=>(yE fun v34=>(yE fun v35=>(yB rfl))))) (y8 (y8 (yB rfl) y0C) y0C))) (yB rfl))) (y0c (yE fun v36=>(y8 (yE fun v37=>(yE fun v38=>(yE fun v39=>(yE fun v40=>(yB rfl))))) (y8 (y8 (yB rfl) y0C) y0C))))
def y5y(aE:Q2)(aW:Q2)(am:List (Q3))(av:Int)(bd:Int)(v28:Q3)(aH:List (Q3))(aS:List (Q4)):Option (((Q2)×Int×Unit)⊕((List (Q3))×(List (Q4)))) :=
  (bif decide (List.length (aE.1) < lenMax)then yQ (fun bm dR aA=>y76 (aE) (aW) (bd) ((↑aE.1.length:Int)) (am) ((↑am.length:Int)) (bd) (av) (aH) (aS) (v28.1) (v28.2.1) (v28.2.2.1) bm dR) (fun aA=>y7U (aE) (aW) (bd) ((↑aE.1.length:Int)) (am) ((↑am.length:Int)) (bd) (av) (aH) (aS) (v28.1) (v28.2.1) (v28.2.2.1)) 0 (aE.1) ()else none)
def y4m(aE:Q2)(aW:Q2)(am:List (Q3))(av:Int)(aH:List (Q3))(aS:List (Q4)):Option ((Q2)×Int×Unit) :=
  (Option.bind (zL_M aH) fun v41=>(bif v41.1 != 0 then (some ((([],[],(0:Int),()),v41.1,())))else (Option.bind (yC2 aH aS (IntKind.i64.wrap (aE.2.2.1 * aW.2.2.1))) fun v42=>(some (((v42.1.1,v42.1.2.1,v42.1.2.2.1,()),(0:Int),()))))))
theorem yB2(n:Nat)(hn:big≤n)(aE:Q2)(aW:Q2)(am:List (Q3))(av:Int)(aH:List (Q3))(aS:List (Q4))(hx:List.length (am) < lenMax):LeF some (yQ (fun bm dR aA=>y5y aE aW am av bm dR aA.1 aA.2) (fun aA=>y4m aE aW am av aA.1 aA.2) 0 (am) (aH,aS)) (y58 n n aE aW am (List.length (am):Int) 0 av aH aS):=by
  refine yd (f:=some) (W:=fun eG bm aA=>y58 n eG aE aW am (List.length (am):Int) bm av aA.1 aA.2) (body:=(fun bm dR aA=>y5y aE aW am av bm dR aA.1 aA.2)) (fin:=(fun aA=>y4m aE aW am av aA.1 aA.2)) (fun eG bm aA=>?_) hx (aH,aS) n (by unfold big at hn;unfold lenMax at hx;omega)
  show LeF _ _ (yAy n (y58 n eG) aE aW am (List.length (am):Int) bm av aA.1 aA.2)
  exact y8 (yE fun v28=>(yg fun hx=>by apply yBM n hn;exact hx)) (y0c (yE fun v41=>(y8 (yB rfl) (yE fun v42=>(yB rfl)))))
def yAN(al:Q2)(aP:List (Q4))(aq:Int)(bh:List (Q3))(aY:Q2)(aF:Q2)(bZ:Int)(v26:Q4)(bl:List (Q4)):Option (((Q2)×Int×Unit)⊕(List (Q4))) :=
  (bif decide (bl.length+(1:Nat)≤memMax)then (some (Sum.inr (bl++[(z0w (v26.1,v26.2.1,()) al).1])))else none)
def yAD(al:Q2)(aP:List (Q4))(aq:Int)(bh:List (Q3))(aY:Q2)(aF:Q2)(bl:List (Q4)):Option ((Q2)×Int×Unit) :=
  (bif decide (List.length (aF.1) < lenMax)then yQ (fun bm dR aA=>y5y (aY) (aF) (aF.1) (aq) bm dR aA.1 aA.2) (fun aA=>y4m (aY) (aF) (aF.1) (aq) aA.1 aA.2) 0 (aF.1) ((bh),(bl))else none)
theorem yCI(n:Nat)(hn:big≤n)(al:Q2)(aP:List (Q4))(aq:Int)(bh:List (Q3))(aY:Q2)(aF:Q2)(bl:List (Q4))(hx:List.length (aP) < lenMax):LeF some (yQ (fun bm dR aA=>yAN al aP aq bh aY aF bm dR aA) (fun aA=>yAD al aP aq bh aY aF aA) 0 (aP) bl) (y4z n n al aP (List.length (aP):Int) 0 bl aq bh aY aF):=by
  refine yd (f:=some) (W:=fun eG bm aA=>y4z n eG al aP (List.length (aP):Int) bm aA aq bh aY aF) (body:=(fun bm dR aA=>yAN al aP aq bh aY aF bm dR aA)) (fin:=(fun aA=>yAD al aP aq bh aY aF aA)) (fun eG bm aA=>?_) hx bl n (by unfold big at hn;unfold lenMax at hx;omega)
  show LeF _ _ (yAh n (y4z n eG) al aP (List.length (aP):Int) bm aA aq bh aY aF)
  exact y8 (yE fun v26=>(y8 (yB rfl) y0C)) (y0c (yg fun hx=>by apply yB2 n hn;exact hx))
def yAU(aQ:List (Q3))(ar:Int)(aG:Q2)(aR:Q2)(ca:Int)(v24:Q3)(bi:List (Q3)):Option (((Q2)×Int×Unit)⊕(List (Q3))) :=
  (bif decide (bi.length+(1:Nat)≤memMax)then (some (Sum.inr (bi++[(z0v (v24.1,v24.2.1,v24.2.2.1,())).1])))else none)
def yAC(aQ:List (Q3))(ar:Int)(aG:Q2)(aR:Q2)(bi:List (Q3)):Option ((Q2)×Int×Unit) :=
  (bif decide (List.length (aG.2.1) < lenMax)then yQ (fun bm dR aA=>yAN (aR) (aG.2.1) (ar) (bi) (aG) (aR) bm dR aA) (fun aA=>yAD (aR) (aG.2.1) (ar) (bi) (aG) (aR) aA) 0 (aG.2.1) ([])else none)
theorem yBk(n:Nat)(hn:big≤n)(aQ:List (Q3))(ar:Int)(aG:Q2)(aR:Q2)(bi:List (Q3))(hx:List.length (aQ) < lenMax):LeF some (yQ (fun bm dR aA=>yAU aQ ar aG aR bm dR aA) (fun aA=>yAC aQ ar aG aR aA) 0 (aQ) bi) (y4v n n aQ (List.length (aQ):Int) 0 bi ar aG aR):=by
  refine yd (f:=some) (W:=fun eG bm aA=>y4v n eG aQ (List.length (aQ):Int) bm aA ar aG aR) (body:=(fun bm dR aA=>yAU aQ ar aG aR bm dR aA)) (fin:=(fun aA=>yAC aQ ar aG aR aA)) (fun eG bm aA=>?_) hx bi n (by unfold big at hn;unfold lenMax at hx;omega)
  show LeF _ _ (yBb n (y4v n eG) aQ (List.length (aQ):Int) bm aA ar aG aR)
  exact y8 (yE fun v24=>(y8 (yB rfl) y0C)) (y0c (yg fun hx=>by apply yCI n hn;exact hx))
def y5w(a:Q2)(b:Q2):Option ((Q2)×Int×Unit) :=
  (bif decide (List.length (a.1) < lenMax)then yQ (fun bm dR aA=>yAU (a.1) ((0:Int)) (a) (b) bm dR aA) (fun aA=>yAC (a.1) ((0:Int)) (a) (b) aA) 0 (a.1) ([])else none)
theorem y3Z(n:Nat)(hn:big≤n)(a:Q2)(b:Q2):LeF some (y5w a b) (y7V n a b) :=
  (yg fun hx=>by apply yBk n hn;exact hx)
def yFj(a:Q2)(b:Q2):Option ((Q2)×Int×Unit) :=
  (Option.bind (zr_M a) fun v0=>(Option.bind (zr_M b) fun v1=>(Option.bind (zl_M a) fun v2=>(bif !v2.1 then (Option.bind (y1g [v0.1,v1.1,(z1D Bool.true (4:Int)).1]) fun v3=>(bif v3.1 != 0 then (some ((([],[],(0:Int),()),v3.1,())))else (y5w a b)))else (Option.bind (zl_M b) fun v4=>(Option.bind (y1g [v0.1,v1.1,(z1D (!v4.1) (4:Int)).1]) fun v5=>(bif v5.1 != 0 then (some ((([],[],(0:Int),()),v5.1,())))else (y5w a b))))))))
theorem yPY(a:Q2)(b:Q2)(y:(Q2)×Int×Unit)(h:yFj a b=some y):∃ n,yJ9 n a b=some y :=
  ⟨big,LeF.top (show LeF some (yFj a b) (yJ9 big a b)from (fun (n:Nat) (hn:big≤n)=>show LeF some (yFj a b) (yJ9 n a b)from (yE fun v0=>(yE fun v1=>(yE fun v2=>(y8 (yE fun v3=>(y8 (yB rfl) (by apply y3Z n hn))) (yE fun v4=>(yE fun v5=>(y8 (yB rfl) (by apply y3Z n hn))))))))) big (Nat.le_refl _)) h⟩
def z1F_e:Entry:={ f:=40,args:=yOC,ress:=yXO,m:=fun x=>yFj x.1 x.2.1 }
theorem yTO:FnOK Tryz.prog z1F_e:=yJ (g:=yY8) (fn:=Tryz.f40) yA yI (y6 yFO (y6 yPk (y6 y4W (y6 y3S (y6 yU9 (y6 yWL (y6 yXE (y6 yQT (y6 y95 (y6 yBN (y6 yPq (y6 yH8 eNil)))))))))))) (by kernel_rfl) (by kernel_rfl) (by kernel_rfl) (fun x y h=>let ⟨n,hn⟩:=yPY x.1 x.2.1 y h;⟨yMz n,(y4M yL8 (y4M yKh iNil)),(yX8 n x).trans hn⟩)
end
end Go.Tw
end
section
set_option maxRecDepth 1000000
namespace Go.Tw
open Go.Vx Go.Vx.B Go.Proofs
noncomputable section
abbrev yQL:Ty:=.pair t33 (.pair t3 (.pair t3 .unit))
abbrev yUj:Ty:=.pair t35 (.pair t28 .unit)
def yWx:G:={ T:=T,E:=[z0G_e,z0J_e,z04_e],muts:=[10],fz:=[] }
def yZ1:List (List Nat):=[[3,10,24,25,26]]
def yLp(n:Nat):Ann:={ keep:=yZ1,fuel:=n,inl:=[],deep:=0 }
def yJH(n:Nat)(r1:Q2→List (Q4)→Int→Int→List Nat→Option (List Nat×Int×Unit))(fC:Q2)(eB:List (Q4))(eC:Int)(dS:Int)(fv:List Nat):Option (List Nat×Int×Unit) :=
  (bif decide (dS < eC)then (Option.bind (idx eB dS) fun v2=>(Option.bind (yQn v2.1 fC.2.2.1) fun v3=>(bif decide ((z04 v3.1).1 > 1024)then some ([],(16:Int),())else (bif decide (fv.length+(1:Nat)≤memMax)then r1 fC eB eC (IntKind.i64.wrap (dS+1)) (fv++[y0g Go.BinOp.quo Go.FloatKind.f32 (yk Go.FloatKind.f32 v3.1) (nat_lit 1098907648)])else none))))else some (fv,(0:Int),()))
def yKU(n:Nat)(k:Nat)(fC:Q2)(eB:List (Q4))(eC:Int)(dS:Int)(fv:List Nat):Option (List Nat×Int×Unit) :=
  iter (fun r y=>yJH n (fun fC eB eC dS fv=>r ((fC,(eB,(eC,(dS,())))),((fv,()),()))) y.1.1 y.1.2.1 y.1.2.2.1 y.1.2.2.2.1 y.2.1.1) k ((fC,(eB,(eC,(dS,())))),((fv,()),()))
def yOz(n:Nat)(t:Q2)(p1:Int)(np:Int):Option (List Nat×Int×Unit) :=
  (Option.bind (yGK t p1 np) fun v0=>(bif v0.2.1 != 0 then some ([],v0.2.1,())else (yKU n n (t) (v0.1) ((↑v0.1.length:Int)) ((0:Int)) ([]))))
theorem yX5(n:Nat)(x:yQL.den):runF yWx (yLp n) Tryz.f22 yQL yUj x=yOz n x.1 x.2.1 x.2.2.1:=by kernel_rfl
def yPZ(t:Q2)(p1:Int)(np:Int):Option (List Nat×Int×Unit):=yOz 1000 t p1 np
theorem yNO(t:Q2)(p1:Int)(np:Int)(y:List Nat×Int×Unit)(h:yPZ t p1 np=some y):∃ n,yOz n t p1 np=some y:=⟨1000,h⟩
def z0X_e:Entry:={ f:=22,args:=yQL,ress:=yUj,m:=fun x=>yPZ x.1 x.2.1 x.2.2.1 }
theorem yXr:FnOK Tryz.prog z0X_e:=yJ (g:=yWx) (fn:=Tryz.f22) yA yI (y6 yLz (y6 yY6 (y6 yB3 eNil))) (by kernel_rfl) (by kernel_rfl) (by kernel_rfl) (fun x y h=>let ⟨n,hn⟩:=yNO x.1 x.2.1 x.2.2.1 y h;⟨yLp n,iNil,(yX5 n x).trans hn⟩)
abbrev yOL:Ty:=.pair t60 (.pair t31 .unit)
abbrev ySN:Ty:=.pair t33 (.pair t28 .unit)
def yWB:G:={ T:=T,E:=[z0x_e,z12_e,z0K_e],muts:=[],fz:=[] }
def yYv:List (List Nat):=[]
def yMX(n:Nat):Ann:={ keep:=yYv,fuel:=n,inl:=[],deep:=0 }
def yQ9(n:Nat)(rp:Q1)(l:List (Q3)):Option ((Q2)×Int×Unit) :=
  (Option.bind (yAG rp l) fun v0=>(bif v0.1 != 0 then some (([],[],(0:Int),()),v0.1,())else (Option.bind (yK8 rp l) fun v1=>(bif v1.2.2.1==0 then some (([],[],(0:Int),()),(25:Int),())else (Option.bind (yC2 l v1.1 v1.2.2.1) fun v2=>some ((v2.1.1,v2.1.2.1,v2.1.2.2.1,()),(0:Int),()))))))
theorem yUr(n:Nat)(x:yOL.den):runF yWB (yMX n) Tryz.f34 yOL ySN x=yQ9 n x.1 x.2.1:=by kernel_rfl
def yKf(rp:Q1)(l:List (Q3)):Option ((Q2)×Int×Unit):=yQ9 0 rp l
theorem yQN(rp:Q1)(l:List (Q3))(y:(Q2)×Int×Unit)(h:yKf rp l=some y):∃ n,yQ9 n rp l=some y:=⟨0,h⟩
def z0F_e:Entry:={ f:=34,args:=yOL,ress:=ySN,m:=fun x=>yKf x.1 x.2.1 }
theorem yV8:FnOK Tryz.prog z0F_e:=yJ (g:=yWB) (fn:=Tryz.f34) yA yI (y6 y7h (y6 yM9 (y6 yH8 eNil))) (by kernel_rfl) (by kernel_rfl) (by kernel_rfl) (fun x y h=>let ⟨n,hn⟩:=yQN x.1 x.2.1 y h;⟨yMX n,iNil,(yUr n x).trans hn⟩)
abbrev zb_a:Ty:=.pair t60 (.pair t31 .unit)
abbrev zb_r:Ty:=.pair t3 (.pair t28 .unit)
def zb_g:G:={ T:=T,E:=[z0x_e,z0c_e,zK_e],muts:=[],fz:=[] }
def zb_k:List (List Nat):=[]
def yXs(n:Nat):Ann:={ keep:=zb_k,fuel:=n,inl:=[],deep:=0 }
def zb_m(n:Nat)(rp:Q1)(l:List (Q3)):Option (Q4) :=
  (Option.bind (yAG rp l) fun v0=>(bif v0.1 != 0 then some ((0:Int),v0.1,())else (Option.bind (yCr rp l) fun v1=>(Option.bind (zK_M v1.1) fun v2=>some (v2.1.1,(0:Int),())))))
theorem yay(n:Nat)(x:zb_a.den):runF zb_g (yXs n) Tryz.f35 zb_a zb_r x=zb_m n x.1 x.2.1:=by kernel_rfl
def zb_M(rp:Q1)(l:List (Q3)):Option (Q4):=zb_m 0 rp l
theorem ySA(rp:Q1)(l:List (Q3))(y:Q4)(h:zb_M rp l=some y):∃ n,zb_m n rp l=some y:=⟨0,h⟩
def zb_e:Entry:={ f:=35,args:=zb_a,ress:=zb_r,m:=fun x=>zb_M x.1 x.2.1 }
theorem yao:FnOK Tryz.prog zb_e:=yJ (g:=zb_g) (fn:=Tryz.f35) yA yI (y6 y7h (y6 yBd (y6 yJF eNil))) (by kernel_rfl) (by kernel_rfl) (by kernel_rfl) (fun x y h=>let ⟨n,hn⟩:=ySA x.1 x.2.1 y h;⟨yXs n,iNil,(yay n x).trans hn⟩)
abbrev yPy:Ty:=.pair t60 (.pair t31 .unit)
abbrev yWz:Ty:=.pair t69 (.pair t28 .unit)
def yUz:G:={ T:=T,E:=[z0x_e,z12_e,zv_e,z14_e,z11_e],muts:=[],fz:=[] }
def yZs:List (List Nat):=[[4,8,9,10,43,44,45]]
def yLo(n:Nat):Ann:={ keep:=yZs,fuel:=n,inl:=[il124,il195],deep:=3 }
def yBm(n:Nat)(r2:Q1→List (Q4)→List Nat→Int→Int→Q1→List (Q3)→Q1→Int→Int→List (Q4)→List (Q4)→Q1→List (Q3)→Int→Int→Bool→Q1→List (Q3)→List (Q4)→List (Q4)→Int→Int→Bool→Q1→Q1→Int→Int→Int→Int→Q1→List (Q3)→Q1→Int→Int→List (Q4)→List (Q4)→Q1→List (Q3)→Int→Int→Bool→Q1→List (Q3)→List (Q4)→List (Q4)→Int→Int→Bool→Q1→Q1→Option ((Q4)×Int×Unit))(j10:Q1)(j11:List (Q4))(j12:Int)(j13:Nat)(j14:List Nat)(j15:Int)(j16:Int)(j17:Q1)(j18:List (Q3))(j19:Q1)(j20:Int)(j21:Int)(j22:List (Q4))(j23:List (Q4))(j24:Q1)(j25:List (Q3))(j26:Int)(j27:Int)(j28:Bool)(j29:Q1)(j30:List (Q3))(j31:List (Q4))(j32:List (Q4))(j33:Int)(j34:Int)(j35:Bool)(j36:Q1)(j37:Q1)(j38:Int)(j39:Int)(j40:Int)(j41:Int)(j42:Q1)(j43:List (Q3))(j44:Q1)(j45:Int)(j46:Int)(j47:List (Q4))(j48:List (Q4))(j49:Q1)(j50:List (Q3))(j51:Int)(j52:Int)(j53:Bool)(j54:Q1)(j55:List (Q3))(j56:List (Q4))(j57:List (Q4))(j58:Int)(j59:Int)(j60:Bool)(j61:Q1)(j62:Q1):Option ((Q4)×Int×Unit) :=
  (bif decide ((↑j11.length:Int) > 0)then (Option.bind (idx j11 (0:Int)) fun v63=>(bif decide (v63.1≤j12)then r2 j10 j11 j14 j15 (IntKind.i64.wrap (j16+1)) j17 j18 j19 j20 j21 j22 j23 j24 j25 j26 j27 j28 j29 j30 j31 j32 j33 j34 j35 j36 j37 j38 j39 j40 j41 j42 j43 j44 j45 j46 j47 j48 j49 j50 j51 j52 j53 j54 j55 j56 j57 j58 j59 j60 j61 j62 else (Option.bind (y0d Go.FloatKind.f32 (y0g Go.BinOp.mul Go.FloatKind.f32 j13 (nat_lit 1098907648)) IntKind.i64) fun v68=>r2 j10 j11 j14 j15 (IntKind.i64.wrap (j16+1)) j17 j18 j19 j20 j21 j22 j23 j24 j25 j26 j27 j28 j29 j30 j31 j32 j33 j34 j35 j36 j37 j38 j39 j40 (IntKind.i64.wrap (j41+IntKind.i64.wrap (IntKind.i64.wrap (j40 * v68) * v68))) j42 j43 j44 j45 j46 j47 j48 j49 j50 j51 j52 j53 j54 j55 j56 j57 j58 j59 j60 j61 j62)))else (Option.bind (y0d Go.FloatKind.f32 (y0g Go.BinOp.mul Go.FloatKind.f32 j13 (nat_lit 1098907648)) IntKind.i64) fun v69=>r2 j10 j11 j14 j15 (IntKind.i64.wrap (j16+1)) j17 j18 j19 j20 j21 j22 j23 j24 j25 j26 j27 j28 j29 j30 j31 j32 j33 j34 j35 j36 j37 j38 j39 j40 (IntKind.i64.wrap (j41+IntKind.i64.wrap (IntKind.i64.wrap (j40 * v69) * v69))) j42 j43 j44 j45 j46 j47 j48 j49 j50 j51 j52 j53 j54 j55 j56 j57 j58 j59 j60 j61 j62))
def yJO(n:Nat)(r2:Q1→List (Q4)→List Nat→Int→Int→Q1→List (Q3)→Q1→Int→Int→List (Q4)→List (Q4)→Q1→List (Q3)→Int→Int→Bool→Q1→List (Q3)→List (Q4)→List (Q4)→Int→Int→Bool→Q1→Q1→Int→Int→Int→Int→Q1→List (Q3)→Q1→Int→Int→List (Q4)→List (Q4)→Q1→List (Q3)→Int→Int→Bool→Q1→List (Q3)→List (Q4)→List (Q4)→Int→Int→Bool→Q1→Q1→Option ((Q4)×Int×Unit))(r4:Q1→List (Q4)→Int→Nat→List Nat→Int→Int→Q1→List (Q3)→Q1→Int→Int→List (Q4)→List (Q4)→Q1→List (Q3)→Int→Int→Bool→Q1→List (Q3)→List (Q4)→List (Q4)→Int→Int→Bool→Q1→Q1→Int→Int→Int→Int→Q1→List (Q3)→Q1→Int→Int→List (Q4)→List (Q4)→Q1→List (Q3)→Int→Int→Bool→Q1→List (Q3)→List (Q4)→List (Q4)→Int→Int→Bool→Q1→Q1→Option ((Q4)×Int×Unit))(d4:Q1)(aB:List (Q4))(eP:Int)(fw:Nat)(cB:List Nat)(bn:Int)(bj:Int)(b4:Q1)(b6:List (Q3))(b7:Q1)(b8:Int)(b9:Int)(cx:List (Q4))(cy:List (Q4))(aI:Q1)(aJ:List (Q3))(aK:Int)(aL:Int)(aM:Bool)(aN:Q1)(bQ:List (Q3))(aO:List (Q4))(bR:List (Q4))(bS:Int)(bT:Int)(bU:Bool)(bV:Q1)(be:Q1)(ba:Int)(bc:Int)(aU:Int)(cz:Int)(d5:Q1)(d6:List (Q3))(d7:Q1)(d8:Int)(d9:Int)(fy:List (Q4))(fA:List (Q4))(br:Q1)(bt:List (Q3))(bu:Int)(bv:Int)(bw:Bool)(bx:Q1)(dT:List (Q3))(bz:List (Q4))(dU:List (Q4))(dV:Int)(dW:Int)(dX:Bool)(dY:Q1)(bW:Q1):Option ((Q4)×Int×Unit) :=
  (bif decide ((↑aB.length:Int) > 0)then (Option.bind (idx aB (0:Int)) fun v5=>(bif decide (v5.2.1≤eP)then (bif decide ((0:Int)≤1) && decide ((1:Int)≤(↑aB.length:Int))then r4 d4 (List.drop (Int.toNat (1:Int)) aB) eP fw cB bn bj b4 b6 b7 b8 b9 cx cy aI aJ aK aL aM aN bQ aO bR bS bT bU bV be ba bc aU cz d5 d6 d7 d8 d9 fy fA br bt bu bv bw bx dT bz dU dV dW dX dY bW else none)else (yBm n r2 (d4) (aB) (eP) (fw) (cB) (bn) (bj) (b4) (b6) (b7) (b8) (b9) (cx) (cy) (aI) (aJ) (aK) (aL) (aM) (aN) (bQ) (aO) (bR) (bS) (bT) (bU) (bV) (be) (ba) (bc) (aU) (cz) (d5) (d6) (d7) (d8) (d9) (fy) (fA) (br) (bt) (bu) (bv) (bw) (bx) (dT) (bz) (dU) (dV) (dW) (dX) (dY) (bW))))else (yBm n r2 (d4) (aB) (eP) (fw) (cB) (bn) (bj) (b4) (b6) (b7) (b8) (b9) (cx) (cy) (aI) (aJ) (aK) (aL) (aM) (aN) (bQ) (aO) (bR) (bS) (bT) (bU) (bV) (be) (ba) (bc) (aU) (cz) (d5) (d6) (d7) (d8) (d9) (fy) (fA) (br) (bt) (bu) (bv) (bw) (bx) (dT) (bz) (dU) (dV) (dW) (dX) (dY) (bW)))
def yKT(n:Nat)(r2:Q1→List (Q4)→List Nat→Int→Int→Q1→List (Q3)→Q1→Int→Int→List (Q4)→List (Q4)→Q1→List (Q3)→Int→Int→Bool→Q1→List (Q3)→List (Q4)→List (Q4)→Int→Int→Bool→Q1→Q1→Int→Int→Int→Int→Q1→List (Q3)→Q1→Int→Int→List (Q4)→List (Q4)→Q1→List (Q3)→Int→Int→Bool→Q1→List (Q3)→List (Q4)→List (Q4)→Int→Int→Bool→Q1→Q1→Option ((Q4)×Int×Unit))(k:Nat)(d4:Q1)(aB:List (Q4))(eP:Int)(fw:Nat)(cB:List Nat)(bn:Int)(bj:Int)(b4:Q1)(b6:List (Q3))(b7:Q1)(b8:Int)(b9:Int)(cx:List (Q4))(cy:List (Q4))(aI:Q1)(aJ:List (Q3))(aK:Int)(aL:Int)(aM:Bool)(aN:Q1)(bQ:List (Q3))(aO:List (Q4))(bR:List (Q4))(bS:Int)(bT:Int)(bU:Bool)(bV:Q1)(be:Q1)(ba:Int)(bc:Int)(aU:Int)(cz:Int)(d5:Q1)(d6:List (Q3))(d7:Q1)(d8:Int)(d9:Int)(fy:List (Q4))(fA:List (Q4))(br:Q1)(bt:List (Q3))(bu:Int)(bv:Int)(bw:Bool)(bx:Q1)(dT:List (Q3))(bz:List (Q4))(dU:List (Q4))(dV:Int)(dW:Int)(dX:Bool)(dY:Q1)(bW:Q1):Option ((Q4)×Int×Unit) :=
  iter (fun r y=>yJO n r2 (fun d4 aB eP fw cB bn bj b4 b6 b7 b8 b9 cx cy aI aJ aK aL aM aN bQ aO bR bS bT bU bV be ba bc aU cz d5 d6 d7 d8 d9 fy fA br bt bu bv bw bx dT bz dU dV dW dX dY bW=>r ((d4,(aB,(eP,(fw,(cB,(bn,(bj,()))))))),(((b4,(b6,(b7,(b8,(b9,(cx,(cy,(aI,(aJ,(aK,(aL,(aM,(aN,(bQ,(aO,(bR,(bS,(bT,(bU,(bV,((be,()),()))))))))))))))))))))),((ba,(bc,())),((aU,()),((cz,()),())))),(d5,(d6,(d7,(d8,(d9,(fy,(fA,(br,(bt,(bu,(bv,(bw,(bx,(dT,(bz,(dU,(dV,(dW,(dX,(dY,((bW,()),())))))))))))))))))))))))) y.1.1 y.1.2.1 y.1.2.2.1 y.1.2.2.2.1 y.1.2.2.2.2.1 y.1.2.2.2.2.2.1 y.1.2.2.2.2.2.2.1 y.2.1.1.1 y.2.1.1.2.1 y.2.1.1.2.2.1 y.2.1.1.2.2.2.1 y.2.1.1.2.2.2.2.1 y.2.1.1.2.2.2.2.2.1 y.2.1.1.2.2.2.2.2.2.1 y.2.1.1.2.2.2.2.2.2.2.1 y.2.1.1.2.2.2.2.2.2.2.2.1 y.2.1.1.2.2.2.2.2.2.2.2.2.1 y.2.1.1.2.2.2.2.2.2.2.2.2.2.1 y.2.1.1.2.2.2.2.2.2.2.2.2.2.2.1 y.2.1.1.2.2.2.2.2.2.2.2.2.2.2.2.1 y.2.1.1.2.2.2.2.2.2.2.2.2.2.2.2.2.1 y.2.1.1.2.2.2.2.2.2.2.2.2.2.2.2.2.2.1 y.2.1.1.2.2.2.2.2.2.2.2.2.2.2.2.2.2.2.1 y.2.1.1.2.2.2.2.2.2.2.2.2.2.2.2.2.2.2.2.1 y.2.1.1.2.2.2.2.2.2.2.2.2.2.2.2.2.2.2.2.2.1 y.2.1.1.2.2.2.2.2.2.2.2.2.2.2.2.2.2.2.2.2.2.1 y.2.1.1.2.2.2.2.2.2.2.2.2.2.2.2.2.2.2.2.2.2.2.1 y.2.1.1.2.2.2.2.2.2.2.2.2.2.2.2.2.2.2.2.2.2.2.2.1.1 y.2.1.2.1.1 y.2.1.2.1.2.1 y.2.1.2.2.1.1 y.2.1.2.2.2.1.1 y.2.2.1 y.2.2.2.1 y.2.2.2.2.1 y.2.2.2.2.2.1 y.2.2.2.2.2.2.1 y.2.2.2.2.2.2.2.1 y.2.2.2.2.2.2.2.2.1 y.2.2.2.2.2.2.2.2.2.1 y.2.2.2.2.2.2.2.2.2.2.1 y.2.2.2.2.2.2.2.2.2.2.2.1 y.2.2.2.2.2.2.2.2.2.2.2.2.1 y.2.2.2.2.2.2.2.2.2.2.2.2.2.1 y.2.2.2.2.2.2.2.2.2.2.2.2.2.2.1 y.2.2.2.2.2.2.2.2.2.2.2.2.2.2.2.1 y.2.2.2.2.2.2.2.2.2.2.2.2.2.2.2.2.1 y.2.2.2.2.2.2.2.2.2.2.2.2.2.2.2.2.2.1 y.2.2.2.2.2.2.2.2.2.2.2.2.2.2.2.2.2.2.1 y.2.2.2.2.2.2.2.2.2.2.2.2.2.2.2.2.2.2.2.1 y.2.2.2.2.2.2.2.2.2.2.2.2.2.2.2.2.2.2.2.2.1 y.2.2.2.2.2.2.2.2.2.2.2.2.2.2.2.2.2.2.2.2.2.1 y.2.2.2.2.2.2.2.2.2.2.2.2.2.2.2.2.2.2.2.2.2.2.1.1) k ((d4,(aB,(eP,(fw,(cB,(bn,(bj,()))))))),(((b4,(b6,(b7,(b8,(b9,(cx,(cy,(aI,(aJ,(aK,(aL,(aM,(aN,(bQ,(aO,(bR,(bS,(bT,(bU,(bV,((be,()),()))))))))))))))))))))),((ba,(bc,())),((aU,()),((cz,()),())))),(d5,(d6,(d7,(d8,(d9,(fy,(fA,(br,(bt,(bu,(bv,(bw,(bx,(dT,(bz,(dU,(dV,(dW,(dX,(dY,((bW,()),())))))))))))))))))))))))
def yI4(n:Nat)(r74:List (Q4)→List (Q4)→Int→Int→Int→Int→Int→Int→Option ((Q4)×Int×Unit))(eD:List (Q4))(dg:List (Q4))(dl:Int)(cb:Int)(cJ:Int)(cK:Int)(cd:Int)(ce:Int):Option ((Q4)×Int×Unit) :=
  (bif decide (cb < dl)then (Option.bind (idx dg cb) fun v75=>(Option.bind (idx eD cb) fun v76=>r74 eD dg dl (IntKind.i64.wrap (cb+1)) cJ cK cd (IntKind.i64.wrap (ce - (z14 (zv v76).1 (v75.1,v75.2.1,())).1.1))))else (Option.bind (yFS ce cd) fun v77=>some ((v77.1.1,v77.1.2.1,()),(0:Int),())))
def yGQ(n:Nat)(k:Nat)(eD:List (Q4))(dg:List (Q4))(dl:Int)(cb:Int)(cJ:Int)(cK:Int)(cd:Int)(ce:Int):Option ((Q4)×Int×Unit) :=
  iter (fun r y=>yI4 n (fun eD dg dl cb cJ cK cd ce=>r ((eD,(dg,(dl,(cb,())))),(((cJ,(cK,())),((cd,()),((ce,()),()))),()))) y.1.1 y.1.2.1 y.1.2.2.1 y.1.2.2.2.1 y.2.1.1.1 y.2.1.1.2.1 y.2.1.2.1.1 y.2.1.2.2.1.1) k ((eD,(dg,(dl,(cb,())))),(((cJ,(cK,())),((cd,()),((ce,()),()))),()))
def yK6(n:Nat)(r2:Q1→List (Q4)→List Nat→Int→Int→Q1→List (Q3)→Q1→Int→Int→List (Q4)→List (Q4)→Q1→List (Q3)→Int→Int→Bool→Q1→List (Q3)→List (Q4)→List (Q4)→Int→Int→Bool→Q1→Q1→Int→Int→Int→Int→Q1→List (Q3)→Q1→Int→Int→List (Q4)→List (Q4)→Q1→List (Q3)→Int→Int→Bool→Q1→List (Q3)→List (Q4)→List (Q4)→Int→Int→Bool→Q1→Q1→Option ((Q4)×Int×Unit))(dy:Q1)(cL:List (Q4))(fD:List Nat)(eE:Int)(dw:Int)(dZ:Q1)(e6:List (Q3))(e7:Q1)(e8:Int)(eb:Int)(ed:List (Q4))(ee:List (Q4))(cM:Q1)(cN:List (Q3))(cO:Int)(cP:Int)(cQ:Bool)(cR:Q1)(cS:List (Q3))(cT:List (Q4))(cU:List (Q4))(cV:Int)(cW:Int)(cX:Bool)(cY:Q1)(bA:Q1)(dm:Int)(dn:Int)(dp:Int)(dq:Int)(fF:Q1)(fG:List (Q3))(fH:Q1)(fI:Int)(fJ:Int)(fB:List (Q4))(fE:List (Q4))(eQ:Q1)(eR:List (Q3))(eS:Int)(eT:Int)(eU:Bool)(eV:Q1)(eW:List (Q3))(eX:List (Q4))(eY:List (Q4))(eZ:Int)(f0:Int)(f7:Bool)(f9:Q1)(cZ:Q1):Option ((Q4)×Int×Unit) :=
  (bif decide (dw < eE)then (Option.bind (idx fD dw) fun v3=>(yKT n r2 n (dy) (cL) (dw) (v3) (fD) (eE) (dw) (dZ) (e6) (e7) (e8) (eb) (ed) (ee) (cM) (cN) (cO) (cP) (cQ) (cR) (cS) (cT) (cU) (cV) (cW) (cX) (cY) (bA) (dm) (dn) (dp) (dq) (fF) (fG) (fH) (fI) (fJ) (fB) (fE) (eQ) (eR) (eS) (eT) (eU) (eV) (eW) (eX) (eY) (eZ) (f0) (f7) (f9) (cZ)))else (yGQ n n (fE) (fB) ((↑fB.length:Int)) ((0:Int)) (dm) (dn) (dp) (dq)))
def yLA(n:Nat)(k:Nat)(dy:Q1)(cL:List (Q4))(fD:List Nat)(eE:Int)(dw:Int)(dZ:Q1)(e6:List (Q3))(e7:Q1)(e8:Int)(eb:Int)(ed:List (Q4))(ee:List (Q4))(cM:Q1)(cN:List (Q3))(cO:Int)(cP:Int)(cQ:Bool)(cR:Q1)(cS:List (Q3))(cT:List (Q4))(cU:List (Q4))(cV:Int)(cW:Int)(cX:Bool)(cY:Q1)(bA:Q1)(dm:Int)(dn:Int)(dp:Int)(dq:Int)(fF:Q1)(fG:List (Q3))(fH:Q1)(fI:Int)(fJ:Int)(fB:List (Q4))(fE:List (Q4))(eQ:Q1)(eR:List (Q3))(eS:Int)(eT:Int)(eU:Bool)(eV:Q1)(eW:List (Q3))(eX:List (Q4))(eY:List (Q4))(eZ:Int)(f0:Int)(f7:Bool)(f9:Q1)(cZ:Q1):Option ((Q4)×Int×Unit) :=
  iter (fun r y=>yK6 n (fun dy cL fD eE dw dZ e6 e7 e8 eb ed ee cM cN cO cP cQ cR cS cT cU cV cW cX cY bA dm dn dp dq fF fG fH fI fJ fB fE eQ eR eS eT eU eV eW eX eY eZ f0 f7 f9 cZ=>r ((dy,(cL,(fD,(eE,(dw,()))))),(((dZ,(e6,(e7,(e8,(eb,(ed,(ee,(cM,(cN,(cO,(cP,(cQ,(cR,(cS,(cT,(cU,(cV,(cW,(cX,(cY,((bA,()),()))))))))))))))))))))),((dm,(dn,())),((dp,()),((dq,()),())))),(fF,(fG,(fH,(fI,(fJ,(fB,(fE,(eQ,(eR,(eS,(eT,(eU,(eV,(eW,(eX,(eY,(eZ,(f0,(f7,(f9,((cZ,()),())))))))))))))))))))))))) y.1.1 y.1.2.1 y.1.2.2.1 y.1.2.2.2.1 y.1.2.2.2.2.1 y.2.1.1.1 y.2.1.1.2.1 y.2.1.1.2.2.1 y.2.1.1.2.2.2.1 y.2.1.1.2.2.2.2.1 y.2.1.1.2.2.2.2.2.1 y.2.1.1.2.2.2.2.2.2.1 y.2.1.1.2.2.2.2.2.2.2.1 y.2.1.1.2.2.2.2.2.2.2.2.1 y.2.1.1.2.2.2.2.2.2.2.2.2.1 y.2.1.1.2.2.2.2.2.2.2.2.2.2.1 y.2.1.1.2.2.2.2.2.2.2.2.2.2.2.1 y.2.1.1.2.2.2.2.2.2.2.2.2.2.2.2.1 y.2.1.1.2.2.2.2.2.2.2.2.2.2.2.2.2.1 y.2.1.1.2.2.2.2.2.2.2.2.2.2.2.2.2.2.1 y.2.1.1.2.2.2.2.2.2.2.2.2.2.2.2.2.2.2.1 y.2.1.1.2.2.2.2.2.2.2.2.2.2.2.2.2.2.2.2.1 y.2.1.1.2.2.2.2.2.2.2.2.2.2.2.2.2.2.2.2.2.1 y.2.1.1.2.2.2.2.2.2.2.2.2.2.2.2.2.2.2.2.2.2.1 y.2.1.1.2.2.2.2.2.2.2.2.2.2.2.2.2.2.2.2.2.2.2.1 y.2.1.1.2.2.2.2.2.2.2.2.2.2.2.2.2.2.2.2.2.2.2.2.1.1 y.2.1.2.1.1 y.2.1.2.1.2.1 y.2.1.2.2.1.1 y.2.1.2.2.2.1.1 y.2.2.1 y.2.2.2.1 y.2.2.2.2.1 y.2.2.2.2.2.1 y.2.2.2.2.2.2.1 y.2.2.2.2.2.2.2.1 y.2.2.2.2.2.2.2.2.1 y.2.2.2.2.2.2.2.2.2.1 y.2.2.2.2.2.2.2.2.2.2.1 y.2.2.2.2.2.2.2.2.2.2.2.1 y.2.2.2.2.2.2.2.2.2.2.2.2.1 y.2.2.2.2.2.2.2.2.2.2.2.2.2.1 y.2.2.2.2.2.2.2.2.2.2.2.2.2.2.1 y.2.2.2.2.2.2.2.2.2.2.2.2.2.2.2.1 y.2.2.2.2.2.2.2.2.2.2.2.2.2.2.2.2.1 y.2.2.2.2.2.2.2.2.2.2.2.2.2.2.2.2.2.1 y.2.2.2.2.2.2.2.2.2.2.2.2.2.2.2.2.2.2.1 y.2.2.2.2.2.2.2.2.2.2.2.2.2.2.2.2.2.2.2.1 y.2.2.2.2.2.2.2.2.2.2.2.2.2.2.2.2.2.2.2.2.1 y.2.2.2.2.2.2.2.2.2.2.2.2.2.2.2.2.2.2.2.2.2.1 y.2.2.2.2.2.2.2.2.2.2.2.2.2.2.2.2.2.2.2.2.2.2.1.1) k ((dy,(cL,(fD,(eE,(dw,()))))),(((dZ,(e6,(e7,(e8,(eb,(ed,(ee,(cM,(cN,(cO,(cP,(cQ,(cR,(cS,(cT,(cU,(cV,(cW,(cX,(cY,((bA,()),()))))))))))))))))))))),((dm,(dn,())),((dp,()),((dq,()),())))),(fF,(fG,(fH,(fI,(fJ,(fB,(fE,(eQ,(eR,(eS,(eT,(eU,(eV,(eW,(eX,(eY,(eZ,(f0,(f7,(f9,((cZ,()),())))))))))))))))))))))))
def yRG(n:Nat)(rp:Q1)(l:List (Q3)):Option ((Q4)×Int×Unit) :=
  (Option.bind (yAG rp l) fun v0=>(bif v0.1 != 0 then some (((0:Int),(0:Int),()),v0.1,())else (Option.bind (yK8 rp l) fun v1=>(bif v1.2.2.1==0 then some (((0:Int),(0:Int),()),(25:Int),())else (yLA n n (rp) (rp.2.2.2.1) (rp.2.2.1) ((↑rp.2.2.1.length:Int)) ((0:Int)) (rp) (l) (rp) ((0:Int)) (v0.1) (v1.1) (v1.2.1) (rp) (l) (v0.1) (v0.1) (v0.1 != 0) (rp) (l) (v1.1) (v1.2.1) (v1.2.2.1) (v1.2.2.1) (v1.2.2.1==0) (rp) (rp) ((0:Int)) ((0:Int)) (v1.2.2.1) ((0:Int)) (rp) (l) (rp) ((0:Int)) (v0.1) (v1.1) (v1.2.1) (rp) (l) (v0.1) (v0.1) (v0.1 != 0) (rp) (l) (v1.1) (v1.2.1) (v1.2.2.1) (v1.2.2.1) (v1.2.2.1==0) (rp) (rp))))))
theorem yTI(n:Nat)(x:yPy.den):runF yUz (yLo n) Tryz.f36 yPy yWz x=yRG n x.1 x.2.1:=by kernel_rfl
def yJt(rp:Q1)(l:List (Q3)):Option ((Q4)×Int×Unit):=yRG 1000 rp l
theorem yQl(rp:Q1)(l:List (Q3))(y:(Q4)×Int×Unit)(h:yJt rp l=some y):∃ n,yRG n rp l=some y:=⟨1000,h⟩
def z0s_e:Entry:={ f:=36,args:=yPy,ress:=yWz,m:=fun x=>yJt x.1 x.2.1 }
theorem yVP:FnOK Tryz.prog z0s_e:=yJ (g:=yUz) (fn:=Tryz.f36) yA yI (y6 y7h (y6 yM9 (y6 yOX (y6 yE1 (y6 yHh eNil))))) (by kernel_rfl) (by kernel_rfl) (by kernel_rfl) (fun x y h=>let ⟨n,hn⟩:=yQl x.1 x.2.1 y h;⟨yLo n,(y4M y4w (y4M y5A iNil)),(yTI n x).trans hn⟩)
abbrev yNJ:Ty:=.pair t60 (.pair t31 .unit)
abbrev yUY:Ty:=.pair t96 (.pair t28 .unit)
def yVj:G:={ T:=T,E:=[z0x_e,z0c_e],muts:=[],fz:=[] }
def yZf:List (List Nat):=[]
def yMs(n:Nat):Ann:={ keep:=yZf,fuel:=n,inl:=[],deep:=0 }
def yQ3(n:Nat)(rp:Q1)(l:List (Q3)):Option (List (List (Q4))×Int×Unit) :=
  (Option.bind (yAG rp l) fun v0=>(bif v0.1 != 0 then some ([],v0.1,())else (Option.bind (yCr rp l) fun v1=>some (v1.1,(0:Int),()))))
theorem yUS(n:Nat)(x:yNJ.den):runF yVj (yMs n) Tryz.f55 yNJ yUY x=yQ3 n x.1 x.2.1:=by kernel_rfl
def yPp(rp:Q1)(l:List (Q3)):Option (List (List (Q4))×Int×Unit):=yQ3 0 rp l
theorem yNb(rp:Q1)(l:List (Q3))(y:List (List (Q4))×Int×Unit)(h:yPp rp l=some y):∃ n,yQ3 n rp l=some y:=⟨0,h⟩
def z0Y_e:Entry:={ f:=55,args:=yNJ,ress:=yUY,m:=fun x=>yPp x.1 x.2.1 }
theorem yTr:FnOK Tryz.prog z0Y_e:=yJ (g:=yVj) (fn:=Tryz.f55) yA yI (y6 y7h (y6 yBd eNil)) (by kernel_rfl) (by kernel_rfl) (by kernel_rfl) (fun x y h=>let ⟨n,hn⟩:=yNb x.1 x.2.1 y h;⟨yMs n,iNil,(yUS n x).trans hn⟩)
abbrev yQK:Ty:=.pair t60 (.pair t31 .unit)
abbrev yTP:Ty:=.pair t3 (.pair t28 .unit)
def yY4:G:={ T:=T,E:=[z0x_e,z6_e,zw_e],muts:=[24],fz:=[7,27] }
def yYU:List (List Nat):=[[2,7,17,18,19,1000007]]
def yLj(n:Nat):Ann:={ keep:=yYU,fuel:=n,inl:=[],deep:=0 }
def yJf(n:Nat)(r1:Q1→List (Q3)→List (Q3)→Int→Int→Option (Q4))(cg:Q1)(bg:List (Q3))(eg:List (Q3))(ek:Int)(dx:Int):Option (Q4) :=
  (bif decide (dx < ek)then (Option.bind (idx eg dx) fun v2=>(bif decide (bg.length≤memMax)then (bif decide (bg.length+(1:Nat)≤memMax)then (Option.bind (zw_M cg (bg++[(v2.1,v2.2.1,v2.2.2.1,())])) fun v3=>(bif !v3.1 then r1 cg (bg++[(v2.1,v2.2.1,v2.2.2.1,())]) eg ek (IntKind.i64.wrap (dx+1))else r1 cg bg eg ek (IntKind.i64.wrap (dx+1))))else none)else none))else some ((↑bg.length:Int),(0:Int),()))
def yL1(n:Nat)(k:Nat)(cg:Q1)(bg:List (Q3))(eg:List (Q3))(ek:Int)(dx:Int):Option (Q4) :=
  iter (fun r y=>yJf n (fun cg bg eg ek dx=>r ((cg,(bg,(eg,(ek,(dx,()))))),((),()))) y.1.1 y.1.2.1 y.1.2.2.1 y.1.2.2.2.1 y.1.2.2.2.2.1) k ((cg,(bg,(eg,(ek,(dx,()))))),((),()))
def yRA(n:Nat)(rp:Q1)(l:List (Q3)):Option (Q4) :=
  (Option.bind (yAG rp l) fun v0=>(bif v0.1 != 0 then some ((0:Int),v0.1,())else (yL1 n n (rp) ([]) (l) ((↑l.length:Int)) ((0:Int)))))
theorem yUO(n:Nat)(x:yQK.den):runF yY4 (yLj n) Tryz.f57 yQK yTP x=yRA n x.1 x.2.1:=by kernel_rfl
def yQj(rp:Q1)(l:List (Q3)):Option (Q4):=yRA 1000 rp l
theorem yRD(rp:Q1)(l:List (Q3))(y:Q4)(h:yQj rp l=some y):∃ n,yRA n rp l=some y:=⟨1000,h⟩
def z1A_e:Entry:={ f:=57,args:=yQK,ress:=yTP,m:=fun x=>yQj x.1 x.2.1 }
theorem yWC:FnOK Tryz.prog z1A_e:=yJ (g:=yY4) (fn:=Tryz.f57) yA yI (y6 y7h (y6 yYk (y6 yT3 eNil))) (by kernel_rfl) (by kernel_rfl) (by kernel_rfl) (fun x y h=>let ⟨n,hn⟩:=yRD x.1 x.2.1 y h;⟨yLj n,iNil,(yUO n x).trans hn⟩)
abbrev yR1:Ty:=.pair t60 (.pair t31 .unit)
abbrev yS6:Ty:=.pair t100 (.pair t28 .unit)
def yWG:G:={ T:=T,E:=[z0x_e,z13_e,z0z_e],muts:=[8],fz:=[] }
def yab:List (List Nat):=[[1,2,7,8,22]]
def yMw(n:Nat):Ann:={ keep:=yab,fuel:=n,inl:=[],deep:=0 }
def yJl(n:Nat)(r2:List (Q3)→Q1→Int→Int→List (List Int)→Option (List (List Int)×Int×Unit))(dz:List (Q3))(ev:Q1)(ep:Int)(az:Int)(bP:List (List Int)):Option (List (List Int)×Int×Unit) :=
  (bif decide (az < 16)then (bif decide (IntKind.i64.wrap (az.tdiv (4:Int)) > az.tmod (4:Int))then r2 dz ev ep (IntKind.i64.wrap (az+1)) bP else (bif eqV (Ty.arr (2:Nat) (Ty.int IntKind.i64)) [IntKind.i64.wrap (az.tdiv (4:Int)),az.tmod (4:Int)] [az.tmod (4:Int),IntKind.i64.wrap (az.tdiv (4:Int))]then r2 dz ev ep (IntKind.i64.wrap (az+1)) bP else (bif decide (az.tmod (4:Int) ≥ (↑dz.length:Int))then r2 dz ev ep (IntKind.i64.wrap (az+1)) bP else (Option.bind (idx dz (IntKind.i64.wrap (az.tdiv (4:Int)))) fun v7=>(Option.bind (idx dz (az.tmod (4:Int))) fun v8=>(Option.bind (yGT ev v7 v8) fun v9=>(bif IntKind.i64.wrap (IntKind.i64.wrap (v9.1.1 * v9.1.1)+IntKind.i64.wrap (v9.1.2.1 * v9.1.2.1))==IntKind.i64.wrap (ep * ep)then (bif decide (bP.length+(1:Nat)≤memMax)then r2 dz ev ep (IntKind.i64.wrap (az+1)) (bP++[[IntKind.i64.wrap (az.tdiv (4:Int)),az.tmod (4:Int)]])else none)else r2 dz ev ep (IntKind.i64.wrap (az+1)) bP)))))))else some (bP,(0:Int),()))
def yJM(n:Nat)(k:Nat)(dz:List (Q3))(ev:Q1)(ep:Int)(az:Int)(bP:List (List Int)):Option (List (List Int)×Int×Unit) :=
  iter (fun r y=>yJl n (fun dz ev ep az bP=>r ((dz,(ev,(ep,(az,())))),((bP,()),()))) y.1.1 y.1.2.1 y.1.2.2.1 y.1.2.2.2.1 y.2.1.1) k ((dz,(ev,(ep,(az,())))),((bP,()),()))
def yO7(n:Nat)(rp:Q1)(l:List (Q3)):Option (List (List Int)×Int×Unit) :=
  (Option.bind (yAG rp l) fun v0=>(bif v0.1 != 0 then some ([],v0.1,())else (Option.bind (yKp rp) fun v1=>(yJM n n (l) (rp) ((↑v1.1.length:Int)) ((0:Int)) ([])))))
theorem ySB(n:Nat)(x:yR1.den):runF yWG (yMw n) Tryz.f58 yR1 yS6 x=yO7 n x.1 x.2.1:=by kernel_rfl
def yRT(rp:Q1)(l:List (Q3)):Option (List (List Int)×Int×Unit):=yO7 1000 rp l
theorem yRL(rp:Q1)(l:List (Q3))(y:List (List Int)×Int×Unit)(h:yRT rp l=some y):∃ n,yO7 n rp l=some y:=⟨1000,h⟩
def z0q_e:Entry:={ f:=58,args:=yR1,ress:=yS6,m:=fun x=>yRT x.1 x.2.1 }
theorem yVN:FnOK Tryz.prog z0q_e:=yJ (g:=yWG) (fn:=Tryz.f58) yA yI (y6 y7h (y6 yMe (y6 yHr eNil))) (by kernel_rfl) (by kernel_rfl) (by kernel_rfl) (fun x y h=>let ⟨n,hn⟩:=yRL x.1 x.2.1 y h;⟨yMw n,iNil,(ySB n x).trans hn⟩)
abbrev yQk:Ty:=.pair t60 (.pair t31 .unit)
abbrev yTM:Ty:=.pair t23 (.pair t28 .unit)
def ySo:G:={ T:=T,E:=[z0x_e,zw_e,z0c_e,z02_e,zA_e,zd_e,zK_e,z0d_e],muts:=[],fz:=[] }
def yYb:List (List Nat):=[[2,3,7,22,23],[7,9,10,11,51,52]]
def yM8(n:Nat):Ann:={ keep:=yYb,fuel:=n,inl:=[],deep:=0 }
def yGa(n:Nat)(r10:Int→List (List (Q4))→List (Q4)→Int→Int→List (Q4)→Option (List (Q4)×Int×Unit))(cc:Int)(eu:List (List (Q4)))(aT:List (Q4))(dt:Int)(bp:Int)(ci:List (Q4)):Option (List (Q4)×Int×Unit) :=
  (bif decide (bp < dt)then (Option.bind (zd_M eu bp aT) fun v11=>(Option.bind (zK_M v11.1) fun v12=>(Option.bind (idx ci bp) fun v13=>(Option.bind (ci[bp.toNat]?) fun v14=>r10 cc eu aT dt (IntKind.i64.wrap (bp+1)) (ci.set bp.toNat v12.1)))))else (Option.bind (zK_M eu) fun v15=>(Option.bind (idx ci cc) fun v16=>(Option.bind (ci[cc.toNat]?) fun v17=>some (ci.set cc.toNat (z0d v15.1 (-1:Int)).1,(0:Int),())))))
def yGy(n:Nat)(k:Nat)(cc:Int)(eu:List (List (Q4)))(aT:List (Q4))(dt:Int)(bp:Int)(ci:List (Q4)):Option (List (Q4)×Int×Unit) :=
  iter (fun r y=>yGa n (fun cc eu aT dt bp ci=>r ((cc,(eu,(aT,(dt,(bp,()))))),((ci,()),()))) y.1.1 y.1.2.1 y.1.2.2.1 y.1.2.2.2.1 y.1.2.2.2.2.1 y.2.1.1) k ((cc,(eu,(aT,(dt,(bp,()))))),((ci,()),()))
def yB1(n:Nat)(j3:Int)(j4:Q1)(j5:List (Q3)):Option (List (Q4)×Int×Unit) :=
  (bif j3==(↑j5.length:Int)then some ([],(7:Int),())else (bif decide ((0:Int)≤j3) && decide (j3≤(↑j5.length:Int))then (Option.bind (yCr j4 (List.take j3.toNat j5)) fun v8=>(bif decide ((0:Int)≤j3) && decide (j3≤(↑j5.length:Int))then (Option.bind (zA_M (List.take j3.toNat j5) fun (x:(Q3)×Unit)=>yNV x.1 j4 j5 j3) fun v9=>(bif Bool.true && decide ((0:Int)≤(↑j5.length:Int)) && decide ((↑j5.length:Int)≤(↑memMax:Int)) && (↑j5.length:Int)==(↑j5.length:Int)then (yGy n n (j3) (v8.1) (v9.1) (j3) ((0:Int)) ((List.replicate ((↑j5.length:Int).toNat) (((0:Int),(0:Int),())):List (Q4))))else none))else none))else none))
def yJA(n:Nat)(r1:Q1→List (Q3)→Int→Int→Int→Option (List (Q4)×Int×Unit))(cg:Q1)(eH:List (Q3))(eF:Int)(cj:Int)(du:Int):Option (List (Q4)×Int×Unit) :=
  (bif decide (cj < eF)then (bif decide ((0:Int)≤IntKind.i64.wrap (cj+1)) && decide (IntKind.i64.wrap (cj+1)≤(↑eH.length:Int))then (Option.bind (zw_M cg (List.take (IntKind.i64.wrap (cj+1)).toNat eH)) fun v2=>(bif v2.1 then (yB1 n (cj) (cg) (eH))else r1 cg eH eF (IntKind.i64.wrap (cj+1)) du))else none)else (yB1 n (du) (cg) (eH)))
def yLU(n:Nat)(k:Nat)(cg:Q1)(eH:List (Q3))(eF:Int)(cj:Int)(du:Int):Option (List (Q4)×Int×Unit) :=
  iter (fun r y=>yJA n (fun cg eH eF cj du=>r ((cg,(eH,(eF,(cj,())))),(((du,()),()),()))) y.1.1 y.1.2.1 y.1.2.2.1 y.1.2.2.2.1 y.2.1.1.1) k ((cg,(eH,(eF,(cj,())))),(((du,()),()),()))
def yP3(n:Nat)(rp:Q1)(l:List (Q3)):Option (List (Q4)×Int×Unit) :=
  (Option.bind (yAG rp l) fun v0=>(bif v0.1 != 0 then some ([],v0.1,())else (yLU n n (rp) (l) ((↑l.length:Int)) ((0:Int)) ((↑l.length:Int)))))
theorem yWO(n:Nat)(x:yQk.den):runF ySo (yM8 n) Tryz.f89 yQk yTM x=yP3 n x.1 x.2.1:=by kernel_rfl
def yPX(rp:Q1)(l:List (Q3)):Option (List (Q4)×Int×Unit):=yP3 1000 rp l
theorem yOf(rp:Q1)(l:List (Q3))(y:List (Q4)×Int×Unit)(h:yPX rp l=some y):∃ n,yP3 n rp l=some y:=⟨1000,h⟩
def z0W_e:Entry:={ f:=89,args:=yQk,ress:=yTM,m:=fun x=>yPX x.1 x.2.1 }
theorem yVJ:FnOK Tryz.prog z0W_e:=yJ (g:=ySo) (fn:=Tryz.f89) yA yI (y6 y7h (y6 yT3 (y6 yBd (y6 yWY (y6 yOK (y6 yUh (y6 yJF (y6 y95 eNil)))))))) (by kernel_rfl) (by kernel_rfl) (by kernel_rfl) (fun x y h=>let ⟨n,hn⟩:=yOf x.1 x.2.1 y h;⟨yM8 n,iNil,(yWO n x).trans hn⟩)
end
end Go.Tw
end
section
set_option maxRecDepth 1000000
namespace Go.Tw
open Go.Vx Go.Vx.B Go.Proofs
noncomputable section
def il102:Inl:={ f:=102,fn:=Tryz.f102,keep:=[],muts:=[3,5],fz:=[5],rc:=true }
theorem yLC:y5S Tryz.prog il102:=⟨by kernel_rfl,by kernel_rfl,fun e0 h=>by cases (show (none:Option LibK)=some e0 from h)⟩
abbrev yOQ:Ty:=.unit
abbrev yW2:Ty:=.pair t4 .unit
def yXf:G:={ T:=T,E:=[z0k_e,z0O_e,z0Y_e,zb_e,z0F_e,z0s_e,z0G_e,zp_e,zV_e,z0q_e,z0W_e,z1A_e,z0X_e,z03_e,z0r_e,z19_e,z0t_e,z1B_e,z0u_e,zi_e,za_e,zo_e,zq_e],muts:=[155],fz:=[] }
def yZk:List (List Nat):=[]
def yMP(n:Nat):Ann:={ keep:=yZk,fuel:=n,inl:=[il102],deep:=4 }
def yOg(n:Nat)  : Option (Bool×Unit) :=
  (Option.bind (y5u [(81:UInt8),82]) fun v0=>(Option.bind (yPp (z0k []).1 v0.1) fun v1=>(Option.bind (y5u [(81:UInt8),82]) fun v2=>(Option.bind (zb_M (z0k []).1 v2.1) fun v3=>(Option.bind (y5u [(81:UInt8),82]) fun v4=>(Option.bind (yKf (z0k []).1 v4.1) fun v5=>(Option.bind (y5u [(81:UInt8),82]) fun v6=>(Option.bind (yJt (z0k []).1 v6.1) fun v7=>(Option.bind (yGK (v5.1.1,v5.1.2.1,v5.1.2.2.1,()) (0:Int) (4:Int)) fun v8=>(Option.bind (y5u [(90:UInt8),72]) fun v9=>(Option.bind (zb_M (z0k [((3:Int),(4:Int),())]).1 v9.1) fun v10=>(Option.bind (y5u [(90:UInt8),72]) fun v11=>(Option.bind (yJt (z0k [((3:Int),(4:Int),())]).1 v11.1) fun v12=>(bif IntKind.i64.wrap (IntKind.i64.wrap (IntKind.i64.wrap (IntKind.i64.wrap (IntKind.i64.wrap (IntKind.i64.wrap (v1.2.1+v3.2.1)+v5.2.1)+v7.2.1)+v8.2.1)+v10.2.1)+v12.2.1) != 0 then some (Bool.false,())else (Option.bind (zp_M v1.1 [[((4:Int),(0:Int),()),((0:Int),(0:Int),())],[((0:Int),(0:Int),()),((4:Int),(0:Int),())]]) fun v13=>(bif !v13.1 then some (Bool.false,())else (bif v3.1 != 16 then some (Bool.false,())else (bif v5.1.2.2.1 != 1 then some (Bool.false,())else (Option.bind (zV_M v5.1.2.1 [((8:Int),(0:Int),()),((8:Int),(0:Int),())]) fun v14=>(bif !v14.1 then some (Bool.false,())else (bif !eqV ((Ty.int IntKind.i64).pair ((Ty.int IntKind.i64).pair Ty.unit)) (v7.1.1,v7.1.2.1,()) ((0:Int),(1:Int),())then some (Bool.false,())else (Option.bind (zV_M v8.1 [((16:Int),(0:Int),()),((0:Int),(0:Int),()),((-16:Int),(0:Int),()),((0:Int),(0:Int),())]) fun v15=>(bif !v15.1 then some (Bool.false,())else (bif v10.1 != 8 then some (Bool.false,())else (bif !eqV ((Ty.int IntKind.i64).pair ((Ty.int IntKind.i64).pair Ty.unit)) (v12.1.1,v12.1.2.1,()) ((512:Int),(1:Int),())then some (Bool.false,())else (Option.bind (y5u [(90:UInt8),72]) fun v32=>(Option.bind (yRT ([(103:UInt8)],(0:Int),[nat_lit 1065353216,nat_lit 0,nat_lit 3212836864,nat_lit 0],[((1:Int),(2:Int),()),((3:Int),(4:Int),())],()) v32.1) fun v33=>(Option.bind (y5u [(90:UInt8),72]) fun v34=>(Option.bind (yPX ([(103:UInt8)],(0:Int),[nat_lit 1065353216,nat_lit 0,nat_lit 3212836864,nat_lit 0],[((1:Int),(2:Int),()),((3:Int),(4:Int),())],()) v34.1) fun v35=>(Option.bind (y5u [(90:UInt8),72,81]) fun v36=>(Option.bind (yQj ([(103:UInt8)],(0:Int),[nat_lit 1065353216,nat_lit 0,nat_lit 3212836864,nat_lit 0],[((1:Int),(2:Int),()),((3:Int),(4:Int),())],()) v36.1) fun v37=>(Option.bind (y5u [(90:UInt8),72]) fun v38=>(Option.bind (yKf ([(103:UInt8)],(0:Int),[nat_lit 1065353216,nat_lit 0,nat_lit 3212836864,nat_lit 0],[((1:Int),(2:Int),()),((3:Int),(4:Int),())],()) v38.1) fun v39=>(Option.bind (y5u [(90:UInt8)]) fun v40=>(Option.bind (yPZ (v40.1,[((3:Int),(0:Int),())],(2:Int),()) (5:Int) (1:Int)) fun v41=>(Option.bind (yQ7 (z0k []).1 (v40.1,[((3:Int),(0:Int),())],(2:Int),())) fun v42=>(Option.bind (yQ4 [nat_lit 0,nat_lit 1065353216,nat_lit 1065353216,nat_lit 0,nat_lit 1073741824,nat_lit 1065353216]) fun v43=>(Option.bind (yNK [nat_lit 0,nat_lit 1065353216,nat_lit 1065353216,nat_lit 0,nat_lit 1073741824,nat_lit 1065353216]) fun v44=>(Option.bind (yGp (2024:Int)) fun v45=>(Option.bind (yHB (v40.1,[((3:Int),(0:Int),())],(2:Int),())) fun v46=>(Option.bind (yO1 (v40.1,[((3:Int),(0:Int),())],(2:Int),())) fun v47=>(bif IntKind.i64.wrap (IntKind.i64.wrap (IntKind.i64.wrap (IntKind.i64.wrap (IntKind.i64.wrap (IntKind.i64.wrap (IntKind.i64.wrap (IntKind.i64.wrap (IntKind.i64.wrap (v33.2.1+v35.2.1)+v37.2.1)+v41.2.1)+v42.2.1)+v43.2.1)+v44.2.1)+v45.2.1)+v46.2.1)+v47.2.1)==0 then (bif v39.2.1==25 then (Option.bind (zi_M v33.1 [[(0:Int),(1:Int)]]) fun v48=>(bif v48.1 then (Option.bind (zV_M v35.1 [((2:Int),(0:Int),()),((-2:Int),(0:Int),())]) fun v49=>(bif v49.1 then (bif v37.1==2 then (Option.bind (za_M v41.1 [nat_lit 1040187392]) fun v50=>(bif v50.1 then (bif eqV ((Ty.int IntKind.i64).pair ((Ty.int IntKind.i64).pair Ty.unit)) (v42.1.1,v42.1.2.1,()) ((521:Int),(1:Int),())then (Option.bind (zo_M v43.1 [(1:Int),(4:Int)]) fun v51=>(bif v51.1 then (Option.bind (zo_M v44.1 [(3:Int)]) fun v52=>(bif v52.1 then (bif eqV ((Ty.int IntKind.i64).pair ((Ty.int IntKind.i64).pair Ty.unit)) (v45.1.1,v45.1.2.1,()) ((26:Int),(25:Int),())then (Option.bind (zq_M v46.1 [(nat_lit 1035993088,nat_lit 0)]) fun v53=>(bif v53.1 then some (v47.1==[(116:UInt8),105,100,101,32,50,10,99,111,110,115,116,105,116,117,101,110,116,32,90,32,49,32,48,32,51,32,48,10],())else some (Bool.false,())))else some (Bool.false,()))else some (Bool.false,())))else some (Bool.false,())))else some (Bool.false,()))else some (Bool.false,())))else some (Bool.false,()))else some (Bool.false,())))else some (Bool.false,())))else some (Bool.false,()))else some (Bool.false,())))))))))))))))))))))))))))))))))))))))))))
theorem yUo(n:Nat)(x:yOQ.den):runF yXf (yMP n) Tryz.f18 yOQ yW2 x=yOg n:=by kernel_rfl
def yPu  : Option (Bool×Unit):=yOg 0
theorem yPL(y:Bool×Unit)(h:yPu=some y):∃ n,yOg n=some y:=⟨0,h⟩
def z0N_e:Entry:={ f:=18,args:=yOQ,ress:=yW2,m:=fun x=>yPu }
theorem yX6:FnOK Tryz.prog z0N_e:=yJ (g:=yXf) (fn:=Tryz.f18) yA yI (y6 yUJ (y6 yWb (y6 yTr (y6 yao (y6 yV8 (y6 yVP (y6 yLz (y6 yZG (y6 yOF (y6 yVN (y6 yVJ (y6 yWC (y6 yXr (y6 yTZ (y6 yWp (y6 ySD (y6 yMl (y6 yNE (y6 yUF (y6 yZV (y6 yYX (y6 yYq (y6 yVz eNil))))))))))))))))))))))) (by kernel_rfl) (by kernel_rfl) (by kernel_rfl) (fun x y h=>let ⟨n,hn⟩:=yPL y h;⟨yMP n,(y4M yLC iNil),(yUo n x).trans hn⟩)
end
end Go.Tw
end
