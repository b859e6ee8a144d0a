import Derived.Test.YtkfigfhjbejikaaGreatDoorBT
import Derived.Test.YtkfigfhjbejikaaGreatDoorB0
import Derived.Test.YtkfigfhjbejikaaGreatDoorBA
set_option linter.all false
open Go.IntKind (i64)
section
set_option maxRecDepth 1000000
namespace Go.Tw
open Go.Vx Go.Vx.B Go.Proofs
noncomputable section
def yGf(n:Nat)(r0:List (List Int)->List (List Int)->Int->Option (Bool×Unit))(aI:List (List Int))(aK:List (List Int))(aQ:Int):Option (Bool×Unit):=
  (bif decide (aQ < (↑aI.length:Int))then ((idx aI aQ).bind λ v1=>((idx aK aQ).bind λ v2=>((yEw v1 v2).bind λ v3=>(bif !v3.1 then some (Bool.false,())else r0 aI aK (i64.wrap (aQ+1))))))else some (Bool.true,()))
def y87(n:Nat)(k:Nat)(aI:List (List Int))(aK:List (List Int))(aQ:Int):Option (Bool×Unit):=
  iter (λ r y=>yGf n (λ aI aK aQ=>r ((aI,(aK,(aQ,()))),((),()))) y.1.1 y.1.2.1 y.1.2.2.1) k ((aI,(aK,(aQ,()))),((),()))
def yRD(n:Nat)(a:List (List Int))(b:List (List Int)):Option (Bool×Unit):=
  (bif (↑a.length:Int) != (↑b.length:Int)then some (Bool.false,())else (y87 n n (a) (b) ((0:Int))))
def yNT(aI:List (List Int))(aK:List (List Int))(aQ:Int)(v1:List Int):Option ((Bool×Unit)⊕Unit):=
  ((idx aK aQ).bind λ v2=>((yEw v1 v2).bind λ v3=>(bif !v3.1 then (some (Sum.inl ((Bool.false,()))))else (some (Sum.inr ())))))
def yNF(aI:List (List Int))(aK:List (List Int)):Option (Bool×Unit):=
  (some ((Bool.true,())))
theorem yEi(n:Nat)(hn:big<=n)(aI:List (List Int))(aK:List (List Int))(hx:List.length (aI) < lenMax):LeF some (yL (λ al aM aa=>yNT aI aK al aM) (λ aa=>yNF aI aK) 0 (aI) ()) (y87 n n aI aK 0):=by
  refine yP (f:=some) (W:=λ aL al aa=>y87 n aL aI aK al) (λ aL al aa=>?_) hx () n (by unfold big at hn;unfold lenMax at hx;omega)
  show LeF _ _ (yGf n (y87 n aL) aI aK al)
  exact y7 (y9 λ v1=>(y9 λ v2=>(y9 λ v3=>(y7 (y8 rfl) (y8 rfl))))) (y06 (y8 rfl))
def yQ4(a:List (List Int))(b:List (List Int)):Option (Bool×Unit):=
  (bif (↑a.length:Int) != (↑b.length:Int)then (some ((Bool.false,())))else (bif decide (List.length (a) < lenMax)then yL (λ al aM aa=>yNT (a) (b) al aM) (λ aa=>yNF (a) (b)) 0 (a) ()else none))
abbrev z01_e:Entry:={ f:=47,args:=.pair t56 (.pair t56 .unit),rS:=.pair t4 .unit,m:=λ x=>yQ4 x.1 x.2.1 }
theorem yPx:FnOK Tryz.prog z01_e:=fB Tryz.f47 (λ n x=>yRD n x.1 x.2.1) [[0,1,5]] (yF yNK eNil) λ n hn x=>(y7 (y8 rfl) (yO λ hx=>by apply yEi n hn;exact hx))
def yOl(n:Nat)(n1:Int)(least:Int)(most:Int):Option (Int×Unit):=
  (bif decide (n1 < least)then some ((z0e Bool.true (3:Int)).1,())else some ((z0e (decide (n1 > most)) (3:Int)).1,()))
def z0E(n1:Int)(least:Int)(most:Int):(Int×Unit):=
  (bif decide (n1 < least)then ((z0e Bool.true (3:Int)).1,())else ((z0e (decide (n1 > most)) (3:Int)).1,()))
abbrev yRc (n1:Int) (least:Int) (most:Int):Option (Int×Unit):=some (z0E n1 least most)
abbrev z0E_e:Entry:={ f:=90,args:=.pair t3 (.pair t3 (.pair t3 .unit)),rS:=.pair t35 .unit,m:=λ x=>yRc x.1 x.2.1 x.2.2.1 }
theorem y95:FnOK Tryz.prog z0E_e:=fF (hm:=by intro x;show some (z0E x.1 x.2.1 x.2.2.1)=yOl 0 x.1 x.2.1 x.2.2.1;unfold yOl z0E;first|rfl|simp only[yv]) 0 Tryz.f90 (λ n x=>yOl n x.1 x.2.1 x.2.2.1) [] (yF y4S eNil)
def yIv(n:Nat)(r0:List Nod->Int->Option (Int×Unit))(r3:List Nod->Int->Int->Option (Int×Unit))(aB:List Nod)(aA:Int)(aV:Int):Option (Int×Unit):=
  (bif decide (aV < aA)then ((idx aB aV).bind λ v4=>((idx aB aA).bind λ v5=>(bif v4.1==v5.1 then some ((9:Int),())else r3 aB aA (i64.wrap (aV+1)))))else ((idx aB aA).bind λ v6=>((idx aB aA).bind λ v7=>((yAD [(zo v6.2.1 (1:Int) (1000:Int)).1,(zo v7.2.2.1 (0:Int) (1024:Int)).1]).bind λ v8=>(bif v8.1 != 0 then some (v8.1,())else r0 aB (i64.wrap (aA+1)))))))
def yBK(n:Nat)(r0:List Nod->Int->Option (Int×Unit))(k:Nat)(aB:List Nod)(aA:Int)(aV:Int):Option (Int×Unit):=
  iter (λ r y=>yIv n r0 (λ aB aA aV=>r ((aB,(aA,(aV,()))),((),()))) y.1.1 y.1.2.1 y.1.2.2.1) k ((aB,(aA,(aV,()))),((),()))
def yKh(n:Nat)(r0:List Nod->Int->Option (Int×Unit))(aF:List Nod)(aO:Int):Option (Int×Unit):=
  (bif decide (aO < (↑aF.length:Int))then ((idx aF aO).bind λ v1=>((yK6 v1.1).bind λ v2=>(bif !v2.1 then some ((8:Int),())else (yBK n r0 n (aF) (aO) ((0:Int))))))else some ((0:Int),()))
def yBh(n:Nat)(k:Nat)(aF:List Nod)(aO:Int):Option (Int×Unit):=
  iter (λ r y=>yKh n (λ aF aO=>r ((aF,(aO,())),((),()))) y.1.1 y.1.2.1) k ((aF,(aO,())),((),()))
def zq_m(n:Nat)(l:List Nod):Option (Int×Unit):=
  (bif (↑l.length:Int)==0 then some ((12:Int),())else (bif decide ((↑l.length:Int) > 8)then some ((5:Int),())else (yBh n n (l) ((0:Int)))))
def yI3(aB:List Nod)(aA:Int)(aV:Int):Option (((Int×Unit)⊕Unit)⊕Unit):=
  ((idx aB aV).bind λ v4=>((idx aB aA).bind λ v5=>(bif v4.1==v5.1 then (some (Sum.inl (Sum.inl (((9:Int),())))))else (some (Sum.inr ())))))
def yIk(aB:List Nod)(aA:Int):Option ((Int×Unit)⊕Unit):=
  ((idx aB aA).bind λ v6=>((idx aB aA).bind λ v7=>((yAD [(zo v6.2.1 (1:Int) (1000:Int)).1,(zo v7.2.2.1 (0:Int) (1024:Int)).1]).bind λ v8=>(bif v8.1 != 0 then (some (Sum.inl ((v8.1,()))))else (some (Sum.inr ()))))))
theorem yIM(n:Nat)(hn:big<=n)(r0:List Nod->Int->Option (Int×Unit))(aB:List Nod)(aA:Int)(hx:(aA)<=9223372036854775807):LeF (elim some λ (aa:Unit)=>r0 aB (i64.wrap (aA+1))) (y0I (λ al aa=>yI3 aB aA al) (λ aa=>yIk aB aA) ((aA) - 0).toNat 0 ()) (yBK n r0 n aB aA 0):=by
  refine y2F (f:=(elim some λ (aa:Unit)=>r0 aB (i64.wrap (aA+1)))) (W:=λ aL al aa=>yBK n r0 aL aB aA al) (body:=(λ al aa=>yI3 aB aA al)) (fin:=(λ aa=>yIk aB aA)) (λ aL al aa=>?_) hx () n 0 (by decide) (by unfold big at hn;omega)
  show LeF _ _ (yIv n r0 (yBK n r0 aL) aB aA al)
  exact y7 (y9 λ v4=>(y9 λ v5=>(y7 (y8 rfl) (y8 rfl)))) (y06 (y9 λ v6=>(y9 λ v7=>(y9 λ v8=>(y7 (y8 rfl) (y8 rfl))))))
def yIw(aF:List Nod)(aO:Int)(v1:Nod):Option ((Int×Unit)⊕Unit):=
  ((yK6 v1.1).bind λ v2=>(bif !v2.1 then (some (Sum.inl (((8:Int),()))))else (bif decide ((aO)<=9223372036854775807)then y0I (λ al aa=>yI3 (aF) (aO) al) (λ aa=>yIk (aF) (aO)) ((aO) - 0).toNat 0 ()else none)))
def yOy(aF:List Nod):Option (Int×Unit):=
  (some (((0:Int),())))
theorem yHv(n:Nat)(hn:big<=n)(aF:List Nod)(hx:List.length (aF) < lenMax):LeF some (yL (λ al aM aa=>yIw aF al aM) (λ aa=>yOy aF) 0 (aF) ()) (yBh n n aF 0):=by
  refine yP (f:=some) (W:=λ aL al aa=>yBh n aL aF al) (λ aL al aa=>?_) hx () n (by unfold big at hn;unfold lenMax at hx;omega)
  show LeF _ _ (yKh n (yBh n aL) aF al)
  exact y7 (y9 λ v1=>(y9 λ v2=>(y7 (y8 rfl) (yO λ hx=>by apply yIM n hn;exact hx)))) (y06 (y8 rfl))
def zq_M(l:List Nod):Option (Int×Unit):=
  (bif (↑l.length:Int)==0 then (some (((12:Int),())))else (bif decide ((↑l.length:Int) > 8)then (some (((5:Int),())))else (bif decide (List.length (l) < lenMax)then yL (λ al aM aa=>yIw (l) al aM) (λ aa=>yOy (l)) 0 (l) ()else none)))
abbrev zq_e:Entry:={ f:=94,args:=.pair t22 .unit,rS:=.pair t3 .unit,m:=λ x=>zq_M x.1 }
theorem yRK:FnOK Tryz.prog zq_e:=fB Tryz.f94 (λ n x=>zq_m n x.1) [[0,3],[0,3,4]] (yF yP3 (yF yOx (yF yGM eNil))) λ n hn x=>(y7 (y8 rfl) (y7 (y8 rfl) (yO λ hx=>by apply yHv n hn;exact hx)))
def zz_m(n:Nat)(x1:Lnk)(nodes:Int):Option (Int×Unit):=
  ((yMW z0Y.1 x1.1).bind λ v0=>(bif !v0.1 then some ((13:Int),())else (bif !(z0g x1.2.1 nodes (z0l x1.1).1).1 then some ((10:Int),())else (bif !(z0g x1.2.2.1 nodes (z0l x1.1).2.1).1 then some ((10:Int),())else (bif x1.2.1==x1.2.2.1 then some ((17:Int),())else (bif (z0l x1.1).1 then ((yAD [(zo x1.2.2.2.1 (0:Int) (0:Int)).1,(zo x1.2.2.2.2.1 (1:Int) (1000:Int)).1]).bind λ v4=>some (v4.1,()))else ((yAD [(zo x1.2.2.2.1 (0:Int) (1024:Int)).1,(zo x1.2.2.2.2.1 (1:Int) (1000:Int)).1]).bind λ v5=>some (v5.1,()))))))))
def zz_M(x1:Lnk)(nodes:Int):Option (Int×Unit):=zz_m 0 x1 nodes
abbrev zz_e:Entry:={ f:=95,args:=.pair t83 (.pair t3 .unit),rS:=.pair t3 .unit,m:=λ x=>zz_M x.1 x.2.1 }
theorem yRY:FnOK Tryz.prog zz_e:=fF 0 Tryz.f95 (λ n x=>zz_m n x.1 x.2.1) [] (yF yPC (yF yPI (yF yQR (yF yQx (yF yOx (yF yGM eNil))))))
def yNm(n:Nat)(l:List Psg):Option (List (List Int)×Unit):=
  ((zC_M l λ (x:Psg×Unit)=>zw_M x.1).bind λ v0=>some (v0.1,()))
def yJX(l:List Psg):Option (List (List Int)×Unit):=yNm 0 l
abbrev z09_e:Entry:={ f:=97,args:=.pair t167 .unit,rS:=.pair t56 .unit,m:=λ x=>yJX x.1 }
theorem yNE:FnOK Tryz.prog z09_e:=fF 0 Tryz.f97 (λ n x=>yNm n x.1) [] (yF yRq (yF yRX eNil))
def yJr(n:Nat)(r0:List Nod->Int->Int->List Int->Option (List Int×Unit))(ay:List Nod)(aS:Int)(az:Int)(ar:List Int):Option (List Int×Unit):=
  (bif decide (az < aS)then ((idx ay az).bind λ v1=>((idx ar az).bind λ v2=>((ar[az.toNat]?).bind λ v3=>((zl_M (v1.1,v1.2.1,v1.2.2.1,()) v3).bind λ v4=>((idx ar az).bind λ v5=>((ar[az.toNat]?).bind λ v6=>r0 ay aS (i64.wrap (az+1)) (ar.set az.toNat v4.1)))))))else some (ar,()))
def yC2(n:Nat)(k:Nat)(ay:List Nod)(aS:Int)(az:Int)(ar:List Int):Option (List Int×Unit):=
  iter (λ r y=>yJr n (λ ay aS az ar=>r ((ay,(aS,(az,()))),((ar,()),()))) y.1.1 y.1.2.1 y.1.2.2.1 y.2.1.1) k ((ay,(aS,(az,()))),((ar,()),()))
def zX_m(n:Nat)(b:Bas)(v:List Int):Option (List Int×Unit):=
  (bif Bool.true && decide ((0:Int)<=(↑v.length:Int)) && decide ((↑v.length:Int)<=(↑memMax:Int)) && (↑v.length:Int)==(↑v.length:Int)then (yC2 n n (b.1) ((↑b.1.length:Int)) ((0:Int)) (List.take (List.replicate (↑v.length:Int).toNat (0:Int)).length v++List.drop v.length (List.replicate (↑v.length:Int).toNat (0:Int))))else none)
def yKR(ay:List Nod)(az:Int)(v1:Nod)(ar:List Int):Option ((List Int×Unit)⊕(List Int)):=
  ((idx ar az).bind λ v2=>((ar[az.toNat]?).bind λ v3=>((zl_M (v1.1,v1.2.1,v1.2.2.1,()) v3).bind λ v4=>((idx ar az).bind λ v5=>((ar[az.toNat]?).bind λ v6=>(some (Sum.inr (ar.set az.toNat v4.1))))))))
def yLo(ay:List Nod)(ar:List Int):Option (List Int×Unit):=
  (some ((ar,())))
theorem yH6(n:Nat)(hn:big<=n)(ay:List Nod)(ar:List Int)(hx:List.length (ay) < lenMax):LeF some (yL (λ al aM aa=>yKR ay al aM aa) (λ aa=>yLo ay aa) 0 (ay) ar) (yC2 n n ay (List.length (ay):Int) 0 ar):=by
  refine yP (f:=some) (W:=λ aL al aa=>yC2 n aL ay (List.length (ay):Int) al aa) (λ aL al aa=>?_) hx ar n (by unfold big at hn;unfold lenMax at hx;omega)
  show LeF _ _ (yJr n (yC2 n aL) ay (List.length (ay):Int) al aa)
  exact y7 (y9 λ v1=>(y9 λ v2=>(y9 λ v3=>(y9 λ v4=>(y9 λ v5=>(y9 λ v6=>(y8 rfl))))))) (y06 (y8 rfl))
def zX_M(b:Bas)(v:List Int):Option (List Int×Unit):=
  (bif Bool.true && decide ((0:Int)<=(↑v.length:Int)) && decide ((↑v.length:Int)<=(↑memMax:Int)) && (↑v.length:Int)==(↑v.length:Int)then (bif decide (List.length (b.1) < lenMax)then yL (λ al aM aa=>yKR (b.1) al aM aa) (λ aa=>yLo (b.1) aa) 0 (b.1) (List.take (List.replicate (↑v.length:Int).toNat (0:Int)).length v++List.drop v.length (List.replicate (↑v.length:Int).toNat (0:Int)))else none)else none)
abbrev zX_e:Entry:={ f:=98,args:=.pair t41 (.pair t26 .unit),rS:=.pair t26 .unit,m:=λ x=>zX_M x.1 x.2.1 }
theorem yPu:FnOK Tryz.prog zX_e:=fB Tryz.f98 (λ n x=>zX_m n x.1 x.2.1) [[5,15,16,17]] (yF yPS eNil) λ n hn x=>(y7 (yO λ hx=>by apply yH6 n hn;exact hx) y0H)
def y66(n:Nat)(b:Bas)(v:List Int)(c:Cnd)(x1:Lnk)(j0:Int):Option (Int×Unit):=
  ((idx b.1 j0).bind λ v1=>(bif x1.1==[(98:UInt8),97,114,114,105,101,114]then (bif !c.2.1 then some ((0:Int),())else ((idx v j0).bind λ v2=>((idx v j0).bind λ v3=>((yF5 (i64.wrap (i64.wrap (v1.2.1 * c.1) - v3)) x1.2.2.2.2.1).bind λ v4=>some (if v4.1 > i64.wrap ((0:Int) - v2)then v4.1 else i64.wrap ((0:Int) - v2),())))))else (bif x1.1==[(108:UInt8),101,97,107]then ((idx v j0).bind λ v5=>((yF5 (i64.wrap (i64.wrap (v1.2.1 * c.1) - v5)) x1.2.2.2.2.1).bind λ v6=>some (if Bool.true=Bool.true then if v6.1 > 0 then v6.1 else (0:Int)else if v6.1 < 0 then v6.1 else (0:Int),())))else (bif x1.1==[(111:UInt8),117,116,102,97,108,108]then ((idx v j0).bind λ v7=>((yF5 (i64.wrap (v7 - i64.wrap (v1.2.1 * if x1.2.2.2.1 > c.1 then x1.2.2.2.1 else c.1))) x1.2.2.2.2.1).bind λ v8=>some (if Bool.true=Bool.true then if v8.1 > 0 then v8.1 else (0:Int)else if v8.1 < 0 then v8.1 else (0:Int),())))else (bif x1.1==[(112:UInt8),117,109,112]then ((idx v j0).bind λ v9=>some (if Bool.true=Bool.true then if (if i64.wrap (v9 - i64.wrap (v1.2.1 * x1.2.2.2.1)) < x1.2.2.2.2.1 then i64.wrap (v9 - i64.wrap (v1.2.1 * x1.2.2.2.1))else x1.2.2.2.2.1) > 0 then if i64.wrap (v9 - i64.wrap (v1.2.1 * x1.2.2.2.1)) < x1.2.2.2.2.1 then i64.wrap (v9 - i64.wrap (v1.2.1 * x1.2.2.2.1))else x1.2.2.2.2.1 else (0:Int)else if (if i64.wrap (v9 - i64.wrap (v1.2.1 * x1.2.2.2.1)) < x1.2.2.2.2.1 then i64.wrap (v9 - i64.wrap (v1.2.1 * x1.2.2.2.1))else x1.2.2.2.2.1) < 0 then if i64.wrap (v9 - i64.wrap (v1.2.1 * x1.2.2.2.1)) < x1.2.2.2.2.1 then i64.wrap (v9 - i64.wrap (v1.2.1 * x1.2.2.2.1))else x1.2.2.2.2.1 else (0:Int),()))else ((idx v j0).bind λ v10=>((yF5 (i64.wrap (v10 - i64.wrap (v1.2.1 * x1.2.2.2.1))) x1.2.2.2.2.1).bind λ v11=>some (if Bool.true=Bool.true then if v11.1 > 0 then v11.1 else (0:Int)else if v11.1 < 0 then v11.1 else (0:Int),()))))))))
def yPf(n:Nat)(b:Bas)(v:List Int)(c:Cnd)(x1:Lnk):Option (Int×Unit):=
  (bif decide (x1.2.1 < 0)then (y66 n b v c x1 (x1.2.2.1))else (y66 n b v c x1 (x1.2.1)))
def yIW(b:Bas)(v:List Int)(c:Cnd)(x1:Lnk):Option (Int×Unit):=yPf 0 b v c x1
def zS_m(n:Nat)(x1:Int×Int×Unit)(check:Int×Unit->Option (Int×Unit)):Option (Int×Unit):=
  ((check (x1.1,())).bind λ v0=>((check (x1.2.1,())).bind λ v1=>((y15 [v0.1,v1.1,(z0e (decide (x1.1 > x1.2.1)) (11:Int)).1]).bind λ v2=>some (v2.1,()))))
def zS_M(x1:Int×Int×Unit)(check:Int×Unit->Option (Int×Unit)):Option (Int×Unit):=zS_m 0 x1 check
abbrev zS_e:Entry:={ f:=158,args:=.pair t96 (.pair t176 .unit),rS:=.pair t35 .unit,m:=λ x=>zS_M x.1 x.2.1 }
theorem yO9:FnOK Tryz.prog zS_e:=fF 0 Tryz.f158 (λ n x=>zS_m n x.1 x.2.1) [] (yF y4S (yF y4V eNil))
def yOn(n:Nat)(x1:Int×Int×Unit)(p1:Int):Option (Int×Unit):=
  ((idx (z0d x1).1 p1).bind λ v0=>some (v0,()))
def yMx(x1:Int×Int×Unit)(p1:Int):Option (Int×Unit):=yOn 0 x1 p1
abbrev z0P_e:Entry:={ f:=165,args:=.pair t96 (.pair (.ref t3) .unit),rS:=.pair t3 .unit,m:=λ x=>yMx x.1 x.2.1 }
theorem yQJ:FnOK Tryz.prog z0P_e:=fF 0 Tryz.f165 (λ n x=>yOn n x.1 x.2.1) [] (yF yN2 eNil)
def zU_m(n:Nat)(p:Lnk×Int×Int×Int×Bool×Unit):Option (Int×Unit):=
  ((yM9 (i64.wrap (i64.wrap (p.2.2.1 * p.2.2.2.1) - p.2.1)) p.1.2.2.2.2.1).bind λ v0=>some (v0.1,()))
def zU_M(p:Lnk×Int×Int×Int×Bool×Unit):Option (Int×Unit):=zU_m 0 p
abbrev zU_e:Entry:={ f:=180,args:=.pair t230 .unit,rS:=.pair t3 .unit,m:=λ x=>zU_M x.1 }
theorem yPQ:FnOK Tryz.prog zU_e:=fF 0 Tryz.f180 (λ n x=>zU_m n x.1) [] (yF yNS eNil)
def zm_m(n:Nat)(p:Lnk×Int×Int×Int×Bool×Unit)(level:Int):Option (Int×Unit):=
  ((yM9 (i64.wrap (p.2.1 - i64.wrap (p.2.2.1 * level))) p.1.2.2.2.2.1).bind λ v0=>some (if Bool.true=Bool.true then if v0.1 > 0 then v0.1 else (0:Int)else if v0.1 < 0 then v0.1 else (0:Int),()))
def zm_M(p:Lnk×Int×Int×Int×Bool×Unit)(level:Int):Option (Int×Unit):=zm_m 0 p level
abbrev zm_e:Entry:={ f:=182,args:=.pair t230 (.pair t3 .unit),rS:=.pair t3 .unit,m:=λ x=>zm_M x.1 x.2.1 }
theorem yQS:FnOK Tryz.prog zm_e:=fF 0 Tryz.f182 (λ n x=>zm_m n x.1 x.2.1) [] (yF yNS eNil)
end
end Go.Tw
end
section
set_option maxRecDepth 1000000
namespace Go.Tw
open Go.Vx Go.Vx.B Go.Proofs
noncomputable section
def yJY(n:Nat)(r1:Bas->Int->Option (Int×Unit))(aG:Bas)(aX:Int):Option (Int×Unit):=
  (bif decide (aX < (↑aG.2.1.length:Int))then ((idx aG.2.1 aX).bind λ v2=>((zz_M v2 (↑aG.1.length:Int)).bind λ v3=>(bif v3.1 != 0 then some (v3.1,())else r1 aG (i64.wrap (aX+1)))))else some ((0:Int),()))
def yCJ(n:Nat)(k:Nat)(aG:Bas)(aX:Int):Option (Int×Unit):=
  iter (λ r y=>yJY n (λ aG aX=>r ((aG,(aX,())),((),()))) y.1.1 y.1.2.1) k ((aG,(aX,())),((),()))
def zp_m(n:Nat)(b:Bas):Option (Int×Unit):=
  ((zq_M b.1).bind λ v0=>(bif v0.1 != 0 then some (v0.1,())else (bif decide ((↑b.2.1.length:Int) > 16)then some ((5:Int),())else (yCJ n n (b) ((0:Int))))))
def yNo(aG:Bas)(aX:Int)(v2:Lnk):Option ((Int×Unit)⊕Unit):=
  ((zz_M v2 (↑aG.1.length:Int)).bind λ v3=>(bif v3.1 != 0 then (some (Sum.inl ((v3.1,()))))else (some (Sum.inr ()))))
def yPy(aG:Bas):Option (Int×Unit):=
  (some (((0:Int),())))
theorem yHE(n:Nat)(hn:big<=n)(aG:Bas)(hx:List.length (aG.2.1) < lenMax):LeF some (yL (λ al aM aa=>yNo aG al aM) (λ aa=>yPy aG) 0 (aG.2.1) ()) (yCJ n n aG 0):=by
  refine yP (f:=some) (W:=λ aL al aa=>yCJ n aL aG al) (λ aL al aa=>?_) hx () n (by unfold big at hn;unfold lenMax at hx;omega)
  show LeF _ _ (yJY n (yCJ n aL) aG al)
  exact y7 (y9 λ v2=>(y9 λ v3=>(y7 (y8 rfl) (y8 rfl)))) (y06 (y8 rfl))
def zp_M(b:Bas):Option (Int×Unit):=
  ((zq_M b.1).bind λ v0=>(bif v0.1 != 0 then (some ((v0.1,())))else (bif decide ((↑b.2.1.length:Int) > 16)then (some (((5:Int),())))else (bif decide (List.length (b.2.1) < lenMax)then yL (λ al aM aa=>yNo (b) al aM) (λ aa=>yPy (b)) 0 (b.2.1) ()else none))))
abbrev zp_e:Entry:={ f:=24,args:=.pair t25 .unit,rS:=.pair t3 .unit,m:=λ x=>zp_M x.1 }
theorem yR2:FnOK Tryz.prog zp_e:=fB Tryz.f24 (λ n x=>zp_m n x.1) [[1,4]] (yF yRK (yF yRY eNil)) λ n hn x=>(y9 λ v0=>(y7 (y8 rfl) (y7 (y8 rfl) (yO λ hx=>by apply yHE n hn;exact hx))))
def yCD(aY:Bas)(aZ:Cnd)(aT:Int)(aR:List Int)(v9:Int×Unit)(j19:List Int):Option ((List Int×List Int×Int×Unit)⊕(List Int×List Int)):=
  ((yMk j19).bind λ v20=>(bif v20.1 then (some (Sum.inl (([],[],(4:Int),()))))else (bif decide (aR.length+(1:Nat)<=memMax)then (some (Sum.inr ((j19),(aR++[v9.1]))))else none)))
def y6x(aY:Bas)(aZ:Cnd)(aT:Int)(aR:List Int)(v8:Lnk)(v9:Int×Unit)(j14:List Int):Option ((List Int×List Int×Int×Unit)⊕(List Int×List Int)):=
  (bif decide (v8.2.2.1 >= 0)then ((idx j14 v8.2.2.1).bind λ v15=>((j14[v8.2.2.1.toNat]?).bind λ v16=>((idx j14 v8.2.2.1).bind λ v17=>((j14[v8.2.2.1.toNat]?).bind λ v18=>(yCD aY aZ aT aR v9 (j14.set v8.2.2.1.toNat (i64.wrap (v16+v9.1))))))))else (yCD aY aZ aT aR v9 (j14)))
def yGF(aY:Bas)(aZ:Cnd)(aT:Int)(v8:Lnk)(aW:List Int)(aR:List Int):Option ((List Int×List Int×Int×Unit)⊕(List Int×List Int)):=
  ((yIW aY aW aZ (v8.1,v8.2.1,v8.2.2.1,v8.2.2.2.1,v8.2.2.2.2.1,())).bind λ v9=>(bif decide (v8.2.1 >= 0)then ((idx aW v8.2.1).bind λ v10=>((aW[v8.2.1.toNat]?).bind λ v11=>((idx aW v8.2.1).bind λ v12=>((aW[v8.2.1.toNat]?).bind λ v13=>(y6x aY aZ aT aR v8 v9 (aW.set v8.2.1.toNat (i64.wrap (v11 - v9.1))))))))else (y6x aY aZ aT aR v8 v9 (aW))))
def yNP(aY:Bas)(aZ:Cnd)(aW:List Int)(aR:List Int):Option (List Int×List Int×Int×Unit):=
  (some ((aR,aW,(0:Int),())))
def yGL(av:Bas)(aD:Cnd)(aU:Int)(ar:List Int):Option ((List Int×List Int×Int×Unit)⊕(List Int)):=
  ((idx ar aU).bind λ v1=>((ar[aU.toNat]?).bind λ v2=>((idx aD.2.2.1 aU).bind λ v3=>((idx ar aU).bind λ v4=>((ar[aU.toNat]?).bind λ v5=>(some (Sum.inr (ar.set aU.toNat (i64.wrap (v2+v3))))))))))
def y8v(av:Bas)(aD:Cnd)(ar:List Int):Option (List Int×List Int×Int×Unit):=
  ((yMk ar).bind λ v6=>(bif v6.1 then (some (([],[],(4:Int),())))else (bif decide (List.length (av.2.1) < lenMax)then yL (λ al aM aa=>yGF (av) (aD) al aM aa.1 aa.2) (λ aa=>yNP (av) (aD) aa.1 aa.2) 0 (av.2.1) ((ar),([]))else none)))
def yA0(b:Bas)(v:List Int)(c:Cnd):Option (List Int×List Int×Int×Unit):=
  (bif decide ((0:Nat)+v.length<=memMax)then (bif decide (((↑v.length:Int))<=9223372036854775807)then yCE (λ aa=>(↑aa.length:Int)) (λ al aa=>yGL (b) (c) al aa) (λ aa=>y8v (b) (c) aa) (((↑v.length:Int)) - 0).toNat 0 (v)else none)else none)
def yLN(n:Nat)(r1:Bas->List Int->Int->Int->List Int->Option (List Int×Unit))(aJ:Bas)(au:List Int)(aP:Int)(aE:Int)(aH:List Int):Option (List Int×Unit):=
  (bif decide (aE < aP)then ((idx au aE).bind λ v2=>((idx aJ.1 aE).bind λ v3=>(bif decide (v2 > v3.2.2.1)then (bif decide (aH.length+(1:Nat)<=memMax)then r1 aJ au aP (i64.wrap (aE+1)) (aH++[aE])else none)else r1 aJ au aP (i64.wrap (aE+1)) aH)))else some (aH,()))
def yC0(n:Nat)(k:Nat)(aJ:Bas)(au:List Int)(aP:Int)(aE:Int)(aH:List Int):Option (List Int×Unit):=
  iter (λ r y=>yLN n (λ aJ au aP aE aH=>r ((aJ,(au,(aP,(aE,())))),((aH,()),()))) y.1.1 y.1.2.1 y.1.2.2.1 y.1.2.2.2.1 y.2.1.1) k ((aJ,(au,(aP,(aE,())))),((aH,()),()))
def zd_m(n:Nat)(b:Bas)(v:List Int):Option (List Int×Unit):=
  ((zX_M b v).bind λ v0=>(yC0 n n (b) (v0.1) ((↑v0.1.length:Int)) ((0:Int)) ([])))
def yI8(aJ:Bas)(au:List Int)(aE:Int)(v2:Int)(aH:List Int):Option ((List Int×Unit)⊕(List Int)):=
  ((idx aJ.1 aE).bind λ v3=>(bif decide (v2 > v3.2.2.1)then (bif decide (aH.length+(1:Nat)<=memMax)then (some (Sum.inr (aH++[aE])))else none)else (some (Sum.inr (aH)))))
def yOS(aJ:Bas)(au:List Int)(aH:List Int):Option (List Int×Unit):=
  (some ((aH,())))
theorem yIU(n:Nat)(hn:big<=n)(aJ:Bas)(au:List Int)(aH:List Int)(hx:List.length (au) < lenMax):LeF some (yL (λ al aM aa=>yI8 aJ au al aM aa) (λ aa=>yOS aJ au aa) 0 (au) aH) (yC0 n n aJ au (List.length (au):Int) 0 aH):=by
  refine yP (f:=some) (W:=λ aL al aa=>yC0 n aL aJ au (List.length (au):Int) al aa) (λ aL al aa=>?_) hx aH n (by unfold big at hn;unfold lenMax at hx;omega)
  show LeF _ _ (yLN n (yC0 n aL) aJ au (List.length (au):Int) al aa)
  exact y7 (y9 λ v2=>(y9 λ v3=>(y7 (y7 (y8 rfl) y0H) (y8 rfl)))) (y06 (y8 rfl))
def zd_M(b:Bas)(v:List Int):Option (List Int×Unit):=
  ((zX_M b v).bind λ v0=>(bif decide (List.length (v0.1) < lenMax)then yL (λ al aM aa=>yI8 (b) (v0.1) al aM aa) (λ aa=>yOS (b) (v0.1) aa) 0 (v0.1) ([])else none))
abbrev zd_e:Entry:={ f:=99,args:=.pair t41 (.pair t26 .unit),rS:=.pair t26 .unit,m:=λ x=>zd_M x.1 x.2.1 }
theorem yQp:FnOK Tryz.prog zd_e:=fB (mu:=[5]) Tryz.f99 (λ n x=>zd_m n x.1 x.2.1) [[2,5,10,11,12]] (yF yPu eNil) λ n hn x=>(y9 λ v0=>(yO λ hx=>by apply yIU n hn;exact hx))
def yOw(n:Nat)(l:List (Int×Int×Unit))(upper:Int):Option (List Int×Unit):=
  ((zD_M l λ (x:(Int×Int×Unit)×Unit)=>yMx x.1 upper).bind λ v0=>some (v0.1,()))
def yBJ(l:List (Int×Int×Unit))(upper:Int):Option (List Int×Unit):=yOw 0 l upper
abbrev z0j_e:Entry:={ f:=119,args:=.pair t97 (.pair t3 .unit),rS:=.pair t26 .unit,m:=λ x=>yBJ x.1 x.2.1 }
theorem yK8:FnOK Tryz.prog z0j_e:=fF 0 Tryz.f119 (λ n x=>yOw n x.1 x.2.1) [] (yF yQJ (yF yRp eNil))
def zv_m(n:Nat)(n1:Int):Option (Int×Unit):=
  some ((z0E n1 (-1024:Int) (1024:Int)).1,())
def zv(n1:Int):(Int×Unit):=
  ((z0E n1 (-1024:Int) (1024:Int)).1,())
abbrev zv_M (n1:Int):Option (Int×Unit):=some (zv n1)
abbrev zv_e:Entry:={ f:=137,args:=.pair t3 .unit,rS:=.pair t35 .unit,m:=λ x=>zv_M x.1 }
theorem yQr:FnOK Tryz.prog zv_e:=fF (hm:=by intro x;show some (zv x.1)=zv_m 0 x.1;unfold zv_m zv;first|rfl|simp only[yv]) 0 Tryz.f137 (λ n x=>zv_m n x.1) [] (yF y95 eNil)
def zf_m(n:Nat)(n1:Int):Option (Int×Unit):=
  some ((z0E n1 (0:Int) (100000:Int)).1,())
def zf(n1:Int):(Int×Unit):=
  ((z0E n1 (0:Int) (100000:Int)).1,())
abbrev zf_M (n1:Int):Option (Int×Unit):=some (zf n1)
abbrev zf_e:Entry:={ f:=139,args:=.pair t3 .unit,rS:=.pair t35 .unit,m:=λ x=>zf_M x.1 }
theorem yQE:FnOK Tryz.prog zf_e:=fF (hm:=by intro x;show some (zf x.1)=zf_m 0 x.1;unfold zf_m zf;first|rfl|simp only[yv]) 0 Tryz.f139 (λ n x=>zf_m n x.1) [] (yF y95 eNil)
def zG_m(n:Nat)(n1:Int):Option (Int×Unit):=
  some ((z0E n1 (0:Int) (100000000:Int)).1,())
def zG(n1:Int):(Int×Unit):=
  ((z0E n1 (0:Int) (100000000:Int)).1,())
abbrev zG_M (n1:Int):Option (Int×Unit):=some (zG n1)
abbrev zG_e:Entry:={ f:=151,args:=.pair t3 .unit,rS:=.pair t35 .unit,m:=λ x=>zG_M x.1 }
theorem yQz:FnOK Tryz.prog zG_e:=fF (hm:=by intro x;show some (zG x.1)=zG_m 0 x.1;unfold zG_m zG;first|rfl|simp only[yv]) 0 Tryz.f151 (λ n x=>zG_m n x.1) [] (yF y95 eNil)
def zO_m(n:Nat)(n1:Int):Option (Int×Unit):=
  some ((z0E n1 (0:Int) (100000000:Int)).1,())
def zO(n1:Int):(Int×Unit):=
  ((z0E n1 (0:Int) (100000000:Int)).1,())
abbrev zO_M (n1:Int):Option (Int×Unit):=some (zO n1)
abbrev zO_e:Entry:={ f:=160,args:=.pair t3 .unit,rS:=.pair t35 .unit,m:=λ x=>zO_M x.1 }
theorem yRa:FnOK Tryz.prog zO_e:=fF (hm:=by intro x;show some (zO x.1)=zO_m 0 x.1;unfold zO_m zO;first|rfl|simp only[yv]) 0 Tryz.f160 (λ n x=>zO_m n x.1) [] (yF y95 eNil)
def zP_m(n:Nat)(x1:Int×Int×Unit)(p1:Int×Unit->Option (Int×Unit)):Option (Int×Unit):=
  ((zS_M x1 p1).bind λ v0=>some (v0.1,()))
def zP_M(x1:Int×Int×Unit)(p1:Int×Unit->Option (Int×Unit)):Option (Int×Unit):=zP_m 0 x1 p1
abbrev zP_e:Entry:={ f:=161,args:=.pair t96 (.pair (.ref t176) .unit),rS:=.pair t35 .unit,m:=λ x=>zP_M x.1 x.2.1 }
theorem yRe:FnOK Tryz.prog zP_e:=fF 0 Tryz.f161 (λ n x=>zP_m n x.1 x.2.1) [] (yF yO9 eNil)
def zT_m(n:Nat)(p:Lnk×Int×Int×Int×Bool×Unit):Option (Int×Unit):=
  (bif !p.2.2.2.2.1 then some ((0:Int),())else ((zU_M p).bind λ v0=>some (if v0.1 > i64.wrap ((0:Int) - p.2.1)then v0.1 else i64.wrap ((0:Int) - p.2.1),())))
def zT_M(p:Lnk×Int×Int×Int×Bool×Unit):Option (Int×Unit):=zT_m 0 p
abbrev zT_e:Entry:={ f:=178,args:=.pair t230 .unit,rS:=.pair t3 .unit,m:=λ x=>zT_M x.1 }
theorem yR4:FnOK Tryz.prog zT_e:=fF 0 Tryz.f178 (λ n x=>zT_m n x.1) [] (yF yPQ eNil)
def yO8(n:Nat)(p:Lnk×Int×Int×Int×Bool×Unit):Option (Int×Unit):=
  ((zU_M p).bind λ v0=>some (if Bool.true=Bool.true then if v0.1 > 0 then v0.1 else (0:Int)else if v0.1 < 0 then v0.1 else (0:Int),()))
def yJM(p:Lnk×Int×Int×Int×Bool×Unit):Option (Int×Unit):=yO8 0 p
abbrev z05_e:Entry:={ f:=179,args:=.pair t230 .unit,rS:=.pair t3 .unit,m:=λ x=>yJM x.1 }
theorem yPA:FnOK Tryz.prog z05_e:=fF 0 Tryz.f179 (λ n x=>yO8 n x.1) [] (yF yPQ eNil)
def yNq(n:Nat)(p:Lnk×Int×Int×Int×Bool×Unit):Option (Int×Unit):=
  ((zm_M p (if p.1.2.2.2.1 > p.2.2.2.1 then p.1.2.2.2.1 else p.2.2.2.1)).bind λ v0=>some (v0.1,()))
def yJa(p:Lnk×Int×Int×Int×Bool×Unit):Option (Int×Unit):=yNq 0 p
abbrev z06_e:Entry:={ f:=181,args:=.pair t230 .unit,rS:=.pair t3 .unit,m:=λ x=>yJa x.1 }
theorem yQh:FnOK Tryz.prog z06_e:=fF 0 Tryz.f181 (λ n x=>yNq n x.1) [] (yF yQS eNil)
def yOa(n:Nat)(p:Lnk×Int×Int×Int×Bool×Unit):Option (Int×Unit):=
  ((zm_M p p.1.2.2.2.1).bind λ v0=>some (v0.1,()))
def yJf(p:Lnk×Int×Int×Int×Bool×Unit):Option (Int×Unit):=yOa 0 p
abbrev z08_e:Entry:={ f:=184,args:=.pair t230 .unit,rS:=.pair t3 .unit,m:=λ x=>yJf x.1 }
theorem yQb:FnOK Tryz.prog z08_e:=fF 0 Tryz.f184 (λ n x=>yOa n x.1) [] (yF yQS eNil)
end
end Go.Tw
end
section
set_option maxRecDepth 1000000
namespace Go.Tw
open Go.Vx Go.Vx.B Go.Proofs
noncomputable section
def zF_m(n:Nat)(b:Bas)(c:Cnd):Option (Int×Unit):=
  ((zH_M c.2.2.1 λ (x:Int×Unit)=>zf_M x.1).bind λ v0=>((y15 v0.1).bind λ v1=>((y15 [(zv c.1).1,(z0e ((↑c.2.2.1.length:Int) != (↑b.1.length:Int)) (2:Int)).1,v1.1]).bind λ v2=>some (v2.1,()))))
def zF_M(b:Bas)(c:Cnd):Option (Int×Unit):=zF_m 0 b c
abbrev zF_e:Entry:={ f:=88,args:=.pair t41 (.pair t44 .unit),rS:=.pair t35 .unit,m:=λ x=>zF_M x.1 x.2.1 }
theorem yPm:FnOK Tryz.prog zF_e:=fF 0 Tryz.f88 (λ n x=>zF_m n x.1 x.2.1) [] (yF yQr (yF y4S (yF yPX (yF yQE (yF y4V eNil)))))
def zJ_m(n:Nat)(b:Bas)(v:List Int):Option (Int×Unit):=
  ((zH_M v λ (x:Int×Unit)=>zG_M x.1).bind λ v0=>((y15 v0.1).bind λ v1=>((y15 [(z0e ((↑v.length:Int) != (↑b.1.length:Int)) (2:Int)).1,v1.1]).bind λ v2=>some (v2.1,()))))
def zJ_M(b:Bas)(v:List Int):Option (Int×Unit):=zJ_m 0 b v
abbrev zJ_e:Entry:={ f:=104,args:=.pair t41 (.pair t26 .unit),rS:=.pair t35 .unit,m:=λ x=>zJ_M x.1 x.2.1 }
theorem yRi:FnOK Tryz.prog zJ_e:=fF 0 Tryz.f104 (λ n x=>zJ_m n x.1 x.2.1) [] (yF y4S (yF yPX (yF yQz (yF y4V eNil))))
abbrev yOC:Ty:=.unit
abbrev yPF:Ty:=.pair t222 .unit
def yQl:G:={ T:=T,E:=[zT_e,z05_e,z06_e,z07_e,z08_e],mU:=[],fz:=[] }
def yR5:List (List Nat):=[]
def yN7(n:Nat):Ann:={ keep:=yR5,fuel:=n,inl:=[],deep:=0 }
def yMi(n:Nat)  : Option (List (List UInt8×List Bool×((Lnk×Int×Int×Int×Bool×Unit)×Unit->Option (Int×Unit))×Unit)×Unit):=
  some ([([(98:UInt8),97,114,114,105,101,114],[Bool.true,Bool.false],λ (x:(Lnk×Int×Int×Int×Bool×Unit)×Unit)=>zT_M x.1,()),([(108:UInt8),101,97,107],[Bool.true,Bool.false],λ (x:(Lnk×Int×Int×Int×Bool×Unit)×Unit)=>yJM x.1,()),([(111:UInt8),117,116,102,97,108,108],[Bool.false,Bool.true],λ (x:(Lnk×Int×Int×Int×Bool×Unit)×Unit)=>yJa x.1,()),([(112:UInt8),117,109,112],[Bool.false,Bool.false],λ (x:(Lnk×Int×Int×Int×Bool×Unit)×Unit)=>yO3 x.1,()),([(119:UInt8),101,105,114],[Bool.false,Bool.false],λ (x:(Lnk×Int×Int×Int×Bool×Unit)×Unit)=>yJf x.1,())],())
theorem yPi(n:Nat)(x:yOC.den):runF yQl (yN7 n) Tryz.f141 yOC yPF x=yMi n:=by kernel_rfl
def z0S  : (List (List UInt8×List Bool×((Lnk×Int×Int×Int×Bool×Unit)×Unit->Option (Int×Unit))×Unit)×Unit):=
  ([([(98:UInt8),97,114,114,105,101,114],[Bool.true,Bool.false],λ (x:(Lnk×Int×Int×Int×Bool×Unit)×Unit)=>zT_M x.1,()),([(108:UInt8),101,97,107],[Bool.true,Bool.false],λ (x:(Lnk×Int×Int×Int×Bool×Unit)×Unit)=>yJM x.1,()),([(111:UInt8),117,116,102,97,108,108],[Bool.false,Bool.true],λ (x:(Lnk×Int×Int×Int×Bool×Unit)×Unit)=>yJa x.1,()),([(112:UInt8),117,109,112],[Bool.false,Bool.false],λ (x:(Lnk×Int×Int×Int×Bool×Unit)×Unit)=>yO3 x.1,()),([(119:UInt8),101,105,114],[Bool.false,Bool.false],λ (x:(Lnk×Int×Int×Int×Bool×Unit)×Unit)=>yJf x.1,())],())
abbrev yPE  : Option (List (List UInt8×List Bool×((Lnk×Int×Int×Int×Bool×Unit)×Unit->Option (Int×Unit))×Unit)×Unit):=some (z0S)
theorem yNx(y:List (List UInt8×List Bool×((Lnk×Int×Int×Int×Bool×Unit)×Unit->Option (Int×Unit))×Unit)×Unit)(h:yPE=some y):∃ n,yMi n=some y:=
  ⟨0,by rw[<- h];show yMi 0=some (z0S);unfold yMi z0S;first|rfl|(simp only[yv];done)|(simp only[yv];rfl)⟩
def z0S_e:Entry:={ f:=141,args:=yOC,rS:=yPF,m:=λ x=>yPE }
theorem yNQ:FnOK Tryz.prog z0S_e:=yJ4 (g:=yQl) (fn:=Tryz.f141) yBA yH2 (yF yR4 (yF yPA (yF yQh (yF yQB (yF yQb eNil))))) (by kernel_rfl) (by kernel_rfl) (by kernel_rfl) (λ x y h=>let ⟨n,hn⟩:=yNx y h;⟨yN7 n,iNil,(yPi n x).trans hn⟩)
def zb_m(n:Nat)(r1:Rng)(upper:Int):Option (Cnd×Unit):=
  ((idx (z0d r1.1).1 upper).bind λ v0=>((yBJ r1.2.2.1 upper).bind λ v1=>some ((v0,r1.2.1,v1.1,()),())))
def zb_M(r1:Rng)(upper:Int):Option (Cnd×Unit):=zb_m 0 r1 upper
abbrev zb_e:Entry:={ f:=154,args:=.pair t104 (.pair t3 .unit),rS:=.pair t44 .unit,m:=λ x=>zb_M x.1 x.2.1 }
theorem yQC:FnOK Tryz.prog zb_e:=fF 0 Tryz.f154 (λ n x=>zb_m n x.1 x.2.1) [] (yF yN2 (yF yK8 eNil))
def zI_m(n:Nat)(x1:Int×Int×Unit):Option (Int×Unit):=
  ((zS_M x1 λ (x:Int×Unit)=>zf_M x.1).bind λ v0=>some (v0.1,()))
def zI_M(x1:Int×Int×Unit):Option (Int×Unit):=zI_m 0 x1
abbrev zI_e:Entry:={ f:=157,args:=.pair t96 .unit,rS:=.pair t35 .unit,m:=λ x=>zI_M x.1 }
theorem yRk:FnOK Tryz.prog zI_e:=fF 0 Tryz.f157 (λ n x=>zI_m n x.1) [] (yF yO9 (yF yQE eNil))
end
end Go.Tw
end
section
set_option maxRecDepth 1000000
namespace Go.Tw
open Go.Vx Go.Vx.B Go.Proofs
noncomputable section
def il140:Inl:={ f:=140,fn:=Tryz.f140,keep:=[],mU:=[],fz:=[] }
theorem yMX:y31 Tryz.prog il140:=⟨by kernel_rfl,by kernel_rfl,λ e0 h=>by cases (show (none:Option LibK)=some e0 from h)⟩
def y7l(n:Nat)(r12:Bas->Cnd->List (List UInt8×List Bool×((Lnk×Int×Int×Int×Bool×Unit)×Unit->Option (Int×Unit))×Unit)->List Lnk->Int->Int->Bool->List Int->List Int->Option (List Int×Option (List Int)×Bool×Unit))(aj:Bas)(ah:Cnd)(a7:List (List UInt8×List Bool×((Lnk×Int×Int×Int×Bool×Unit)×Unit->Option (Int×Unit))×Unit))(a8:List Lnk)(aC:Int)(ai:Int)(ac:List Int)(v13:Lnk)(v17:Int×Unit)(j26:Bool)(j27:List Int):Option (List Int×Option (List Int)×Bool×Unit):=
  (bif v13.2.2.1 != (-1:Int)then ((idx j27 v13.2.2.1).bind λ v28=>((j27[v13.2.2.1.toNat]?).bind λ v29=>((idx j27 v13.2.2.1).bind λ v30=>((j27[v13.2.2.1.toNat]?).bind λ v31=>(bif j26 then ((idx (j27.set v13.2.2.1.toNat (i64.wrap (v29+v17.1))) v13.2.2.1).bind λ v32=>(((j27.set v13.2.2.1.toNat (i64.wrap (v29+v17.1)))[v13.2.2.1.toNat]?).bind λ v33=>(bif decide (ac.length+(1:Nat)<=memMax)then r12 aj ah a7 a8 aC (i64.wrap (ai+1)) (decide (v33<=100000000)) (ac++[v17.1]) (j27.set v13.2.2.1.toNat (i64.wrap (v29+v17.1)))else none)))else (bif decide (ac.length+(1:Nat)<=memMax)then r12 aj ah a7 a8 aC (i64.wrap (ai+1)) Bool.false (ac++[v17.1]) (j27.set v13.2.2.1.toNat (i64.wrap (v29+v17.1)))else none))))))else (bif decide (ac.length+(1:Nat)<=memMax)then r12 aj ah a7 a8 aC (i64.wrap (ai+1)) j26 (ac++[v17.1]) j27 else none))
def yFx(n:Nat)(r12:Bas->Cnd->List (List UInt8×List Bool×((Lnk×Int×Int×Int×Bool×Unit)×Unit->Option (Int×Unit))×Unit)->List Lnk->Int->Int->Bool->List Int->List Int->Option (List Int×Option (List Int)×Bool×Unit))(aj:Bas)(ah:Cnd)(a7:List (List UInt8×List Bool×((Lnk×Int×Int×Int×Bool×Unit)×Unit->Option (Int×Unit))×Unit))(a8:List Lnk)(aC:Int)(ai:Int)(ak:Bool)(ac:List Int)(ae:List Int):Option (List Int×Option (List Int)×Bool×Unit):=
  (bif decide (ai < aC)then ((idx a8 ai).bind λ v13=>((idx ae (zu (v13.1,v13.2.1,v13.2.2.1,v13.2.2.2.1,v13.2.2.2.2.1,())).1).bind λ v14=>((ae[(zu (v13.1,v13.2.1,v13.2.2.1,v13.2.2.2.1,v13.2.2.2.2.1,())).1.toNat]?).bind λ v15=>((idx aj.1 (zu (v13.1,v13.2.1,v13.2.2.1,v13.2.2.2.1,v13.2.2.2.2.1,())).1).bind λ v16=>((((yZ Ty.str ((Ty.arr (nat_lit 2) Ty.bool).pair (((((Ty.str.pair ((Ty.int i64).pair ((Ty.int i64).pair ((Ty.int i64).pair ((Ty.int i64).pair Ty.unit))))).pair ((Ty.int i64).pair ((Ty.int i64).pair ((Ty.int i64).pair (Ty.bool.pair Ty.unit))))).pair Ty.unit).func ((Ty.int i64).pair Ty.unit)).pair Ty.unit)) a7 v13.1).getD ([Bool.false,Bool.false],λ (x:(((Ty.str.pair ((Ty.int i64).pair ((Ty.int i64).pair ((Ty.int i64).pair ((Ty.int i64).pair Ty.unit))))).pair ((Ty.int i64).pair ((Ty.int i64).pair ((Ty.int i64).pair (Ty.bool.pair Ty.unit))))).pair Ty.unit).den)=>Option.none,())).2.1 (((v13.1,v13.2.1,v13.2.2.1,v13.2.2.2.1,v13.2.2.2.2.1,()),v15,v16.2.1,ah.1,ah.2.1,()),())).bind λ v17=>(bif v13.2.1 != (-1:Int)then ((idx ae v13.2.1).bind λ v18=>((ae[v13.2.1.toNat]?).bind λ v19=>((idx ae v13.2.1).bind λ v20=>((ae[v13.2.1.toNat]?).bind λ v21=>(bif ak then ((idx (ae.set v13.2.1.toNat (i64.wrap (v19+i64.wrap ((0:Int) - v17.1)))) v13.2.1).bind λ v22=>(((ae.set v13.2.1.toNat (i64.wrap (v19+i64.wrap ((0:Int) - v17.1))))[v13.2.1.toNat]?).bind λ v23=>(y7l n r12 aj ah a7 a8 aC ai ac v13 v17 (decide (v23<=100000000)) (ae.set v13.2.1.toNat (i64.wrap (v19+i64.wrap ((0:Int) - v17.1)))))))else (y7l n r12 aj ah a7 a8 aC ai ac v13 v17 (Bool.false) (ae.set v13.2.1.toNat (i64.wrap (v19+i64.wrap ((0:Int) - v17.1))))))))))else (y7l n r12 aj ah a7 a8 aC ai ac v13 v17 (ak) (ae))))))))else some (ac,some ae,ak,()))
def y7z(n:Nat)(k:Nat)(aj:Bas)(ah:Cnd)(a7:List (List UInt8×List Bool×((Lnk×Int×Int×Int×Bool×Unit)×Unit->Option (Int×Unit))×Unit))(a8:List Lnk)(aC:Int)(ai:Int)(ak:Bool)(ac:List Int)(ae:List Int):Option (List Int×Option (List Int)×Bool×Unit):=
  iter (λ r y=>yFx n (λ aj ah a7 a8 aC ai ak ac ae=>r ((aj,(ah,((),(a7,(a8,(aC,(ai,()))))))),(((),((ak,()),(ac,(ae,())))),()))) y.1.1 y.1.2.1 y.1.2.2.2.1 y.1.2.2.2.2.1 y.1.2.2.2.2.2.1 y.1.2.2.2.2.2.2.1 y.2.1.2.1.1 y.2.1.2.2.1 y.2.1.2.2.2.1) k ((aj,(ah,((),(a7,(a8,(aC,(ai,()))))))),(((),((ak,()),(ac,(ae,())))),()))
def yLM(n:Nat)(r0:Bas->Cnd->List Int->Int->Int->Bool->List Int->Option (List Int×Option (List Int)×Bool×Unit))(av:Bas)(aD:Cnd)(aq:List Int)(aN:Int)(af:Int)(am:Bool)(ax:List Int):Option (List Int×Option (List Int)×Bool×Unit):=
  (bif decide (af < aN)then ((idx aq af).bind λ v1=>(bif af != (-1:Int)then ((idx ax af).bind λ v2=>((ax[af.toNat]?).bind λ v3=>((idx ax af).bind λ v4=>((ax[af.toNat]?).bind λ v5=>(bif am then ((idx (ax.set af.toNat (i64.wrap (v3+v1))) af).bind λ v6=>(((ax.set af.toNat (i64.wrap (v3+v1)))[af.toNat]?).bind λ v7=>r0 av aD aq aN (i64.wrap (af+1)) (decide (v7<=100000000)) (ax.set af.toNat (i64.wrap (v3+v1)))))else r0 av aD aq aN (i64.wrap (af+1)) Bool.false (ax.set af.toNat (i64.wrap (v3+v1))))))))else r0 av aD aq aN (i64.wrap (af+1)) am ax))else (y7z n n (av) (aD) (z0S.1) (av.2.1) ((↑av.2.1.length:Int)) ((0:Int)) (am) ([]) (ax)))
def yCB(n:Nat)(k:Nat)(av:Bas)(aD:Cnd)(aq:List Int)(aN:Int)(af:Int)(am:Bool)(ax:List Int):Option (List Int×Option (List Int)×Bool×Unit):=
  iter (λ r y=>yLM n (λ av aD aq aN af am ax=>r ((av,(aD,((),(aq,(aN,(af,())))))),(((),((am,()),(ax,()))),()))) y.1.1 y.1.2.1 y.1.2.2.2.1 y.1.2.2.2.2.1 y.1.2.2.2.2.2.1 y.2.1.2.1.1 y.2.1.2.2.1) k ((av,(aD,((),(aq,(aN,(af,())))))),(((),((am,()),(ax,()))),()))
def zi_m(n:Nat)(b:Bas)(v:List Int)(c:Cnd):Option (List Int×Option (List Int)×Bool×Unit):=
  (bif Bool.true && decide ((0:Int)<=(↑v.length:Int)) && decide ((↑v.length:Int)<=(↑memMax:Int)) && (↑v.length:Int)==(↑v.length:Int)then (yCB n n (b) (c) (c.2.2.1) ((↑c.2.2.1.length:Int)) ((0:Int)) (Bool.true) (List.take (List.replicate (↑v.length:Int).toNat (0:Int)).length v++List.drop v.length (List.replicate (↑v.length:Int).toNat (0:Int))))else none)
def y3d(aj:Bas)(ah:Cnd)(a7:List (List UInt8×List Bool×((Lnk×Int×Int×Int×Bool×Unit)×Unit->Option (Int×Unit))×Unit))(a8:List Lnk)(ai:Int)(ac:List Int)(v13:Lnk)(v17:Int×Unit)(j26:Bool)(j27:List Int):Option ((List Int×Option (List Int)×Bool×Unit)⊕(Bool×List Int×List Int)):=
  (bif v13.2.2.1 != (-1:Int)then ((idx j27 v13.2.2.1).bind λ v28=>((j27[v13.2.2.1.toNat]?).bind λ v29=>((idx j27 v13.2.2.1).bind λ v30=>((j27[v13.2.2.1.toNat]?).bind λ v31=>(bif j26 then ((idx (j27.set v13.2.2.1.toNat (i64.wrap (v29+v17.1))) v13.2.2.1).bind λ v32=>(((j27.set v13.2.2.1.toNat (i64.wrap (v29+v17.1)))[v13.2.2.1.toNat]?).bind λ v33=>(bif decide (ac.length+(1:Nat)<=memMax)then (some (Sum.inr ((decide (v33<=100000000)),(ac++[v17.1]),(j27.set v13.2.2.1.toNat (i64.wrap (v29+v17.1))))))else none)))else (bif decide (ac.length+(1:Nat)<=memMax)then (some (Sum.inr ((Bool.false),(ac++[v17.1]),(j27.set v13.2.2.1.toNat (i64.wrap (v29+v17.1))))))else none))))))else (bif decide (ac.length+(1:Nat)<=memMax)then (some (Sum.inr ((j26),(ac++[v17.1]),(j27))))else none))
theorem y0d(n:Nat)(hn:big<=n)(r12:Bas->Cnd->List (List UInt8×List Bool×((Lnk×Int×Int×Int×Bool×Unit)×Unit->Option (Int×Unit))×Unit)->List Lnk->Int->Int->Bool->List Int->List Int->Option (List Int×Option (List Int)×Bool×Unit))(aj:Bas)(ah:Cnd)(a7:List (List UInt8×List Bool×((Lnk×Int×Int×Int×Bool×Unit)×Unit->Option (Int×Unit))×Unit))(a8:List Lnk)(ai:Int)(ac:List Int)(v13:Lnk)(v17:Int×Unit)(j26:Bool)(j27:List Int):LeF (elim some λ (aa:(Bool×List Int×List Int))=>r12 aj ah a7 a8 (List.length (a8):Int) (i64.wrap (ai+1)) aa.1 aa.2.1 aa.2.2) (y3d aj ah a7 a8 ai ac v13 v17 j26 j27) (y7l n r12 aj ah a7 a8 (List.length (a8):Int) ai ac v13 v17 j26 j27):=
  (y7 (y9 λ v28=>(y9 λ v29=>(y9 λ v30=>(y9 λ v31=>(y7 (y9 λ v32=>(y9 λ v33=>(y7 (y8 rfl) y0H))) (y7 (y8 rfl) y0H)))))) (y7 (y8 rfl) y0H))
def yDb(aj:Bas)(ah:Cnd)(a7:List (List UInt8×List Bool×((Lnk×Int×Int×Int×Bool×Unit)×Unit->Option (Int×Unit))×Unit))(a8:List Lnk)(ai:Int)(v13:Lnk)(ak:Bool)(ac:List Int)(ae:List Int):Option ((List Int×Option (List Int)×Bool×Unit)⊕(Bool×List Int×List Int)):=
  ((idx ae (zu (v13.1,v13.2.1,v13.2.2.1,v13.2.2.2.1,v13.2.2.2.2.1,())).1).bind λ v14=>((ae[(zu (v13.1,v13.2.1,v13.2.2.1,v13.2.2.2.1,v13.2.2.2.2.1,())).1.toNat]?).bind λ v15=>((idx aj.1 (zu (v13.1,v13.2.1,v13.2.2.1,v13.2.2.2.1,v13.2.2.2.2.1,())).1).bind λ v16=>((((yZ Ty.str ((Ty.arr (nat_lit 2) Ty.bool).pair (((((Ty.str.pair ((Ty.int i64).pair ((Ty.int i64).pair ((Ty.int i64).pair ((Ty.int i64).pair Ty.unit))))).pair ((Ty.int i64).pair ((Ty.int i64).pair ((Ty.int i64).pair (Ty.bool.pair Ty.unit))))).pair Ty.unit).func ((Ty.int i64).pair Ty.unit)).pair Ty.unit)) a7 v13.1).getD ([Bool.false,Bool.false],λ (x:(((Ty.str.pair ((Ty.int i64).pair ((Ty.int i64).pair ((Ty.int i64).pair ((Ty.int i64).pair Ty.unit))))).pair ((Ty.int i64).pair ((Ty.int i64).pair ((Ty.int i64).pair (Ty.bool.pair Ty.unit))))).pair Ty.unit).den)=>Option.none,())).2.1 (((v13.1,v13.2.1,v13.2.2.1,v13.2.2.2.1,v13.2.2.2.2.1,()),v15,v16.2.1,ah.1,ah.2.1,()),())).bind λ v17=>(bif v13.2.1 != (-1:Int)then ((idx ae v13.2.1).bind λ v18=>((ae[v13.2.1.toNat]?).bind λ v19=>((idx ae v13.2.1).bind λ v20=>((ae[v13.2.1.toNat]?).bind λ v21=>(bif ak then ((idx (ae.set v13.2.1.toNat (i64.wrap (v19+i64.wrap ((0:Int) - v17.1)))) v13.2.1).bind λ v22=>(((ae.set v13.2.1.toNat (i64.wrap (v19+i64.wrap ((0:Int) - v17.1))))[v13.2.1.toNat]?).bind λ v23=>(y3d aj ah a7 a8 ai ac v13 v17 (decide (v23<=100000000)) (ae.set v13.2.1.toNat (i64.wrap (v19+i64.wrap ((0:Int) - v17.1)))))))else (y3d aj ah a7 a8 ai ac v13 v17 (Bool.false) (ae.set v13.2.1.toNat (i64.wrap (v19+i64.wrap ((0:Int) - v17.1))))))))))else (y3d aj ah a7 a8 ai ac v13 v17 (ak) (ae)))))))
def yLQ(aj:Bas)(ah:Cnd)(a7:List (List UInt8×List Bool×((Lnk×Int×Int×Int×Bool×Unit)×Unit->Option (Int×Unit))×Unit))(a8:List Lnk)(ak:Bool)(ac:List Int)(ae:List Int):Option (List Int×Option (List Int)×Bool×Unit):=
  (some ((ac,some ae,ak,())))
theorem yEU(n:Nat)(hn:big<=n)(aj:Bas)(ah:Cnd)(a7:List (List UInt8×List Bool×((Lnk×Int×Int×Int×Bool×Unit)×Unit->Option (Int×Unit))×Unit))(a8:List Lnk)(ak:Bool)(ac:List Int)(ae:List Int)(hx:List.length (a8) < lenMax):LeF some (yL (λ al aM aa=>yDb aj ah a7 a8 al aM aa.1 aa.2.1 aa.2.2) (λ aa=>yLQ aj ah a7 a8 aa.1 aa.2.1 aa.2.2) 0 (a8) (ak,ac,ae)) (y7z n n aj ah a7 a8 (List.length (a8):Int) 0 ak ac ae):=by
  refine yP (f:=some) (W:=λ aL al aa=>y7z n aL aj ah a7 a8 (List.length (a8):Int) al aa.1 aa.2.1 aa.2.2) (λ aL al aa=>?_) hx (ak,ac,ae) n (by unfold big at hn;unfold lenMax at hx;omega)
  show LeF _ _ (yFx n (y7z n aL) aj ah a7 a8 (List.length (a8):Int) al aa.1 aa.2.1 aa.2.2)
  exact y7 (y9 λ v13=>(y9 λ v14=>(y9 λ v15=>(y9 λ v16=>(y9 λ v17=>(y7 (y9 λ v18=>(y9 λ v19=>(y9 λ v20=>(y9 λ v21=>(y7 (y9 λ v22=>(y9 λ v23=>(by apply y0d n hn))) (by apply y0d n hn)))))) (by apply y0d n hn))))))) (y06 (y8 rfl))
def yLG(av:Bas)(aD:Cnd)(aq:List Int)(af:Int)(v1:Int)(am:Bool)(ax:List Int):Option ((List Int×Option (List Int)×Bool×Unit)⊕(Bool×List Int)):=
  (bif af != (-1:Int)then ((idx ax af).bind λ v2=>((ax[af.toNat]?).bind λ v3=>((idx ax af).bind λ v4=>((ax[af.toNat]?).bind λ v5=>(bif am then ((idx (ax.set af.toNat (i64.wrap (v3+v1))) af).bind λ v6=>(((ax.set af.toNat (i64.wrap (v3+v1)))[af.toNat]?).bind λ v7=>(some (Sum.inr ((decide (v7<=100000000)),(ax.set af.toNat (i64.wrap (v3+v1))))))))else (some (Sum.inr ((Bool.false),(ax.set af.toNat (i64.wrap (v3+v1)))))))))))else (some (Sum.inr ((am),(ax)))))
def yIS(av:Bas)(aD:Cnd)(aq:List Int)(am:Bool)(ax:List Int):Option (List Int×Option (List Int)×Bool×Unit):=
  (bif decide (List.length (av.2.1) < lenMax)then yL (λ al aM aa=>yDb (av) (aD) (z0S.1) (av.2.1) al aM aa.1 aa.2.1 aa.2.2) (λ aa=>yLQ (av) (aD) (z0S.1) (av.2.1) aa.1 aa.2.1 aa.2.2) 0 (av.2.1) ((am),([]),(ax))else none)
theorem yHU(n:Nat)(hn:big<=n)(av:Bas)(aD:Cnd)(aq:List Int)(am:Bool)(ax:List Int)(hx:List.length (aq) < lenMax):LeF some (yL (λ al aM aa=>yLG av aD aq al aM aa.1 aa.2) (λ aa=>yIS av aD aq aa.1 aa.2) 0 (aq) (am,ax)) (yCB n n av aD aq (List.length (aq):Int) 0 am ax):=by
  refine yP (f:=some) (W:=λ aL al aa=>yCB n aL av aD aq (List.length (aq):Int) al aa.1 aa.2) (λ aL al aa=>?_) hx (am,ax) n (by unfold big at hn;unfold lenMax at hx;omega)
  show LeF _ _ (yLM n (yCB n aL) av aD aq (List.length (aq):Int) al aa.1 aa.2)
  exact y7 (y9 λ v1=>(y7 (y9 λ v2=>(y9 λ v3=>(y9 λ v4=>(y9 λ v5=>(y7 (y9 λ v6=>(y9 λ v7=>(y8 rfl))) (y8 rfl)))))) (y8 rfl))) (y06 (yO λ hx=>by apply yEU n hn;exact hx))
def zi_M(b:Bas)(v:List Int)(c:Cnd):Option (List Int×Option (List Int)×Bool×Unit):=
  (bif Bool.true && decide ((0:Int)<=(↑v.length:Int)) && decide ((↑v.length:Int)<=(↑memMax:Int)) && (↑v.length:Int)==(↑v.length:Int)then (bif decide (List.length (c.2.2.1) < lenMax)then yL (λ al aM aa=>yLG (b) (c) (c.2.2.1) al aM aa.1 aa.2) (λ aa=>yIS (b) (c) (c.2.2.1) aa.1 aa.2) 0 (c.2.2.1) ((Bool.true),(List.take (List.replicate (↑v.length:Int).toNat (0:Int)).length v++List.drop v.length (List.replicate (↑v.length:Int).toNat (0:Int))))else none)else none)
abbrev zi_e:Entry:={ f:=92,args:=.pair t41 (.pair t26 (.pair t44 .unit)),rS:=.pair t26 (.pair (.nS (.int .i64)) (.pair t4 .unit)),m:=λ x=>zi_M x.1 x.2.1 x.2.2.1 }
theorem yQd:FnOK Tryz.prog zi_e:=fBI (mu:=[14]) Tryz.f92 (λ n x=>zi_m n x.1 x.2.1 x.2.2.1) [[3,5,9,10,11,28,29,30],[3,5,9,10,11,14,15,42,43,44]] [il140] 3 (yF yNQ (yF yRL eNil)) (y7g yMX iNil) λ n hn x=>(y7 (yO λ hx=>by apply yHU n hn;exact hx) y0H)
def il150:Inl:={ f:=150,fn:=Tryz.f150,keep:=[],mU:=[],fz:=[] }
theorem yMj:y31 Tryz.prog il150:=⟨by kernel_rfl,by kernel_rfl,λ e0 h=>by cases (show (none:Option LibK)=some e0 from h)⟩
def y1R(n:Nat)(l:Lnk)(nodes:Int)(j5:Bool):Option (Int×Unit):=
  (bif !j5 then some ((10:Int),())else (bif ((yZ Ty.str ((Ty.arr (2:Nat) Ty.bool).pair (((((Ty.str.pair ((Ty.int i64).pair ((Ty.int i64).pair ((Ty.int i64).pair ((Ty.int i64).pair Ty.unit))))).pair ((Ty.int i64).pair ((Ty.int i64).pair ((Ty.int i64).pair (Ty.bool.pair Ty.unit))))).pair Ty.unit).func ((Ty.int i64).pair Ty.unit)).pair Ty.unit)) z0S.1 l.1).getD ([Bool.false,Bool.false],λ (x:(Lnk×Int×Int×Int×Bool×Unit)×Unit)=>Option.none,())).1.getD (nat_lit 1) Bool.false then (bif l.2.2.1==(-1:Int)then (bif eqV (Ty.arr (2:Nat) Ty.bool) [((yZ Ty.str ((Ty.arr (2:Nat) Ty.bool).pair (((((Ty.str.pair ((Ty.int i64).pair ((Ty.int i64).pair ((Ty.int i64).pair ((Ty.int i64).pair Ty.unit))))).pair ((Ty.int i64).pair ((Ty.int i64).pair ((Ty.int i64).pair (Ty.bool.pair Ty.unit))))).pair Ty.unit).func ((Ty.int i64).pair Ty.unit)).pair Ty.unit)) z0S.1 l.1).getD ([Bool.false,Bool.false],λ (x:(Lnk×Int×Int×Int×Bool×Unit)×Unit)=>Option.none,())).1.getD (nat_lit 0) Bool.false,((yZ Ty.str ((Ty.arr (2:Nat) Ty.bool).pair (((((Ty.str.pair ((Ty.int i64).pair ((Ty.int i64).pair ((Ty.int i64).pair ((Ty.int i64).pair Ty.unit))))).pair ((Ty.int i64).pair ((Ty.int i64).pair ((Ty.int i64).pair (Ty.bool.pair Ty.unit))))).pair Ty.unit).func ((Ty.int i64).pair Ty.unit)).pair Ty.unit)) z0S.1 l.1).getD ([Bool.false,Bool.false],λ (x:(Lnk×Int×Int×Int×Bool×Unit)×Unit)=>Option.none,())).1.getD (nat_lit 1) Bool.false] [Bool.true,Bool.false]then ((y15 [(z0e (l.2.1==l.2.2.1) (17:Int)).1,(z0E l.2.2.2.1 (0:Int) (0:Int)).1,(z0E l.2.2.2.2.1 (1:Int) (1000:Int)).1]).bind λ v27=>some (v27.1,()))else ((y15 [(z0e (l.2.1==l.2.2.1) (17:Int)).1,(z0E l.2.2.2.1 (0:Int) (1024:Int)).1,(z0E l.2.2.2.2.1 (1:Int) (1000:Int)).1]).bind λ v28=>some (v28.1,())))else (bif !((yZ Ty.str ((Ty.arr (2:Nat) Ty.bool).pair (((((Ty.str.pair ((Ty.int i64).pair ((Ty.int i64).pair ((Ty.int i64).pair ((Ty.int i64).pair Ty.unit))))).pair ((Ty.int i64).pair ((Ty.int i64).pair ((Ty.int i64).pair (Ty.bool.pair Ty.unit))))).pair Ty.unit).func ((Ty.int i64).pair Ty.unit)).pair Ty.unit)) z0S.1 l.1).getD ([Bool.false,Bool.false],λ (x:(Lnk×Int×Int×Int×Bool×Unit)×Unit)=>Option.none,())).1.getD (nat_lit 1) Bool.false then (bif decide (l.2.2.1 >= 0)then (bif !decide (l.2.2.1 < nodes)then some ((10:Int),())else (bif eqV (Ty.arr (2:Nat) Ty.bool) [((yZ Ty.str ((Ty.arr (2:Nat) Ty.bool).pair (((((Ty.str.pair ((Ty.int i64).pair ((Ty.int i64).pair ((Ty.int i64).pair ((Ty.int i64).pair Ty.unit))))).pair ((Ty.int i64).pair ((Ty.int i64).pair ((Ty.int i64).pair (Ty.bool.pair Ty.unit))))).pair Ty.unit).func ((Ty.int i64).pair Ty.unit)).pair Ty.unit)) z0S.1 l.1).getD ([Bool.false,Bool.false],λ (x:(Lnk×Int×Int×Int×Bool×Unit)×Unit)=>Option.none,())).1.getD (nat_lit 0) Bool.false,((yZ Ty.str ((Ty.arr (2:Nat) Ty.bool).pair (((((Ty.str.pair ((Ty.int i64).pair ((Ty.int i64).pair ((Ty.int i64).pair ((Ty.int i64).pair Ty.unit))))).pair ((Ty.int i64).pair ((Ty.int i64).pair ((Ty.int i64).pair (Ty.bool.pair Ty.unit))))).pair Ty.unit).func ((Ty.int i64).pair Ty.unit)).pair Ty.unit)) z0S.1 l.1).getD ([Bool.false,Bool.false],λ (x:(Lnk×Int×Int×Int×Bool×Unit)×Unit)=>Option.none,())).1.getD (nat_lit 1) Bool.false] [Bool.true,Bool.false]then ((y15 [(z0e (l.2.1==l.2.2.1) (17:Int)).1,(z0E l.2.2.2.1 (0:Int) (0:Int)).1,(z0E l.2.2.2.2.1 (1:Int) (1000:Int)).1]).bind λ v30=>some (v30.1,()))else ((y15 [(z0e (l.2.1==l.2.2.1) (17:Int)).1,(z0E l.2.2.2.1 (0:Int) (1024:Int)).1,(z0E l.2.2.2.2.1 (1:Int) (1000:Int)).1]).bind λ v31=>some (v31.1,()))))else some ((10:Int),()))else some ((10:Int),())))else (bif !((yZ Ty.str ((Ty.arr (2:Nat) Ty.bool).pair (((((Ty.str.pair ((Ty.int i64).pair ((Ty.int i64).pair ((Ty.int i64).pair ((Ty.int i64).pair Ty.unit))))).pair ((Ty.int i64).pair ((Ty.int i64).pair ((Ty.int i64).pair (Ty.bool.pair Ty.unit))))).pair Ty.unit).func ((Ty.int i64).pair Ty.unit)).pair Ty.unit)) z0S.1 l.1).getD ([Bool.false,Bool.false],λ (x:(Lnk×Int×Int×Int×Bool×Unit)×Unit)=>Option.none,())).1.getD (nat_lit 1) Bool.false then (bif decide (l.2.2.1 >= 0)then (bif !decide (l.2.2.1 < nodes)then some ((10:Int),())else (bif eqV (Ty.arr (2:Nat) Ty.bool) [((yZ Ty.str ((Ty.arr (2:Nat) Ty.bool).pair (((((Ty.str.pair ((Ty.int i64).pair ((Ty.int i64).pair ((Ty.int i64).pair ((Ty.int i64).pair Ty.unit))))).pair ((Ty.int i64).pair ((Ty.int i64).pair ((Ty.int i64).pair (Ty.bool.pair Ty.unit))))).pair Ty.unit).func ((Ty.int i64).pair Ty.unit)).pair Ty.unit)) z0S.1 l.1).getD ([Bool.false,Bool.false],λ (x:(Lnk×Int×Int×Int×Bool×Unit)×Unit)=>Option.none,())).1.getD (nat_lit 0) Bool.false,((yZ Ty.str ((Ty.arr (2:Nat) Ty.bool).pair (((((Ty.str.pair ((Ty.int i64).pair ((Ty.int i64).pair ((Ty.int i64).pair ((Ty.int i64).pair Ty.unit))))).pair ((Ty.int i64).pair ((Ty.int i64).pair ((Ty.int i64).pair (Ty.bool.pair Ty.unit))))).pair Ty.unit).func ((Ty.int i64).pair Ty.unit)).pair Ty.unit)) z0S.1 l.1).getD ([Bool.false,Bool.false],λ (x:(Lnk×Int×Int×Int×Bool×Unit)×Unit)=>Option.none,())).1.getD (nat_lit 1) Bool.false] [Bool.true,Bool.false]then ((y15 [(z0e (l.2.1==l.2.2.1) (17:Int)).1,(z0E l.2.2.2.1 (0:Int) (0:Int)).1,(z0E l.2.2.2.2.1 (1:Int) (1000:Int)).1]).bind λ v33=>some (v33.1,()))else ((y15 [(z0e (l.2.1==l.2.2.1) (17:Int)).1,(z0E l.2.2.2.1 (0:Int) (1024:Int)).1,(z0E l.2.2.2.2.1 (1:Int) (1000:Int)).1]).bind λ v34=>some (v34.1,()))))else some ((10:Int),()))else some ((10:Int),()))))
def zk_m(n:Nat)(l:Lnk)(nodes:Int):Option (Int×Unit):=
  (bif !(yZ Ty.str ((Ty.arr (2:Nat) Ty.bool).pair (((((Ty.str.pair ((Ty.int i64).pair ((Ty.int i64).pair ((Ty.int i64).pair ((Ty.int i64).pair Ty.unit))))).pair ((Ty.int i64).pair ((Ty.int i64).pair ((Ty.int i64).pair (Ty.bool.pair Ty.unit))))).pair Ty.unit).func ((Ty.int i64).pair Ty.unit)).pair Ty.unit)) z0S.1 l.1).isSome then some ((13:Int),())else (bif ((yZ Ty.str ((Ty.arr (2:Nat) Ty.bool).pair (((((Ty.str.pair ((Ty.int i64).pair ((Ty.int i64).pair ((Ty.int i64).pair ((Ty.int i64).pair Ty.unit))))).pair ((Ty.int i64).pair ((Ty.int i64).pair ((Ty.int i64).pair (Ty.bool.pair Ty.unit))))).pair Ty.unit).func ((Ty.int i64).pair Ty.unit)).pair Ty.unit)) z0S.1 l.1).getD ([Bool.false,Bool.false],λ (x:(Lnk×Int×Int×Int×Bool×Unit)×Unit)=>Option.none,())).1.getD (nat_lit 0) Bool.false then (bif l.2.1==(-1:Int)then (y1R n l nodes (Bool.true))else (bif !((yZ Ty.str ((Ty.arr (2:Nat) Ty.bool).pair (((((Ty.str.pair ((Ty.int i64).pair ((Ty.int i64).pair ((Ty.int i64).pair ((Ty.int i64).pair Ty.unit))))).pair ((Ty.int i64).pair ((Ty.int i64).pair ((Ty.int i64).pair (Ty.bool.pair Ty.unit))))).pair Ty.unit).func ((Ty.int i64).pair Ty.unit)).pair Ty.unit)) z0S.1 l.1).getD ([Bool.false,Bool.false],λ (x:(Lnk×Int×Int×Int×Bool×Unit)×Unit)=>Option.none,())).1.getD (nat_lit 0) Bool.false then (bif decide (l.2.1 >= 0)then (y1R n l nodes (decide (l.2.1 < nodes)))else (y1R n l nodes (Bool.false)))else (y1R n l nodes (Bool.false))))else (bif !((yZ Ty.str ((Ty.arr (2:Nat) Ty.bool).pair (((((Ty.str.pair ((Ty.int i64).pair ((Ty.int i64).pair ((Ty.int i64).pair ((Ty.int i64).pair Ty.unit))))).pair ((Ty.int i64).pair ((Ty.int i64).pair ((Ty.int i64).pair (Ty.bool.pair Ty.unit))))).pair Ty.unit).func ((Ty.int i64).pair Ty.unit)).pair Ty.unit)) z0S.1 l.1).getD ([Bool.false,Bool.false],λ (x:(Lnk×Int×Int×Int×Bool×Unit)×Unit)=>Option.none,())).1.getD (nat_lit 0) Bool.false then (bif decide (l.2.1 >= 0)then (y1R n l nodes (decide (l.2.1 < nodes)))else (y1R n l nodes (Bool.false)))else (y1R n l nodes (Bool.false)))))
def zk_M(l:Lnk)(nodes:Int):Option (Int×Unit):=zk_m 0 l nodes
abbrev zk_e:Entry:={ f:=103,args:=.pair t163 (.pair t3 .unit),rS:=.pair t35 .unit,m:=λ x=>zk_M x.1 x.2.1 }
theorem yRg:FnOK Tryz.prog zk_e:=fFI 0 Tryz.f103 (λ n x=>zk_m n x.1 x.2.1) [] [il150] 3 (yF yNQ (yF y4S (yF y95 (yF y4V eNil)))) (y7g yMj iNil)
def zc_m(n:Nat)(r1:Rng):Option (Cnd×Unit):=
  ((zb_M r1 (1:Int)).bind λ v0=>some ((v0.1.1,v0.1.2.1,v0.1.2.2.1,()),()))
def zc_M(r1:Rng):Option (Cnd×Unit):=zc_m 0 r1
abbrev zc_e:Entry:={ f:=110,args:=.pair t104 .unit,rS:=.pair t44 .unit,m:=λ x=>zc_M x.1 }
theorem yQA:FnOK Tryz.prog zc_e:=fF 0 Tryz.f110 (λ n x=>zc_m n x.1) [] (yF yQC eNil)
def ze_m(n:Nat)(r1:Rng):Option (Cnd×Unit):=
  ((zb_M r1 (0:Int)).bind λ v0=>some ((v0.1.1,v0.1.2.1,v0.1.2.2.1,()),()))
def ze_M(r1:Rng):Option (Cnd×Unit):=ze_m 0 r1
abbrev ze_e:Entry:={ f:=111,args:=.pair t104 .unit,rS:=.pair t44 .unit,m:=λ x=>ze_M x.1 }
theorem yRf:FnOK Tryz.prog ze_e:=fF 0 Tryz.f111 (λ n x=>ze_m n x.1) [] (yF yQC eNil)
def zN_m(n:Nat)(b:Bas)(r1:Rng):Option (Int×Unit):=
  ((zS_M r1.1 λ (x:Int×Unit)=>zv_M x.1).bind λ v0=>((z8_M r1.2.2.1 λ (x:(Int×Int×Unit)×Unit)=>zI_M x.1).bind λ v1=>((y15 v1.1).bind λ v2=>((y15 [v0.1,(z0e ((↑r1.2.2.1.length:Int) != (↑b.1.length:Int)) (2:Int)).1,v2.1]).bind λ v3=>some (v3.1,())))))
def zN_M(b:Bas)(r1:Rng):Option (Int×Unit):=zN_m 0 b r1
abbrev zN_e:Entry:={ f:=115,args:=.pair t41 (.pair t104 .unit),rS:=.pair t35 .unit,m:=λ x=>zN_M x.1 x.2.1 }
theorem yR8:FnOK Tryz.prog zN_e:=fF 0 Tryz.f115 (λ n x=>zN_m n x.1 x.2.1) [] (yF yRk (yF yO9 (yF yQr (yF y4S (yF yPb (yF y4V eNil))))))
end
end Go.Tw
end
