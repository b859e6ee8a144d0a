import Derived.Test.YtkfigfhjbejikaaGreatDoorBT
import Derived.Test.YtkfigfhjbejikaaGreatDoorB0
set_option linter.all false
open Go.IntKind (i64)
section
set_option maxRecDepth 1000000
namespace Go.Tw
open Go.Vx Go.Vx.B Go.Proofs
noncomputable section
def yNp(n:Nat)(holds:Bool)(e:Int):Option (Int×Unit):=
  (bif holds then some (e,())else some ((0:Int),()))
def z0e(holds:Bool)(e:Int):(Int×Unit):=
  (bif holds then (e,())else ((0:Int),()))
abbrev yRK (holds:Bool) (e:Int):Option (Int×Unit):=some (z0e holds e)
abbrev z0e_e:Entry:={ f:=89,args:=.pair t4 (.pair t35 .unit),rS:=.pair t35 .unit,m:=λ x=>yRK x.1 x.2.1 }
theorem y4B:FnOK Tryz.prog z0e_e:=fF (hm:=by intro x;show some (z0e x.1 x.2.1)=yNp 0 x.1 x.2.1;unfold yNp z0e;first|rfl|simp only[yq]) 0 Tryz.f89 (λ n x=>yNp n x.1 x.2.1) [] eNil
def yFQ(n:Nat)(r0:List Int->Int->Int->Option (Int×Unit))(aC:List Int)(aR:Int)(aO:Int):Option (Int×Unit):=
  (bif decide (aO < aR)then ((idx aC aO).bind λ v1=>(bif v1 != 0 then some (v1,())else r0 aC aR (i64.wrap (aO+1))))else some ((0:Int),()))
def y7i(n:Nat)(k:Nat)(aC:List Int)(aR:Int)(aO:Int):Option (Int×Unit):=
  iter (λ r y=>yFQ n (λ aC aR aO=>r ((aC,(aR,(aO,()))),((),()))) y.1.1 y.1.2.1 y.1.2.2.1) k ((aC,(aR,(aO,()))),((),()))
def yRE(n:Nat)(l:List Int):Option (Int×Unit):=
  (y7i n n (l) ((↑l.length:Int)) ((0:Int)))
def yIn(aC:List Int)(aO:Int)(v1:Int):Option ((Int×Unit)⊕Unit):=
  (bif v1 != 0 then (some (Sum.inl ((v1,()))))else (some (Sum.inr ())))
def yL6(aC:List Int):Option (Int×Unit):=
  (some (((0:Int),())))
theorem yE0(n:Nat)(hn:big<=n)(aC:List Int)(hx:List.length (aC) < lenMax):LeF some (yK (λ af am ae=>yIn aC af am) (λ ae=>yL6 aC) 0 (aC) ()) (y7i n n aC (List.length (aC):Int) 0):=by
  refine yP (f:=some) (W:=λ ak af ae=>y7i n ak aC (List.length (aC):Int) af) (λ ak af ae=>?_) hx () n (by unfold big at hn;unfold lenMax at hx;omega)
  show LeF _ _ (yFQ n (y7i n ak) aC (List.length (aC):Int) af)
  exact y6 (y9 λ v1=>(y6 (y8 rfl) (y8 rfl))) (y06 (y8 rfl))
def y11(l:List Int):Option (Int×Unit):=
  (bif decide (List.length (l) < lenMax)then yK (λ af am ae=>yIn (l) af am) (λ ae=>yL6 (l)) 0 (l) ()else none)
abbrev z0Q_e:Entry:={ f:=87,args:=.pair t174 .unit,rS:=.pair t35 .unit,m:=λ x=>y11 x.1 }
theorem y4N:FnOK Tryz.prog z0Q_e:=fB Tryz.f87 (λ n x=>yRE n x.1) [[5,6,7]] eNil λ n hn x=>(yN λ hx=>by apply yE0 n hn;exact hx)
def zl_m(n:Nat)(n1:Nod)(volume:Int):Option (Int×Unit):=
  (bif n1.2.1==0 then none else some (i64.wrap (volume.tdiv n1.2.1),()))
def zl_M(n1:Nod)(volume:Int):Option (Int×Unit):=zl_m 0 n1 volume
abbrev zl_e:Entry:={ f:=91,args:=.pair t159 (.pair t3 .unit),rS:=.pair t3 .unit,m:=λ x=>zl_M x.1 x.2.1 }
theorem yPO:FnOK Tryz.prog zl_e:=fF 0 Tryz.f91 (λ n x=>zl_m n x.1 x.2.1) [] eNil
def yPW(n:Nat)(a:Int)(b:Int):Option (Int×Unit):=
  (bif b==0 then none else (bif decide (i64.wrap (i64.wrap (a.tdiv b) * b) > a)then some (i64.wrap (i64.wrap (a.tdiv b) - (1:Int)),())else some (i64.wrap (a.tdiv b),())))
def yMi(a:Int)(b:Int):Option (Int×Unit):=yPW 0 a b
abbrev z0R_e:Entry:={ f:=199,args:=.pair t3 (.pair t3 .unit),rS:=.pair t3 .unit,m:=λ x=>yMi x.1 x.2.1 }
theorem yNG:FnOK Tryz.prog z0R_e:=fF 0 Tryz.f199 (λ n x=>yPW n x.1 x.2.1) [] eNil
def yPS(n:Nat)(a:Int)(b:Int):Option (Int×Unit):=
  (bif b==0 then none else (bif decide (i64.wrap (i64.wrap (a.tdiv b) * b) > a)then some (i64.wrap (i64.wrap (a.tdiv b) - (1:Int)),())else some (i64.wrap (a.tdiv b),())))
def yEx(a:Int)(b:Int):Option (Int×Unit):=yPS 0 a b
def zo_m(n:Nat)(n1:Int)(low:Int)(high:Int):Option (Int×Unit):=
  (bif decide (n1 < low)then some ((3:Int),())else (bif decide (n1 > high)then some ((3:Int),())else some ((0:Int),())))
def zo(n1:Int)(low:Int)(high:Int):(Int×Unit):=
  (bif decide (n1 < low)then ((3:Int),())else (bif decide (n1 > high)then ((3:Int),())else ((0:Int),())))
abbrev zo_M (n1:Int) (low:Int) (high:Int):Option (Int×Unit):=some (zo n1 low high)
abbrev zo_e:Entry:={ f:=93,args:=.pair t3 (.pair t3 (.pair t3 .unit)),rS:=.pair t3 .unit,m:=λ x=>zo_M x.1 x.2.1 x.2.2.1 }
theorem yOA:FnOK Tryz.prog zo_e:=fF (hm:=by intro x;show some (zo x.1 x.2.1 x.2.2.1)=zo_m 0 x.1 x.2.1 x.2.2.1;unfold zo_m zo;first|rfl|simp only[yq]) 0 Tryz.f93 (λ n x=>zo_m n x.1 x.2.1 x.2.2.1) [] eNil
def yGR(n:Nat)(r0:List Int->Int->Option (Int×Unit))(aq:List Int)(aL:Int):Option (Int×Unit):=
  (bif decide (aL < (↑aq.length:Int))then ((idx aq aL).bind λ v1=>(bif v1 != 0 then ((idx aq aL).bind λ v2=>some (v2,()))else r0 aq (i64.wrap (aL+1))))else some ((0:Int),()))
def y7U(n:Nat)(k:Nat)(aq:List Int)(aL:Int):Option (Int×Unit):=
  iter (λ r y=>yGR n (λ aq aL=>r ((aq,(aL,())),((),()))) y.1.1 y.1.2.1) k ((aq,(aL,())),((),()))
def yQq(n:Nat)(l:List Int):Option (Int×Unit):=
  (y7U n n (l) ((0:Int)))
def yGP(aq:List Int)(aL:Int)(v1:Int):Option ((Int×Unit)⊕Unit):=
  (bif v1 != 0 then ((idx aq aL).bind λ v2=>(some (Sum.inl ((v2,())))))else (some (Sum.inr ())))
def yFR(aq:List Int):Option (Int×Unit):=
  (some (((0:Int),())))
theorem yEh(n:Nat)(hn:big<=n)(aq:List Int)(hx:List.length (aq) < lenMax):LeF some (yK (λ af am ae=>yGP aq af am) (λ ae=>yFR aq) 0 (aq) ()) (y7U n n aq 0):=by
  refine yP (f:=some) (W:=λ ak af ae=>y7U n ak aq af) (λ ak af ae=>?_) hx () n (by unfold big at hn;unfold lenMax at hx;omega)
  show LeF _ _ (yGR n (y7U n ak) aq af)
  exact y6 (y9 λ v1=>(y6 (y9 λ v2=>(y8 rfl)) (y8 rfl))) (y06 (y8 rfl))
def y9v(l:List Int):Option (Int×Unit):=
  (bif decide (List.length (l) < lenMax)then yK (λ af am ae=>yGP (l) af am) (λ ae=>yFR (l)) 0 (l) ()else none)
abbrev z0V_e:Entry:={ f:=121,args:=.pair t26 .unit,rS:=.pair t3 .unit,m:=λ x=>y9v x.1 }
theorem yFe:FnOK Tryz.prog z0V_e:=fB Tryz.f121 (λ n x=>yQq n x.1) [[0,3]] eNil λ n hn x=>(yN λ hx=>by apply yEh n hn;exact hx)
def yNR(n:Nat)(kind:List UInt8):Option (Bool×Bool×Unit):=
  (bif kind==[(98:UInt8),97,114,114,105,101,114]then some (Bool.true,kind==[(111:UInt8),117,116,102,97,108,108],())else some (kind==[(108:UInt8),101,97,107],kind==[(111:UInt8),117,116,102,97,108,108],()))
def z0l(kind:List UInt8):(Bool×Bool×Unit):=
  (bif kind==[(98:UInt8),97,114,114,105,101,114]then (Bool.true,kind==[(111:UInt8),117,116,102,97,108,108],())else (kind==[(108:UInt8),101,97,107],kind==[(111:UInt8),117,116,102,97,108,108],()))
abbrev yRX (kind:List UInt8):Option (Bool×Bool×Unit):=some (z0l kind)
abbrev z0l_e:Entry:={ f:=145,args:=.pair t9 .unit,rS:=.pair t4 (.pair t4 .unit),m:=λ x=>yRX x.1 }
theorem yPN:FnOK Tryz.prog z0l_e:=fF (hm:=by intro x;show some (z0l x.1)=yNR 0 x.1;unfold yNR z0l;first|rfl|simp only[yq]) 0 Tryz.f145 (λ n x=>yNR n x.1) [] eNil
def yNj(n:Nat)(n1:Int)(nodes:Int)(atSea:Bool):Option (Bool×Unit):=
  (bif atSea then some (n1==(-1:Int),())else (bif decide (n1 >= 0)then some (decide (n1 < nodes),())else some (Bool.false,())))
def z0g(n1:Int)(nodes:Int)(atSea:Bool):(Bool×Unit):=
  (bif atSea then (n1==(-1:Int),())else (bif decide (n1 >= 0)then (decide (n1 < nodes),())else (Bool.false,())))
abbrev yR8 (n1:Int) (nodes:Int) (atSea:Bool):Option (Bool×Unit):=some (z0g n1 nodes atSea)
abbrev z0g_e:Entry:={ f:=146,args:=.pair t3 (.pair t3 (.pair t4 .unit)),rS:=.pair t4 .unit,m:=λ x=>yR8 x.1 x.2.1 x.2.2.1 }
theorem yPw:FnOK Tryz.prog z0g_e:=fF (hm:=by intro x;show some (z0g x.1 x.2.1 x.2.2.1)=yNj 0 x.1 x.2.1 x.2.2.1;unfold yNj z0g;first|rfl|simp only[yq]) 0 Tryz.f146 (λ n x=>yNj n x.1 x.2.1 x.2.2.1) [] eNil
def yOd(n:Nat)(x1:Int×Int×Unit):Option (List Int×Unit):=
  some ([x1.1,x1.2.1],())
def z0d(x1:Int×Int×Unit):(List Int×Unit):=
  ([x1.1,x1.2.1],())
abbrev yRU (x1:Int×Int×Unit):Option (List Int×Unit):=some (z0d x1)
abbrev z0d_e:Entry:={ f:=166,args:=.pair t96 .unit,rS:=.pair t253 .unit,m:=λ x=>yRU x.1 }
theorem yN3:FnOK Tryz.prog z0d_e:=fF (hm:=by intro x;show some (z0d x.1)=yOd 0 x.1;unfold yOd z0d;first|rfl|simp only[yq]) 0 Tryz.f166 (λ n x=>yOd n x.1) [] eNil
abbrev yOS:Ty:=.unit
abbrev yQ1:Ty:=.pair t67 .unit
def yOp:G:={ T:=T,E:=[],mU:=[],fz:=[] }
def yR2:List (List Nat):=[]
def yNM(n:Nat):Ann:={ keep:=yR2,fuel:=n,inl:=[],deep:=0 }
def yLz(n:Nat)  : Option (List (List UInt8)×Unit):=
  some ([[(98:UInt8),97,114,114,105,101,114],[(108:UInt8),101,97,107],[(111:UInt8),117,116,102,97,108,108],[(112:UInt8),117,109,112],[(119:UInt8),101,105,114]],())
theorem yPe(n:Nat)(x:yOS.den):runF yOp (yNM n) Tryz.f38 yOS yQ1 x=yLz n:=by kernel_rfl
def z0Y  : (List (List UInt8)×Unit):=
  ([[(98:UInt8),97,114,114,105,101,114],[(108:UInt8),101,97,107],[(111:UInt8),117,116,102,97,108,108],[(112:UInt8),117,109,112],[(119:UInt8),101,105,114]],())
abbrev yOq  : Option (List (List UInt8)×Unit):=some (z0Y)
theorem yNV(y:List (List UInt8)×Unit)(h:yOq=some y):∃ n,yLz n=some y:=
  ⟨0,by rw[<- h];show yLz 0=some (z0Y);unfold yLz z0Y;first|rfl|(simp only[yq];done)|(simp only[yq];rfl)⟩
def z0Y_e:Entry:={ f:=38,args:=yOS,rS:=yQ1,m:=λ x=>yOq }
theorem yPy:FnOK Tryz.prog z0Y_e:=yKz (g:=yOp) (fn:=Tryz.f38) yAS yH5 eNil (by kernel_rfl) (by kernel_rfl) (by kernel_rfl) (λ x y h=>let ⟨n,hn⟩:=yNV y h;⟨yNM n,iNil,(yPe n x).trans hn⟩)
def yFY(n:Nat)(r7:Bas->Int->Option (Bool×Unit))(aD:Bas)(aP:Int):Option (Bool×Unit):=
  (bif decide (aP < (↑aD.2.1.length:Int))then ((idx aD.2.1 aP).bind λ v8=>(bif decide ((↑v8.1.length:Int) > 60)then some (Bool.false,())else r7 aD (i64.wrap (aP+1))))else some (Bool.true,()))
def y7l(n:Nat)(k:Nat)(aD:Bas)(aP:Int):Option (Bool×Unit):=
  iter (λ r y=>yFY n (λ aD aP=>r ((aD,(aP,())),((),()))) y.1.1 y.1.2.1) k ((aD,(aP,())),((),()))
def yFa(n:Nat)(r5:Bas->Int->Option (Bool×Unit))(az:Bas)(aQ:Int):Option (Bool×Unit):=
  (bif decide (aQ < (↑az.1.length:Int))then ((idx az.1 aQ).bind λ v6=>(bif decide ((↑v6.1.length:Int) > 60)then some (Bool.false,())else r5 az (i64.wrap (aQ+1))))else (y7l n n (az) ((0:Int))))
def y7r(n:Nat)(k:Nat)(az:Bas)(aQ:Int):Option (Bool×Unit):=
  iter (λ r y=>yFa n (λ az aQ=>r ((az,(aQ,())),((),()))) y.1.1 y.1.2.1) k ((az,(aQ,())),((),()))
def yBx(n:Nat)(b:Bas):Option (Bool×Unit):=
  (y7r n n (b) ((0:Int)))
def yRZ(n:Nat)(b:Bas):Option (Bool×Unit):=
  (bif decide ((↑b.1.length:Int) > 9)then some (Bool.false,())else (bif decide ((↑b.2.1.length:Int) > 8)then (bif (↑b.2.1.length:Int) != 17 then some (Bool.false,())else (yBx n b))else (yBx n b)))
def yIx(aD:Bas)(aP:Int)(v8:Lnk):Option ((Bool×Unit)⊕Unit):=
  (bif decide ((↑v8.1.length:Int) > 60)then (some (Sum.inl ((Bool.false,()))))else (some (Sum.inr ())))
def yNI(aD:Bas):Option (Bool×Unit):=
  (some ((Bool.true,())))
theorem yE2(n:Nat)(hn:big<=n)(aD:Bas)(hx:List.length (aD.2.1) < lenMax):LeF some (yK (λ af am ae=>yIx aD af am) (λ ae=>yNI aD) 0 (aD.2.1) ()) (y7l n n aD 0):=by
  refine yP (f:=some) (W:=λ ak af ae=>y7l n ak aD af) (λ ak af ae=>?_) hx () n (by unfold big at hn;unfold lenMax at hx;omega)
  show LeF _ _ (yFY n (y7l n ak) aD af)
  exact y6 (y9 λ v8=>(y6 (y8 rfl) (y8 rfl))) (y06 (y8 rfl))
def yJw(az:Bas)(aQ:Int)(v6:Nod):Option ((Bool×Unit)⊕Unit):=
  (bif decide ((↑v6.1.length:Int) > 60)then (some (Sum.inl ((Bool.false,()))))else (some (Sum.inr ())))
def yFf(az:Bas):Option (Bool×Unit):=
  (bif decide (List.length (az.2.1) < lenMax)then yK (λ af am ae=>yIx (az) af am) (λ ae=>yNI (az)) 0 (az.2.1) ()else none)
theorem yEE(n:Nat)(hn:big<=n)(az:Bas)(hx:List.length (az.1) < lenMax):LeF some (yK (λ af am ae=>yJw az af am) (λ ae=>yFf az) 0 (az.1) ()) (y7r n n az 0):=by
  refine yP (f:=some) (W:=λ ak af ae=>y7r n ak az af) (λ ak af ae=>?_) hx () n (by unfold big at hn;unfold lenMax at hx;omega)
  show LeF _ _ (yFa n (y7r n ak) az af)
  exact y6 (y9 λ v6=>(y6 (y8 rfl) (y8 rfl))) (y06 (yN λ hx=>by apply yE2 n hn;exact hx))
def yDe(b:Bas):Option (Bool×Unit):=
  (bif decide (List.length (b.1) < lenMax)then yK (λ af am ae=>yJw (b) af am) (λ ae=>yFf (b)) 0 (b.1) ()else none)
theorem y3f(n:Nat)(hn:big<=n)(b:Bas):LeF some (yDe b) (yBx n b):=
  (yN λ hx=>by apply yEE n hn;exact hx)
def yKA(b:Bas):Option (Bool×Unit):=
  (bif decide ((↑b.1.length:Int) > 9)then (some ((Bool.false,())))else (bif decide ((↑b.2.1.length:Int) > 8)then (bif (↑b.2.1.length:Int) != 17 then (some ((Bool.false,())))else (yDe b))else (yDe b)))
abbrev z0a_e:Entry:={ f:=15,args:=.pair t25 .unit,rS:=.pair t4 .unit,m:=λ x=>yKA x.1 }
theorem yPX:FnOK Tryz.prog z0a_e:=fB Tryz.f15 (λ n x=>yRZ n x.1) [[1,3],[1,4]] eNil λ n hn x=>(y6 (y8 rfl) (y6 (y6 (y8 rfl) (by apply y3f n hn)) (by apply y3f n hn)))
def zu_m(n:Nat)(l:Lnk):Option (Int×Unit):=
  (bif l.2.1==(-1:Int)then some (l.2.2.1,())else some (l.2.1,()))
def zu(l:Lnk):(Int×Unit):=
  (bif l.2.1==(-1:Int)then (l.2.2.1,())else (l.2.1,()))
abbrev zu_M (l:Lnk):Option (Int×Unit):=some (zu l)
abbrev zu_e:Entry:={ f:=142,args:=.pair t163 .unit,rS:=.pair t3 .unit,m:=λ x=>zu_M x.1 }
theorem yQu:FnOK Tryz.prog zu_e:=fF (hm:=by intro x;show some (zu x.1)=zu_m 0 x.1;unfold zu_m zu;first|rfl|simp only[yq]) 0 Tryz.f142 (λ n x=>zu_m n x.1) [] eNil
def yGI(n:Nat)(r0:List (List UInt8)->List UInt8->Int->Option (Bool×Unit))(aq:List (List UInt8))(aG:List UInt8)(au:Int):Option (Bool×Unit):=
  (bif decide (au < (↑aq.length:Int))then ((idx aq au).bind λ v1=>(bif v1==aG then some (Bool.true,())else r0 aq aG (i64.wrap (au+1))))else some (Bool.false,()))
def y7X(n:Nat)(k:Nat)(aq:List (List UInt8))(aG:List UInt8)(au:Int):Option (Bool×Unit):=
  iter (λ r y=>yGI n (λ aq aG au=>r ((aq,(aG,(au,()))),((),()))) y.1.1 y.1.2.1 y.1.2.2.1) k ((aq,(aG,(au,()))),((),()))
def yRa(n:Nat)(l:List (List UInt8))(s:List UInt8):Option (Bool×Unit):=
  (y7X n n (l) (s) ((0:Int)))
def yKT(aq:List (List UInt8))(aG:List UInt8)(au:Int)(v1:List UInt8):Option ((Bool×Unit)⊕Unit):=
  (bif v1==aG then (some (Sum.inl ((Bool.true,()))))else (some (Sum.inr ())))
def yNH(aq:List (List UInt8))(aG:List UInt8):Option (Bool×Unit):=
  (some ((Bool.false,())))
theorem yF9(n:Nat)(hn:big<=n)(aq:List (List UInt8))(aG:List UInt8)(hx:List.length (aq) < lenMax):LeF some (yK (λ af am ae=>yKT aq aG af am) (λ ae=>yNH aq aG) 0 (aq) ()) (y7X n n aq aG 0):=by
  refine yP (f:=some) (W:=λ ak af ae=>y7X n ak aq aG af) (λ ak af ae=>?_) hx () n (by unfold big at hn;unfold lenMax at hx;omega)
  show LeF _ _ (yGI n (y7X n ak) aq aG af)
  exact y6 (y9 λ v1=>(y6 (y8 rfl) (y8 rfl))) (y06 (y8 rfl))
def yMe(l:List (List UInt8))(s:List UInt8):Option (Bool×Unit):=
  (bif decide (List.length (l) < lenMax)then yK (λ af am ae=>yKT (l) (s) af am) (λ ae=>yNH (l) (s)) 0 (l) ()else none)
abbrev z0A_e:Entry:={ f:=144,args:=.pair t67 (.pair t9 .unit),rS:=.pair t4 .unit,m:=λ x=>yMe x.1 x.2.1 }
theorem yPK:FnOK Tryz.prog z0A_e:=fB Tryz.f144 (λ n x=>yRa n x.1 x.2.1) [[0,1,5]] eNil λ n hn x=>(yN λ hx=>by apply yF9 n hn;exact hx)
def yG3(n:Nat)(r0:List Int->List Int->Int->Option (Bool×Unit))(al:List Int)(ai:List Int)(au:Int):Option (Bool×Unit):=
  (bif decide (au < (↑al.length:Int))then ((idx al au).bind λ v1=>((idx ai au).bind λ v2=>(bif v1 != v2 then some (Bool.false,())else r0 al ai (i64.wrap (au+1)))))else some (Bool.true,()))
def y7n(n:Nat)(k:Nat)(al:List Int)(ai:List Int)(au:Int):Option (Bool×Unit):=
  iter (λ r y=>yG3 n (λ al ai au=>r ((al,(ai,(au,()))),((),()))) y.1.1 y.1.2.1 y.1.2.2.1) k ((al,(ai,(au,()))),((),()))
def yQz(n:Nat)(a:List Int)(b:List Int):Option (Bool×Unit):=
  (bif (↑a.length:Int) != (↑b.length:Int)then some (Bool.false,())else (y7n n n (a) (b) ((0:Int))))
def yN4(al:List Int)(ai:List Int)(au:Int)(v1:Int):Option ((Bool×Unit)⊕Unit):=
  ((idx ai au).bind λ v2=>(bif v1 != v2 then (some (Sum.inl ((Bool.false,()))))else (some (Sum.inr ()))))
def yN9(al:List Int)(ai:List Int):Option (Bool×Unit):=
  (some ((Bool.true,())))
theorem yF1(n:Nat)(hn:big<=n)(al:List Int)(ai:List Int)(hx:List.length (al) < lenMax):LeF some (yK (λ af am ae=>yN4 al ai af am) (λ ae=>yN9 al ai) 0 (al) ()) (y7n n n al ai 0):=by
  refine yP (f:=some) (W:=λ ak af ae=>y7n n ak al ai af) (λ ak af ae=>?_) hx () n (by unfold big at hn;unfold lenMax at hx;omega)
  show LeF _ _ (yG3 n (y7n n ak) al ai af)
  exact y6 (y9 λ v1=>(y9 λ v2=>(y6 (y8 rfl) (y8 rfl)))) (y06 (y8 rfl))
def yEd(a:List Int)(b:List Int):Option (Bool×Unit):=
  (bif (↑a.length:Int) != (↑b.length:Int)then (some ((Bool.false,())))else (bif decide (List.length (a) < lenMax)then yK (λ af am ae=>yN4 (a) (b) af am) (λ ae=>yN9 (a) (b)) 0 (a) ()else none))
abbrev z00_e:Entry:={ f:=41,args:=.pair t26 (.pair t26 .unit),rS:=.pair t4 .unit,m:=λ x=>yEd x.1 x.2.1 }
theorem yN5:FnOK Tryz.prog z00_e:=fB Tryz.f41 (λ n x=>yQz n x.1 x.2.1) [[0,1,5]] eNil λ n hn x=>(y6 (y8 rfl) (yN λ hx=>by apply yF1 n hn;exact hx))
def yN0(aT:List Int)(aL:Int)(v1:Int):Option ((Bool×Unit)⊕Unit):=
  (bif decide (v1 > 100000000)then (some (Sum.inl ((Bool.true,()))))else (some (Sum.inr ())))
def yMt(aT:List Int):Option (Bool×Unit):=
  (some ((Bool.false,())))
def yLa(v:List Int):Option (Bool×Unit):=
  (bif decide (List.length (v) < lenMax)then yK (λ af am ae=>yN0 (v) af am) (λ ae=>yMt (v)) 0 (v) ()else none)
end
end Go.Tw
end
section
set_option maxRecDepth 1000000
namespace Go.Tw
open Go.Vx Go.Vx.B Go.Proofs
noncomputable section
def yFM(n:Nat)(r2:List Lnk->Int->Int->List Nod->List Lnk->Option (Bas×Unit))(av:List Lnk)(aN:Int)(aJ:Int)(aH:List Nod)(aF:List Lnk):Option (Bas×Unit):=
  (bif decide (aJ < aN)then ((idx av aJ).bind λ v3=>(bif decide (aF.length+(1:Nat)<=memMax)then r2 av aN (i64.wrap (aJ+1)) aH (aF++[(v3.1,v3.2.1,v3.2.2.1,v3.2.2.2.1,v3.2.2.2.2.1,())])else none))else some ((aH,aF,()),()))
def y7e(n:Nat)(k:Nat)(av:List Lnk)(aN:Int)(aJ:Int)(aH:List Nod)(aF:List Lnk):Option (Bas×Unit):=
  iter (λ r y=>yFM n (λ av aN aJ aH aF=>r ((av,(aN,(aJ,()))),(((),((),(aH,(aF,())))),()))) y.1.1 y.1.2.1 y.1.2.2.1 y.2.1.2.2.1 y.2.1.2.2.2.1) k ((av,(aN,(aJ,()))),(((),((),(aH,(aF,())))),()))
def yFb(n:Nat)(r0:Bas->List Nod->Int->Int->List Nod->List Lnk->Option (Bas×Unit))(ai:Bas)(ah:List Nod)(ac:Int)(aK:Int)(aE:List Nod)(aI:List Lnk):Option (Bas×Unit):=
  (bif decide (aK < ac)then ((idx ah aK).bind λ v1=>(bif decide (aE.length+(1:Nat)<=memMax)then r0 ai ah ac (i64.wrap (aK+1)) (aE++[(v1.1,v1.2.1,v1.2.2.1,())]) aI else none))else (y7e n n (ai.2.1) ((↑ai.2.1.length:Int)) ((0:Int)) (aE) (aI)))
def y7v(n:Nat)(k:Nat)(ai:Bas)(ah:List Nod)(ac:Int)(aK:Int)(aE:List Nod)(aI:List Lnk):Option (Bas×Unit):=
  iter (λ r y=>yFb n (λ ai ah ac aK aE aI=>r ((ai,(ah,(ac,(aK,())))),(((),((),(aE,(aI,())))),()))) y.1.1 y.1.2.1 y.1.2.2.1 y.1.2.2.2.1 y.2.1.2.2.1 y.2.1.2.2.2.1) k ((ai,(ah,(ac,(aK,())))),(((),((),(aE,(aI,())))),()))
def yRA(n:Nat)(b:Bas):Option (Bas×Unit):=
  (y7v n n (b) (b.1) ((↑b.1.length:Int)) ((0:Int)) ([]) ([]))
def yK7(av:List Lnk)(aH:List Nod)(aJ:Int)(v3:Lnk)(aF:List Lnk):Option ((Bas×Unit)⊕(List Lnk)):=
  (bif decide (aF.length+(1:Nat)<=memMax)then (some (Sum.inr (aF++[(v3.1,v3.2.1,v3.2.2.1,v3.2.2.2.1,v3.2.2.2.2.1,())])))else none)
def yN1(av:List Lnk)(aH:List Nod)(aF:List Lnk):Option (Bas×Unit):=
  (some (((aH,aF,()),())))
theorem yF4(n:Nat)(hn:big<=n)(av:List Lnk)(aH:List Nod)(aF:List Lnk)(hx:List.length (av) < lenMax):LeF some (yK (λ af am ae=>yK7 av aH af am ae) (λ ae=>yN1 av aH ae) 0 (av) aF) (y7e n n av (List.length (av):Int) 0 aH aF):=by
  refine yP (f:=some) (W:=λ ak af ae=>y7e n ak av (List.length (av):Int) af aH ae) (λ ak af ae=>?_) hx aF n (by unfold big at hn;unfold lenMax at hx;omega)
  show LeF _ _ (yFM n (y7e n ak) av (List.length (av):Int) af aH ae)
  exact y6 (y9 λ v3=>(y6 (y8 rfl) y0H)) (y06 (y8 rfl))
def yJe(ai:Bas)(ah:List Nod)(aI:List Lnk)(aK:Int)(v1:Nod)(aE:List Nod):Option ((Bas×Unit)⊕(List Nod)):=
  (bif decide (aE.length+(1:Nat)<=memMax)then (some (Sum.inr (aE++[(v1.1,v1.2.1,v1.2.2.1,())])))else none)
def yJt(ai:Bas)(ah:List Nod)(aI:List Lnk)(aE:List Nod):Option (Bas×Unit):=
  (bif decide (List.length (ai.2.1) < lenMax)then yK (λ af am ae=>yK7 (ai.2.1) (aE) af am ae) (λ ae=>yN1 (ai.2.1) (aE) ae) 0 (ai.2.1) (aI)else none)
theorem yES(n:Nat)(hn:big<=n)(ai:Bas)(ah:List Nod)(aI:List Lnk)(aE:List Nod)(hx:List.length (ah) < lenMax):LeF some (yK (λ af am ae=>yJe ai ah aI af am ae) (λ ae=>yJt ai ah aI ae) 0 (ah) aE) (y7v n n ai ah (List.length (ah):Int) 0 aE aI):=by
  refine yP (f:=some) (W:=λ ak af ae=>y7v n ak ai ah (List.length (ah):Int) af ae aI) (λ ak af ae=>?_) hx aE n (by unfold big at hn;unfold lenMax at hx;omega)
  show LeF _ _ (yFb n (y7v n ak) ai ah (List.length (ah):Int) af ae aI)
  exact y6 (y9 λ v1=>(y6 (y8 rfl) y0H)) (y06 (yN λ hx=>by apply yF4 n hn;exact hx))
def y6n(b:Bas):Option (Bas×Unit):=
  (bif decide (List.length (b.1) < lenMax)then yK (λ af am ae=>yJe (b) (b.1) ([]) af am ae) (λ ae=>yJt (b) (b.1) ([]) ae) 0 (b.1) ([])else none)
abbrev z0U_e:Entry:={ f:=19,args:=.pair t25 .unit,rS:=.pair t41 .unit,m:=λ x=>y6n x.1 }
theorem yQC:FnOK Tryz.prog z0U_e:=fB (mu:=[3]) Tryz.f19 (λ n x=>yRA n x.1) [[1,2,3,9,10,11],[2,3,23,24,25]] eNil λ n hn x=>(yN λ hx=>by apply yES n hn;exact hx)
def yFn(aU:List Int)(aS:Bas)(aV:Int)(v1:Int)(aa:List Int):Option ((List Int×Unit)⊕(List Int)):=
  ((idx aS.1 aV).bind λ v2=>(bif v2.2.1==0 then none else (bif decide (aa.length+(1:Nat)<=memMax)then (some (Sum.inr (aa++[i64.wrap (v1.tdiv v2.2.1)])))else none)))
def yIT(aU:List Int)(aS:Bas)(aa:List Int):Option (List Int×Unit):=
  (some ((aa,())))
def yOU(b:Bas)(v:List Int):Option (List Int×Unit):=
  (bif decide (List.length (v) < lenMax)then yK (λ af am ae=>yFn (v) (b) af am ae) (λ ae=>yIT (v) (b) ae) 0 (v) ([])else none)
def yKp(n:Nat)(r0:List (List (Int×Int×Unit))->List (List (Int×Int×Unit))->Int->Option (Bool×Unit))(r3:List (List (Int×Int×Unit))->List (List (Int×Int×Unit))->Int->Int->Option (Bool×Unit))(aA:List (List (Int×Int×Unit)))(aB:List (List (Int×Int×Unit)))(ay:Int)(aM:Int):Option (Bool×Unit):=
  ((idx aA ay).bind λ v4=>(bif decide (aM < (↑v4.length:Int))then ((idx aA ay).bind λ v5=>((idx v5 aM).bind λ v6=>((idx aB ay).bind λ v7=>((idx v7 aM).bind λ v8=>(bif !eqV ((Ty.int i64).pair ((Ty.int i64).pair Ty.unit)) v6 v8 then some (Bool.false,())else r3 aA aB ay (i64.wrap (aM+1)))))))else r0 aA aB (i64.wrap (ay+1))))
def yB8(n:Nat)(r0:List (List (Int×Int×Unit))->List (List (Int×Int×Unit))->Int->Option (Bool×Unit))(k:Nat)(aA:List (List (Int×Int×Unit)))(aB:List (List (Int×Int×Unit)))(ay:Int)(aM:Int):Option (Bool×Unit):=
  iter (λ r y=>yKp n r0 (λ aA aB ay aM=>r ((aA,(aB,(ay,(aM,())))),((),()))) y.1.1 y.1.2.1 y.1.2.2.1 y.1.2.2.2.1) k ((aA,(aB,(ay,(aM,())))),((),()))
def yJU(n:Nat)(r0:List (List (Int×Int×Unit))->List (List (Int×Int×Unit))->Int->Option (Bool×Unit))(al:List (List (Int×Int×Unit)))(ai:List (List (Int×Int×Unit)))(au:Int):Option (Bool×Unit):=
  (bif decide (au < (↑al.length:Int))then ((idx al au).bind λ v1=>((idx ai au).bind λ v2=>(bif (↑v1.length:Int) != (↑v2.length:Int)then some (Bool.false,())else (yB8 n r0 n (al) (ai) (au) ((0:Int))))))else some (Bool.true,()))
def yCJ(n:Nat)(k:Nat)(al:List (List (Int×Int×Unit)))(ai:List (List (Int×Int×Unit)))(au:Int):Option (Bool×Unit):=
  iter (λ r y=>yJU n (λ al ai au=>r ((al,(ai,(au,()))),((),()))) y.1.1 y.1.2.1 y.1.2.2.1) k ((al,(ai,(au,()))),((),()))
def zV_m(n:Nat)(a:List (List (Int×Int×Unit)))(b:List (List (Int×Int×Unit))):Option (Bool×Unit):=
  (bif (↑a.length:Int) != (↑b.length:Int)then some (Bool.false,())else (yCJ n n (a) (b) ((0:Int))))
def yEe(aA:List (List (Int×Int×Unit)))(aB:List (List (Int×Int×Unit)))(ay:Int)(v4:List (Int×Int×Unit))(aM:Int):Option (((Bool×Unit)⊕Unit)⊕Unit):=
  ((idx aA ay).bind λ v5=>((idx v5 aM).bind λ v6=>((idx aB ay).bind λ v7=>((idx v7 aM).bind λ v8=>(bif !eqV ((Ty.int i64).pair ((Ty.int i64).pair Ty.unit)) v6 v8 then (some (Sum.inl (Sum.inl ((Bool.false,())))))else (some (Sum.inr ())))))))
def yLY(aA:List (List (Int×Int×Unit)))(aB:List (List (Int×Int×Unit)))(ay:Int)(v4:List (Int×Int×Unit)):Option ((Bool×Unit)⊕Unit):=
  (some (Sum.inr ()))
theorem yI9(n:Nat)(hn:big<=n)(r0:List (List (Int×Int×Unit))->List (List (Int×Int×Unit))->Int->Option (Bool×Unit))(aA:List (List (Int×Int×Unit)))(aB:List (List (Int×Int×Unit)))(ay:Int)(v4:List (Int×Int×Unit))(h0__:(idx aA ay)=some v4)(hx:((↑v4.length:Int))<=9223372036854775807):LeF (elim some λ (ae:Unit)=>r0 aA aB (i64.wrap (ay+1))) (y0I (λ af ae=>yEe aA aB ay v4 af) (λ ae=>yLY aA aB ay v4) (((↑v4.length:Int)) - 0).toNat 0 ()) (yB8 n r0 n aA aB ay 0):=by
  refine y28 (f:=(elim some λ (ae:Unit)=>r0 aA aB (i64.wrap (ay+1)))) (W:=λ ak af ae=>yB8 n r0 ak aA aB ay af) (body:=(λ af ae=>yEe aA aB ay v4 af)) (fin:=(λ ae=>yLY aA aB ay v4)) (λ ak af ae=>?_) hx () n 0 (by decide) (by unfold big at hn;omega)
  show LeF _ _ (yKp n r0 (yB8 n r0 ak) aA aB ay af)
  exact leAt h0__ (y6 (y9 λ v5=>(y9 λ v6=>(y9 λ v7=>(y9 λ v8=>(y6 (y8 rfl) (y8 rfl)))))) (y06 (y8 rfl)))
def yOB(al:List (List (Int×Int×Unit)))(ai:List (List (Int×Int×Unit)))(au:Int)(v1:List (Int×Int×Unit)):Option ((Bool×Unit)⊕Unit):=
  ((idx ai au).bind λ v2=>(bif (↑v1.length:Int) != (↑v2.length:Int)then (some (Sum.inl ((Bool.false,()))))else ((idx al au).bind λ v4=>(bif decide (((↑v4.length:Int))<=9223372036854775807)then y0I (λ af ae=>yEe (al) (ai) (au) v4 af) (λ ae=>yLY (al) (ai) (au) v4) (((↑v4.length:Int)) - 0).toNat 0 ()else none))))
def yP6(al:List (List (Int×Int×Unit)))(ai:List (List (Int×Int×Unit))):Option (Bool×Unit):=
  (some ((Bool.true,())))
theorem yHy(n:Nat)(hn:big<=n)(al:List (List (Int×Int×Unit)))(ai:List (List (Int×Int×Unit)))(hx:List.length (al) < lenMax):LeF some (yK (λ af am ae=>yOB al ai af am) (λ ae=>yP6 al ai) 0 (al) ()) (yCJ n n al ai 0):=by
  refine yP (f:=some) (W:=λ ak af ae=>yCJ n ak al ai af) (λ ak af ae=>?_) hx () n (by unfold big at hn;unfold lenMax at hx;omega)
  show LeF _ _ (yJU n (yCJ n ak) al ai af)
  exact y6 (y9 λ v1=>(y9 λ v2=>(y6 (y8 rfl) (yOZ λ v4 h0__=>(yN λ hx=>by apply yI9 n hn;exact h0__;exact hx))))) (y06 (y8 rfl))
def zV_M(a:List (List (Int×Int×Unit)))(b:List (List (Int×Int×Unit))):Option (Bool×Unit):=
  (bif (↑a.length:Int) != (↑b.length:Int)then (some ((Bool.false,())))else (bif decide (List.length (a) < lenMax)then yK (λ af am ae=>yOB (a) (b) af am) (λ ae=>yP6 (a) (b)) 0 (a) ()else none))
abbrev zV_e:Entry:={ f:=74,args:=.pair t119 (.pair t119 .unit),rS:=.pair t4 .unit,m:=λ x=>zV_M x.1 x.2.1 }
theorem yPp:FnOK Tryz.prog zV_e:=fB Tryz.f74 (λ n x=>zV_m n x.1 x.2.1) [[0,1,5],[0,1,5,6]] eNil λ n hn x=>(y6 (y8 rfl) (yN λ hx=>by apply yHy n hn;exact hx))
abbrev yNg:Ty:=.unit
abbrev yPR:Ty:=.pair t41 .unit
def yPr:G:={ T:=T,E:=[],mU:=[],fz:=[] }
def yRD:List (List Nat):=[]
def yMn(n:Nat):Ann:={ keep:=yRD,fuel:=n,inl:=[],deep:=0 }
def yMd(n:Nat)  : Option (Bas×Unit):=
  some (([([(108:UInt8),97,107,101],(10:Int),(20:Int),()),([(112:UInt8),111,108,100,101,114],(5:Int),(8:Int),())],[([(98:UInt8),97,114,114,105,101,114],(-1:Int),(0:Int),(0:Int),(2:Int),()),([(112:UInt8),117,109,112],(1:Int),(0:Int),(4:Int),(10:Int),()),([(111:UInt8),117,116,102,97,108,108],(0:Int),(-1:Int),(12:Int),(4:Int),())],()),())
theorem yOw(n:Nat)(x:yNg.den):runF yPr (yMn n) Tryz.f86 yNg yPR x=yMd n:=by kernel_rfl
def z0f  : (Bas×Unit):=
  (([([(108:UInt8),97,107,101],(10:Int),(20:Int),()),([(112:UInt8),111,108,100,101,114],(5:Int),(8:Int),())],[([(98:UInt8),97,114,114,105,101,114],(-1:Int),(0:Int),(0:Int),(2:Int),()),([(112:UInt8),117,109,112],(1:Int),(0:Int),(4:Int),(10:Int),()),([(111:UInt8),117,116,102,97,108,108],(0:Int),(-1:Int),(12:Int),(4:Int),())],()),())
abbrev yQ9  : Option (Bas×Unit):=some (z0f)
theorem yOC(y:Bas×Unit)(h:yQ9=some y):∃ n,yMd n=some y:=
  ⟨0,by rw[<- h];show yMd 0=some (z0f);unfold yMd z0f;first|rfl|(simp only[yq];done)|(simp only[yq];rfl)⟩
def z0f_e:Entry:={ f:=86,args:=yNg,rS:=yPR,m:=λ x=>yQ9 }
theorem yPm:FnOK Tryz.prog z0f_e:=yKz (g:=yPr) (fn:=Tryz.f86) yAS yH5 eNil (by kernel_rfl) (by kernel_rfl) (by kernel_rfl) (λ x y h=>let ⟨n,hn⟩:=yOC y h;⟨yMn n,iNil,(yOw n x).trans hn⟩)
def y64(n:Nat)(r0:List UInt8->List UInt8->Int->Option (Bool×Unit))(aj:List UInt8)(str0__0:List UInt8)(pos0__0:Int)(j2:Bool)(j7:Bool):Option (Bool×Unit):=
  (bif !j2 then (bif pos0__0==0 then some (Bool.false,())else (bif !j7 then some (Bool.false,())else r0 aj str0__0 (yo str0__0 pos0__0).2))else r0 aj str0__0 (yo str0__0 pos0__0).2)
def y3U(n:Nat)(r0:List UInt8->List UInt8->Int->Option (Bool×Unit))(aj:List UInt8)(str0__0:List UInt8)(pos0__0:Int)(j2:Bool):Option (Bool×Unit):=
  (bif decide ((yo str0__0 pos0__0).1 >= 48)then (bif decide ((yo str0__0 pos0__0).1<=57)then (y64 n r0 aj str0__0 pos0__0 j2 (Bool.true))else (y64 n r0 aj str0__0 pos0__0 j2 ((yo str0__0 pos0__0).1==95)))else (y64 n r0 aj str0__0 pos0__0 j2 ((yo str0__0 pos0__0).1==95)))
def yFK(n:Nat)(r0:List UInt8->List UInt8->Int->Option (Bool×Unit))(aj:List UInt8)(str0__0:List UInt8)(pos0__0:Int):Option (Bool×Unit):=
  (bif decide (pos0__0 < (↑str0__0.length:Int))then (bif decide ((yo str0__0 pos0__0).1 >= 65)then (bif decide ((yo str0__0 pos0__0).1<=90)then (y3U n r0 aj str0__0 pos0__0 (Bool.true))else (bif decide ((yo str0__0 pos0__0).1 >= 97)then (y3U n r0 aj str0__0 pos0__0 (decide ((yo str0__0 pos0__0).1<=122)))else (y3U n r0 aj str0__0 pos0__0 (Bool.false))))else (bif decide ((yo str0__0 pos0__0).1 >= 97)then (y3U n r0 aj str0__0 pos0__0 (decide ((yo str0__0 pos0__0).1<=122)))else (y3U n r0 aj str0__0 pos0__0 (Bool.false))))else (bif !aj==[]then some (decide ((↑aj.length:Int)<=24),())else some (Bool.false,())))
def y7q(n:Nat)(k:Nat)(aj:List UInt8)(str0__0:List UInt8)(pos0__0:Int):Option (Bool×Unit):=
  iter (λ r y=>yFK n (λ aj str0__0 pos0__0=>r ((aj,()),(((str0__0,pos0__0),()),()))) y.1.1 y.2.1.1.1 y.2.1.1.2) k ((aj,()),(((str0__0,pos0__0),()),()))
def yRP(n:Nat)(s:List UInt8):Option (Bool×Unit):=
  (y7q n n (s) (s) ((0:Int)))
def y8s(aj:List UInt8)(str0__0:List UInt8)(pos0__0:Int)(j2:Bool)(j7:Bool):Option ((Bool×Unit)⊕Unit):=
  (bif !j2 then (bif pos0__0==0 then (some (Sum.inl ((Bool.false,()))))else (bif !j7 then (some (Sum.inl ((Bool.false,()))))else (some (Sum.inr ()))))else (some (Sum.inr ())))
theorem y1M(n:Nat)(hn:big<=n)(r0:List UInt8->List UInt8->Int->Option (Bool×Unit))(aj:List UInt8)(str0__0:List UInt8)(pos0__0:Int)(j2:Bool)(j7:Bool):LeF (elim some λ (ae:Unit)=>r0 aj str0__0 (yo (str0__0) pos0__0).2) (y8s aj str0__0 pos0__0 j2 j7) (y64 n r0 aj str0__0 pos0__0 j2 j7):=
  (y6 (y6 (y8 rfl) (y6 (y8 rfl) (y8 rfl))) (y8 rfl))
def y5S(aj:List UInt8)(str0__0:List UInt8)(pos0__0:Int)(j2:Bool):Option ((Bool×Unit)⊕Unit):=
  (bif decide ((yo str0__0 pos0__0).1 >= 48)then (bif decide ((yo str0__0 pos0__0).1<=57)then (y8s aj str0__0 pos0__0 j2 (Bool.true))else (y8s aj str0__0 pos0__0 j2 ((yo str0__0 pos0__0).1==95)))else (y8s aj str0__0 pos0__0 j2 ((yo str0__0 pos0__0).1==95)))
theorem y0B(n:Nat)(hn:big<=n)(r0:List UInt8->List UInt8->Int->Option (Bool×Unit))(aj:List UInt8)(str0__0:List UInt8)(pos0__0:Int)(j2:Bool):LeF (elim some λ (ae:Unit)=>r0 aj str0__0 (yo (str0__0) pos0__0).2) (y5S aj str0__0 pos0__0 j2) (y3U n r0 aj str0__0 pos0__0 j2):=
  (y6 (y6 (by apply y1M n hn) (by apply y1M n hn)) (by apply y1M n hn))
def yDH(aj:List UInt8)(str0__0:List UInt8)(pos0__0:Int):Option ((Bool×Unit)⊕Unit):=
  (bif decide ((yo str0__0 pos0__0).1 >= 65)then (bif decide ((yo str0__0 pos0__0).1<=90)then (y5S aj str0__0 pos0__0 (Bool.true))else (bif decide ((yo str0__0 pos0__0).1 >= 97)then (y5S aj str0__0 pos0__0 (decide ((yo str0__0 pos0__0).1<=122)))else (y5S aj str0__0 pos0__0 (Bool.false))))else (bif decide ((yo str0__0 pos0__0).1 >= 97)then (y5S aj str0__0 pos0__0 (decide ((yo str0__0 pos0__0).1<=122)))else (y5S aj str0__0 pos0__0 (Bool.false))))
def yCh(aj:List UInt8)(str0__0:List UInt8):Option (Bool×Unit):=
  (bif !aj==[]then (some ((decide ((↑aj.length:Int)<=24),())))else (some ((Bool.false,()))))
theorem yEQ(n:Nat)(hn:big<=n)(aj:List UInt8)(str0__0:List UInt8)(hx:List.length (str0__0) < lenMax):LeF some (y9p (str0__0) (λ af ae=>yDH aj str0__0 af) (λ ae=>yCh aj str0__0) (List.length (str0__0)) 0 ()) (y7q n n aj str0__0 0):=by
  refine yLi (f:=some) (W:=λ ak af ae=>y7q n ak aj str0__0 af) (λ ak af ae=>?_) () n (by unfold big at hn;unfold lenMax at hx;omega)
  show LeF _ _ (yFK n (y7q n ak) aj str0__0 af)
  exact y6 (y6 (y6 (by apply y0B n hn) (y6 (by apply y0B n hn) (by apply y0B n hn))) (y6 (by apply y0B n hn) (by apply y0B n hn))) (y06 (y6 (y8 rfl) (y8 rfl)))
def yJj(s:List UInt8):Option (Bool×Unit):=
  (bif decide (List.length (s) < lenMax)then y9p (s) (λ af ae=>yDH (s) (s) af) (λ ae=>yCh (s) (s)) (List.length (s)) 0 ()else none)
abbrev z0F_e:Entry:={ f:=100,args:=.pair t9 .unit,rS:=.pair t4 .unit,m:=λ x=>yJj x.1 }
theorem yQO:FnOK Tryz.prog z0F_e:=fB Tryz.f100 (λ n x=>yRP n x.1) [[0,8,16,17,20,21,22,23,24,25,30,31,34,35,40,41,42,43,44,45,50,51,52]] eNil λ n hn x=>(yN λ hx=>by apply yEQ n hn;exact hx)
def yJ8(n:Nat)(r0:(Lnk×Unit->Option (Int×Unit))->List Lnk->Int->Int->List Int->Option (List Int×Unit))(a7:Lnk×Unit->Option (Int×Unit))(a8:List Lnk)(ah:Int)(ac:Int)(aa:List Int):Option (List Int×Unit):=
  (bif decide (ac < ah)then ((idx a8 ac).bind λ v1=>((a7 ((v1.1,v1.2.1,v1.2.2.1,v1.2.2.2.1,v1.2.2.2.2.1,()),())).bind λ v2=>(bif decide (aa.length+(1:Nat)<=memMax)then r0 a7 a8 ah (i64.wrap (ac+1)) (aa++[v2.1])else none)))else some (aa,()))
def yBv(n:Nat)(k:Nat)(a7:Lnk×Unit->Option (Int×Unit))(a8:List Lnk)(ah:Int)(ac:Int)(aa:List Int):Option (List Int×Unit):=
  iter (λ r y=>yJ8 n (λ a7 a8 ah ac aa=>r ((a7,(a8,(ah,(ac,())))),((aa,()),()))) y.1.1 y.1.2.1 y.1.2.2.1 y.1.2.2.2.1 y.2.1.1) k ((a7,(a8,(ah,(ac,())))),((aa,()),()))
def zB_m(n:Nat)(l:List Lnk)(of:Lnk×Unit->Option (Int×Unit)):Option (List Int×Unit):=
  (yBv n n (of) (l) ((↑l.length:Int)) ((0:Int)) ([]))
def yNU(a7:Lnk×Unit->Option (Int×Unit))(a8:List Lnk)(ac:Int)(v1:Lnk)(aa:List Int):Option ((List Int×Unit)⊕(List Int)):=
  ((a7 ((v1.1,v1.2.1,v1.2.2.1,v1.2.2.2.1,v1.2.2.2.2.1,()),())).bind λ v2=>(bif decide (aa.length+(1:Nat)<=memMax)then (some (Sum.inr (aa++[v2.1])))else none))
def yQN(a7:Lnk×Unit->Option (Int×Unit))(a8:List Lnk)(aa:List Int):Option (List Int×Unit):=
  (some ((aa,())))
theorem yGt(n:Nat)(hn:big<=n)(a7:Lnk×Unit->Option (Int×Unit))(a8:List Lnk)(aa:List Int)(hx:List.length (a8) < lenMax):LeF some (yK (λ af am ae=>yNU a7 a8 af am ae) (λ ae=>yQN a7 a8 ae) 0 (a8) aa) (yBv n n a7 a8 (List.length (a8):Int) 0 aa):=by
  refine yP (f:=some) (W:=λ ak af ae=>yBv n ak a7 a8 (List.length (a8):Int) af ae) (λ ak af ae=>?_) hx aa n (by unfold big at hn;unfold lenMax at hx;omega)
  show LeF _ _ (yJ8 n (yBv n ak) a7 a8 (List.length (a8):Int) af ae)
  exact y6 (y9 λ v1=>(y9 λ v2=>(y6 (y8 rfl) y0H))) (y06 (y8 rfl))
def zB_M(l:List Lnk)(of:Lnk×Unit->Option (Int×Unit)):Option (List Int×Unit):=
  (bif decide (List.length (l) < lenMax)then yK (λ af am ae=>yNU (of) (l) af am ae) (λ ae=>yQN (of) (l) ae) 0 (l) ([])else none)
abbrev zB_e:Entry:={ f:=101,args:=.pair t39 (.pair t177 .unit),rS:=.pair t174 .unit,m:=λ x=>zB_M x.1 x.2.1 }
theorem yRN:FnOK Tryz.prog zB_e:=fB (mu:=[5]) Tryz.f101 (λ n x=>zB_m n x.1 x.2.1) [[1,5,8,9,10]] eNil λ n hn x=>(yN λ hx=>by apply yGt n hn;exact hx)
def yJ9(n:Nat)(r0:(Rng×Unit->Option (Cnd×Unit))->List Rng->Int->Int->List Cnd->Option (List Cnd×Unit))(a7:Rng×Unit->Option (Cnd×Unit))(a8:List Rng)(ah:Int)(ac:Int)(aa:List Cnd):Option (List Cnd×Unit):=
  (bif decide (ac < ah)then ((idx a8 ac).bind λ v1=>((a7 (((v1.1.1,v1.1.2.1,()),v1.2.1,v1.2.2.1,()),())).bind λ v2=>(bif decide (aa.length+(1:Nat)<=memMax)then r0 a7 a8 ah (i64.wrap (ac+1)) (aa++[v2.1])else none)))else some (aa,()))
def yBE(n:Nat)(k:Nat)(a7:Rng×Unit->Option (Cnd×Unit))(a8:List Rng)(ah:Int)(ac:Int)(aa:List Cnd):Option (List Cnd×Unit):=
  iter (λ r y=>yJ9 n (λ a7 a8 ah ac aa=>r ((a7,(a8,(ah,(ac,())))),((aa,()),()))) y.1.1 y.1.2.1 y.1.2.2.1 y.1.2.2.2.1 y.2.1.1) k ((a7,(a8,(ah,(ac,())))),((aa,()),()))
def z6_m(n:Nat)(l:List Rng)(of:Rng×Unit->Option (Cnd×Unit)):Option (List Cnd×Unit):=
  (yBE n n (of) (l) ((↑l.length:Int)) ((0:Int)) ([]))
def yOP(a7:Rng×Unit->Option (Cnd×Unit))(a8:List Rng)(ac:Int)(v1:Rng)(aa:List Cnd):Option ((List Cnd×Unit)⊕(List Cnd)):=
  ((a7 (((v1.1.1,v1.1.2.1,()),v1.2.1,v1.2.2.1,()),())).bind λ v2=>(bif decide (aa.length+(1:Nat)<=memMax)then (some (Sum.inr (aa++[v2.1])))else none))
def yPx(a7:Rng×Unit->Option (Cnd×Unit))(a8:List Rng)(aa:List Cnd):Option (List Cnd×Unit):=
  (some ((aa,())))
theorem yHD(n:Nat)(hn:big<=n)(a7:Rng×Unit->Option (Cnd×Unit))(a8:List Rng)(aa:List Cnd)(hx:List.length (a8) < lenMax):LeF some (yK (λ af am ae=>yOP a7 a8 af am ae) (λ ae=>yPx a7 a8 ae) 0 (a8) aa) (yBE n n a7 a8 (List.length (a8):Int) 0 aa):=by
  refine yP (f:=some) (W:=λ ak af ae=>yBE n ak a7 a8 (List.length (a8):Int) af ae) (λ ak af ae=>?_) hx aa n (by unfold big at hn;unfold lenMax at hx;omega)
  show LeF _ _ (yJ9 n (yBE n ak) a7 a8 (List.length (a8):Int) af ae)
  exact y6 (y9 λ v1=>(y9 λ v2=>(y6 (y8 rfl) y0H))) (y06 (y8 rfl))
def z6_M(l:List Rng)(of:Rng×Unit->Option (Cnd×Unit)):Option (List Cnd×Unit):=
  (bif decide (List.length (l) < lenMax)then yK (λ af am ae=>yOP (of) (l) af am ae) (λ ae=>yPx (of) (l) ae) 0 (l) ([])else none)
abbrev z6_e:Entry:={ f:=109,args:=.pair t108 (.pair t186 .unit),rS:=.pair t54 .unit,m:=λ x=>z6_M x.1 x.2.1 }
theorem yQ7:FnOK Tryz.prog z6_e:=fB (mu:=[5]) Tryz.f109 (λ n x=>z6_m n x.1 x.2.1) [[1,5,8,9,10]] eNil λ n hn x=>(yN λ hx=>by apply yHD n hn;exact hx)
def yO7(n:Nat)(r0:(Int×Unit->Option (List UInt8×Unit))->List Int->Int->Int->List (List UInt8)->Option (List (List UInt8)×Unit))(a7:Int×Unit->Option (List UInt8×Unit))(a8:List Int)(ah:Int)(ac:Int)(aa:List (List UInt8)):Option (List (List UInt8)×Unit):=
  (bif decide (ac < ah)then ((idx a8 ac).bind λ v1=>((a7 (v1,())).bind λ v2=>(bif decide (aa.length+(1:Nat)<=memMax)then r0 a7 a8 ah (i64.wrap (ac+1)) (aa++[v2.1])else none)))else some (aa,()))
def yOE(n:Nat)(k:Nat)(a7:Int×Unit->Option (List UInt8×Unit))(a8:List Int)(ah:Int)(ac:Int)(aa:List (List UInt8)):Option (List (List UInt8)×Unit):=
  iter (λ r y=>yO7 n (λ a7 a8 ah ac aa=>r ((a7,(a8,(ah,(ac,())))),((aa,()),()))) y.1.1 y.1.2.1 y.1.2.2.1 y.1.2.2.2.1 y.2.1.1) k ((a7,(a8,(ah,(ac,())))),((aa,()),()))
def zM_m(n:Nat)(l:List Int)(of:Int×Unit->Option (List UInt8×Unit)):Option (List (List UInt8)×Unit):=
  (yOE n n (of) (l) ((↑l.length:Int)) ((0:Int)) ([]))
def zM_M(l:List Int)(of:Int×Unit->Option (List UInt8×Unit)):Option (List (List UInt8)×Unit):=zM_m 1000 l of
abbrev zM_e:Entry:={ f:=128,args:=.pair t26 (.pair t208 .unit),rS:=.pair t67 .unit,m:=λ x=>zM_M x.1 x.2.1 }
theorem yQm:FnOK Tryz.prog zM_e:=fF (mu:=[5]) 1000 Tryz.f128 (λ n x=>zM_m n x.1 x.2.1) [[1,5,8,9,10]] eNil
def yKa(n:Nat)(r0:(Int×Unit->Option (Int×Unit))->List Int->Int->Int->List Int->Option (List Int×Unit))(a7:Int×Unit->Option (Int×Unit))(a8:List Int)(ah:Int)(ac:Int)(aa:List Int):Option (List Int×Unit):=
  (bif decide (ac < ah)then ((idx a8 ac).bind λ v1=>((a7 (v1,())).bind λ v2=>(bif decide (aa.length+(1:Nat)<=memMax)then r0 a7 a8 ah (i64.wrap (ac+1)) (aa++[v2.1])else none)))else some (aa,()))
def yBz(n:Nat)(k:Nat)(a7:Int×Unit->Option (Int×Unit))(a8:List Int)(ah:Int)(ac:Int)(aa:List Int):Option (List Int×Unit):=
  iter (λ r y=>yKa n (λ a7 a8 ah ac aa=>r ((a7,(a8,(ah,(ac,())))),((aa,()),()))) y.1.1 y.1.2.1 y.1.2.2.1 y.1.2.2.2.1 y.2.1.1) k ((a7,(a8,(ah,(ac,())))),((aa,()),()))
def zH_m(n:Nat)(l:List Int)(of:Int×Unit->Option (Int×Unit)):Option (List Int×Unit):=
  (yBz n n (of) (l) ((↑l.length:Int)) ((0:Int)) ([]))
def yQ2(a7:Int×Unit->Option (Int×Unit))(a8:List Int)(ac:Int)(v1:Int)(aa:List Int):Option ((List Int×Unit)⊕(List Int)):=
  ((a7 (v1,())).bind λ v2=>(bif decide (aa.length+(1:Nat)<=memMax)then (some (Sum.inr (aa++[v2.1])))else none))
def yP8(a7:Int×Unit->Option (Int×Unit))(a8:List Int)(aa:List Int):Option (List Int×Unit):=
  (some ((aa,())))
theorem yHJ(n:Nat)(hn:big<=n)(a7:Int×Unit->Option (Int×Unit))(a8:List Int)(aa:List Int)(hx:List.length (a8) < lenMax):LeF some (yK (λ af am ae=>yQ2 a7 a8 af am ae) (λ ae=>yP8 a7 a8 ae) 0 (a8) aa) (yBz n n a7 a8 (List.length (a8):Int) 0 aa):=by
  refine yP (f:=some) (W:=λ ak af ae=>yBz n ak a7 a8 (List.length (a8):Int) af ae) (λ ak af ae=>?_) hx aa n (by unfold big at hn;unfold lenMax at hx;omega)
  show LeF _ _ (yKa n (yBz n ak) a7 a8 (List.length (a8):Int) af ae)
  exact y6 (y9 λ v1=>(y9 λ v2=>(y6 (y8 rfl) y0H))) (y06 (y8 rfl))
def zH_M(l:List Int)(of:Int×Unit->Option (Int×Unit)):Option (List Int×Unit):=
  (bif decide (List.length (l) < lenMax)then yK (λ af am ae=>yQ2 (of) (l) af am ae) (λ ae=>yP8 (of) (l) ae) 0 (l) ([])else none)
abbrev zH_e:Entry:={ f:=138,args:=.pair t26 (.pair t176 .unit),rS:=.pair t174 .unit,m:=λ x=>zH_M x.1 x.2.1 }
theorem yQc:FnOK Tryz.prog zH_e:=fB (mu:=[5]) Tryz.f138 (λ n x=>zH_m n x.1 x.2.1) [[1,5,8,9,10]] eNil λ n hn x=>(yN λ hx=>by apply yHJ n hn;exact hx)
def y4F(n:Nat)(r2:List UInt8->Int->Option (Bool×Unit))(ar:List UInt8)(ax:Int)(v3:UInt8):Option (Bool×Unit):=
  (bif ax==0 then some (Bool.false,())else (bif (↑v3.toNat:Int) != 95 then (bif decide ((↑v3.toNat:Int) < 48)then some (Bool.false,())else (bif decide ((↑v3.toNat:Int) > 57)then some (Bool.false,())else r2 ar (i64.wrap (ax+1))))else r2 ar (i64.wrap (ax+1))))
def yGZ(n:Nat)(r2:List UInt8->Int->Option (Bool×Unit))(ar:List UInt8)(ax:Int):Option (Bool×Unit):=
  (bif decide (ax < (↑ar.length:Int))then ((idx ar ax).bind λ v3=>(bif decide ((↑v3.toNat:Int) >= 97)then (bif decide ((↑v3.toNat:Int)<=122)then r2 ar (i64.wrap (ax+1))else (bif decide ((↑v3.toNat:Int) >= 65)then (bif decide ((↑v3.toNat:Int)<=90)then r2 ar (i64.wrap (ax+1))else (y4F n r2 ar ax v3))else (y4F n r2 ar ax v3)))else (bif decide ((↑v3.toNat:Int) >= 65)then (bif decide ((↑v3.toNat:Int)<=90)then r2 ar (i64.wrap (ax+1))else (y4F n r2 ar ax v3))else (y4F n r2 ar ax v3))))else some (Bool.true,()))
def y7a(n:Nat)(k:Nat)(ar:List UInt8)(ax:Int):Option (Bool×Unit):=
  iter (λ r y=>yGZ n (λ ar ax=>r ((ar,(ax,())),((),()))) y.1.1 y.1.2.1) k ((ar,(ax,())),((),()))
def yRC(n:Nat)(s:List UInt8):Option (Bool×Unit):=
  (bif (↑s.length:Int)==0 then some (Bool.false,())else (bif decide ((↑s.length:Int) > 24)then some (Bool.false,())else (y7a n n (s) ((0:Int)))))
def y6Y(ar:List UInt8)(ax:Int)(v3:UInt8):Option ((Bool×Unit)⊕Unit):=
  (bif ax==0 then (some (Sum.inl ((Bool.false,()))))else (bif (↑v3.toNat:Int) != 95 then (bif decide ((↑v3.toNat:Int) < 48)then (some (Sum.inl ((Bool.false,()))))else (bif decide ((↑v3.toNat:Int) > 57)then (some (Sum.inl ((Bool.false,()))))else (some (Sum.inr ()))))else (some (Sum.inr ()))))
theorem y0Y(n:Nat)(hn:big<=n)(r2:List UInt8->Int->Option (Bool×Unit))(ar:List UInt8)(ax:Int)(v3:UInt8):LeF (elim some λ (ae:Unit)=>r2 ar (i64.wrap (ax+1))) (y6Y ar ax v3) (y4F n r2 ar ax v3):=
  (y6 (y8 rfl) (y6 (y6 (y8 rfl) (y6 (y8 rfl) (y8 rfl))) (y8 rfl)))
def yDE(ar:List UInt8)(ax:Int)(v3:UInt8):Option ((Bool×Unit)⊕Unit):=
  (bif decide ((↑v3.toNat:Int) >= 97)then (bif decide ((↑v3.toNat:Int)<=122)then (some (Sum.inr ()))else (bif decide ((↑v3.toNat:Int) >= 65)then (bif decide ((↑v3.toNat:Int)<=90)then (some (Sum.inr ()))else (y6Y ar ax v3))else (y6Y ar ax v3)))else (bif decide ((↑v3.toNat:Int) >= 65)then (bif decide ((↑v3.toNat:Int)<=90)then (some (Sum.inr ()))else (y6Y ar ax v3))else (y6Y ar ax v3)))
def yLP(ar:List UInt8):Option (Bool×Unit):=
  (some ((Bool.true,())))
theorem yEc(n:Nat)(hn:big<=n)(ar:List UInt8)(hx:List.length (ar) < lenMax):LeF some (yK (λ af am ae=>yDE ar af am) (λ ae=>yLP ar) 0 (ar) ()) (y7a n n ar 0):=by
  refine yP (f:=some) (W:=λ ak af ae=>y7a n ak ar af) (λ ak af ae=>?_) hx () n (by unfold big at hn;unfold lenMax at hx;omega)
  show LeF _ _ (yGZ n (y7a n ak) ar af)
  exact y6 (y9 λ v3=>(y6 (y6 (y8 rfl) (y6 (y6 (y8 rfl) (by apply y0Y n hn)) (by apply y0Y n hn))) (y6 (y6 (y8 rfl) (by apply y0Y n hn)) (by apply y0Y n hn)))) (y06 (y8 rfl))
def yIE(s:List UInt8):Option (Bool×Unit):=
  (bif (↑s.length:Int)==0 then (some ((Bool.false,())))else (bif decide ((↑s.length:Int) > 24)then (some ((Bool.false,())))else (bif decide (List.length (s) < lenMax)then yK (λ af am ae=>yDE (s) af am) (λ ae=>yLP (s)) 0 (s) ()else none)))
abbrev z0H_e:Entry:={ f:=143,args:=.pair t9 .unit,rS:=.pair t4 .unit,m:=λ x=>yIE x.1 }
theorem yOj:FnOK Tryz.prog z0H_e:=fB Tryz.f143 (λ n x=>yRC n x.1) [[0,3,25,26,29,30,31,32,33,34,39,40,41,42,43,44,45,46,47,48]] eNil λ n hn x=>(y6 (y8 rfl) (y6 (y8 rfl) (yN λ hx=>by apply yEc n hn;exact hx)))
def yJB(n:Nat)(r0:(Cnd×Unit->Option (Int×Unit))->List Cnd->Int->Int->List Int->Option (List Int×Unit))(a7:Cnd×Unit->Option (Int×Unit))(a8:List Cnd)(ah:Int)(ac:Int)(aa:List Int):Option (List Int×Unit):=
  (bif decide (ac < ah)then ((idx a8 ac).bind λ v1=>((a7 ((v1.1,v1.2.1,v1.2.2.1,()),())).bind λ v2=>(bif decide (aa.length+(1:Nat)<=memMax)then r0 a7 a8 ah (i64.wrap (ac+1)) (aa++[v2.1])else none)))else some (aa,()))
def yBk(n:Nat)(k:Nat)(a7:Cnd×Unit->Option (Int×Unit))(a8:List Cnd)(ah:Int)(ac:Int)(aa:List Int):Option (List Int×Unit):=
  iter (λ r y=>yJB n (λ a7 a8 ah ac aa=>r ((a7,(a8,(ah,(ac,())))),((aa,()),()))) y.1.1 y.1.2.1 y.1.2.2.1 y.1.2.2.2.1 y.2.1.1) k ((a7,(a8,(ah,(ac,())))),((aa,()),()))
def z7_m(n:Nat)(l:List Cnd)(of:Cnd×Unit->Option (Int×Unit)):Option (List Int×Unit):=
  (yBk n n (of) (l) ((↑l.length:Int)) ((0:Int)) ([]))
def yP1(a7:Cnd×Unit->Option (Int×Unit))(a8:List Cnd)(ac:Int)(v1:Cnd)(aa:List Int):Option ((List Int×Unit)⊕(List Int)):=
  ((a7 ((v1.1,v1.2.1,v1.2.2.1,()),())).bind λ v2=>(bif decide (aa.length+(1:Nat)<=memMax)then (some (Sum.inr (aa++[v2.1])))else none))
def yQ5(a7:Cnd×Unit->Option (Int×Unit))(a8:List Cnd)(aa:List Int):Option (List Int×Unit):=
  (some ((aa,())))
theorem yH1(n:Nat)(hn:big<=n)(a7:Cnd×Unit->Option (Int×Unit))(a8:List Cnd)(aa:List Int)(hx:List.length (a8) < lenMax):LeF some (yK (λ af am ae=>yP1 a7 a8 af am ae) (λ ae=>yQ5 a7 a8 ae) 0 (a8) aa) (yBk n n a7 a8 (List.length (a8):Int) 0 aa):=by
  refine yP (f:=some) (W:=λ ak af ae=>yBk n ak a7 a8 (List.length (a8):Int) af ae) (λ ak af ae=>?_) hx aa n (by unfold big at hn;unfold lenMax at hx;omega)
  show LeF _ _ (yJB n (yBk n ak) a7 a8 (List.length (a8):Int) af ae)
  exact y6 (y9 λ v1=>(y9 λ v2=>(y6 (y8 rfl) y0H))) (y06 (y8 rfl))
def z7_M(l:List Cnd)(of:Cnd×Unit->Option (Int×Unit)):Option (List Int×Unit):=
  (bif decide (List.length (l) < lenMax)then yK (λ af am ae=>yP1 (of) (l) af am ae) (λ ae=>yQ5 (of) (l) ae) 0 (l) ([])else none)
abbrev z7_e:Entry:={ f:=147,args:=.pair t54 (.pair t156 .unit),rS:=.pair t174 .unit,m:=λ x=>z7_M x.1 x.2.1 }
theorem yQs:FnOK Tryz.prog z7_e:=fB (mu:=[5]) Tryz.f147 (λ n x=>z7_m n x.1 x.2.1) [[1,5,8,9,10]] eNil λ n hn x=>(yN λ hx=>by apply yH1 n hn;exact hx)
def yIa(n:Nat)(r0:(Psg×Unit->Option (List Int×Unit))->List Psg->Int->Int->List (List Int)->Option (List (List Int)×Unit))(a7:Psg×Unit->Option (List Int×Unit))(a8:List Psg)(ah:Int)(ac:Int)(aa:List (List Int)):Option (List (List Int)×Unit):=
  (bif decide (ac < ah)then ((idx a8 ac).bind λ v1=>((a7 (((v1.1.1,v1.1.2.1,v1.1.2.2.1,()),v1.2.1,v1.2.2.1,()),())).bind λ v2=>(bif decide (aa.length+(1:Nat)<=memMax)then r0 a7 a8 ah (i64.wrap (ac+1)) (aa++[v2.1])else none)))else some (aa,()))
def yBO(n:Nat)(k:Nat)(a7:Psg×Unit->Option (List Int×Unit))(a8:List Psg)(ah:Int)(ac:Int)(aa:List (List Int)):Option (List (List Int)×Unit):=
  iter (λ r y=>yIa n (λ a7 a8 ah ac aa=>r ((a7,(a8,(ah,(ac,())))),((aa,()),()))) y.1.1 y.1.2.1 y.1.2.2.1 y.1.2.2.2.1 y.2.1.1) k ((a7,(a8,(ah,(ac,())))),((aa,()),()))
def zC_m(n:Nat)(l:List Psg)(of:Psg×Unit->Option (List Int×Unit)):Option (List (List Int)×Unit):=
  (yBO n n (of) (l) ((↑l.length:Int)) ((0:Int)) ([]))
def yNb(a7:Psg×Unit->Option (List Int×Unit))(a8:List Psg)(ac:Int)(v1:Psg)(aa:List (List Int)):Option ((List (List Int)×Unit)⊕(List (List Int))):=
  ((a7 (((v1.1.1,v1.1.2.1,v1.1.2.2.1,()),v1.2.1,v1.2.2.1,()),())).bind λ v2=>(bif decide (aa.length+(1:Nat)<=memMax)then (some (Sum.inr (aa++[v2.1])))else none))
def yQg(a7:Psg×Unit->Option (List Int×Unit))(a8:List Psg)(aa:List (List Int)):Option (List (List Int)×Unit):=
  (some ((aa,())))
theorem yHT(n:Nat)(hn:big<=n)(a7:Psg×Unit->Option (List Int×Unit))(a8:List Psg)(aa:List (List Int))(hx:List.length (a8) < lenMax):LeF some (yK (λ af am ae=>yNb a7 a8 af am ae) (λ ae=>yQg a7 a8 ae) 0 (a8) aa) (yBO n n a7 a8 (List.length (a8):Int) 0 aa):=by
  refine yP (f:=some) (W:=λ ak af ae=>yBO n ak a7 a8 (List.length (a8):Int) af ae) (λ ak af ae=>?_) hx aa n (by unfold big at hn;unfold lenMax at hx;omega)
  show LeF _ _ (yIa n (yBO n ak) a7 a8 (List.length (a8):Int) af ae)
  exact y6 (y9 λ v1=>(y9 λ v2=>(y6 (y8 rfl) y0H))) (y06 (y8 rfl))
def zC_M(l:List Psg)(of:Psg×Unit->Option (List Int×Unit)):Option (List (List Int)×Unit):=
  (bif decide (List.length (l) < lenMax)then yK (λ af am ae=>yNb (of) (l) af am ae) (λ ae=>yQg (of) (l) ae) 0 (l) ([])else none)
abbrev zC_e:Entry:={ f:=148,args:=.pair t167 (.pair t237 .unit),rS:=.pair t56 .unit,m:=λ x=>zC_M x.1 x.2.1 }
theorem yR7:FnOK Tryz.prog zC_e:=fB (mu:=[5]) Tryz.f148 (λ n x=>zC_m n x.1 x.2.1) [[1,5,8,9,10]] eNil λ n hn x=>(yN λ hx=>by apply yHT n hn;exact hx)
def zw_m(n:Nat)(p:Psg):Option (List Int×Unit):=
  some (p.2.2.1.getD [],())
def zw(p:Psg):(List Int×Unit):=
  (p.2.2.1.getD [],())
abbrev zw_M (p:Psg):Option (List Int×Unit):=some (zw p)
abbrev zw_e:Entry:={ f:=149,args:=.pair t180 .unit,rS:=.pair t26 .unit,m:=λ x=>zw_M x.1 }
theorem yRQ:FnOK Tryz.prog zw_e:=fF (hm:=by intro x;show some (zw x.1)=zw_m 0 x.1;unfold zw_m zw;first|rfl|simp only[yq]) 0 Tryz.f149 (λ n x=>zw_m n x.1) [] eNil
def yLG(n:Nat)(r0:(Rng×Unit->Option (Int×Unit))->List Rng->Int->Int->List Int->Option (List Int×Unit))(a7:Rng×Unit->Option (Int×Unit))(a8:List Rng)(ah:Int)(ac:Int)(aa:List Int):Option (List Int×Unit):=
  (bif decide (ac < ah)then ((idx a8 ac).bind λ v1=>((a7 (((v1.1.1,v1.1.2.1,()),v1.2.1,v1.2.2.1,()),())).bind λ v2=>(bif decide (aa.length+(1:Nat)<=memMax)then r0 a7 a8 ah (i64.wrap (ac+1)) (aa++[v2.1])else none)))else some (aa,()))
def yC4(n:Nat)(k:Nat)(a7:Rng×Unit->Option (Int×Unit))(a8:List Rng)(ah:Int)(ac:Int)(aa:List Int):Option (List Int×Unit):=
  iter (λ r y=>yLG n (λ a7 a8 ah ac aa=>r ((a7,(a8,(ah,(ac,())))),((aa,()),()))) y.1.1 y.1.2.1 y.1.2.2.1 y.1.2.2.2.1 y.2.1.1) k ((a7,(a8,(ah,(ac,())))),((aa,()),()))
def zA_m(n:Nat)(l:List Rng)(of:Rng×Unit->Option (Int×Unit)):Option (List Int×Unit):=
  (yC4 n n (of) (l) ((↑l.length:Int)) ((0:Int)) ([]))
def yNa(a7:Rng×Unit->Option (Int×Unit))(a8:List Rng)(ac:Int)(v1:Rng)(aa:List Int):Option ((List Int×Unit)⊕(List Int)):=
  ((a7 (((v1.1.1,v1.1.2.1,()),v1.2.1,v1.2.2.1,()),())).bind λ v2=>(bif decide (aa.length+(1:Nat)<=memMax)then (some (Sum.inr (aa++[v2.1])))else none))
def yQI(a7:Rng×Unit->Option (Int×Unit))(a8:List Rng)(aa:List Int):Option (List Int×Unit):=
  (some ((aa,())))
theorem yIC(n:Nat)(hn:big<=n)(a7:Rng×Unit->Option (Int×Unit))(a8:List Rng)(aa:List Int)(hx:List.length (a8) < lenMax):LeF some (yK (λ af am ae=>yNa a7 a8 af am ae) (λ ae=>yQI a7 a8 ae) 0 (a8) aa) (yC4 n n a7 a8 (List.length (a8):Int) 0 aa):=by
  refine yP (f:=some) (W:=λ ak af ae=>yC4 n ak a7 a8 (List.length (a8):Int) af ae) (λ ak af ae=>?_) hx aa n (by unfold big at hn;unfold lenMax at hx;omega)
  show LeF _ _ (yLG n (yC4 n ak) a7 a8 (List.length (a8):Int) af ae)
  exact y6 (y9 λ v1=>(y9 λ v2=>(y6 (y8 rfl) y0H))) (y06 (y8 rfl))
def zA_M(l:List Rng)(of:Rng×Unit->Option (Int×Unit)):Option (List Int×Unit):=
  (bif decide (List.length (l) < lenMax)then yK (λ af am ae=>yNa (of) (l) af am ae) (λ ae=>yQI (of) (l) ae) 0 (l) ([])else none)
abbrev zA_e:Entry:={ f:=153,args:=.pair t108 (.pair t190 .unit),rS:=.pair t174 .unit,m:=λ x=>zA_M x.1 x.2.1 }
theorem yQl:FnOK Tryz.prog zA_e:=fB (mu:=[5]) Tryz.f153 (λ n x=>zA_m n x.1 x.2.1) [[1,5,8,9,10]] eNil λ n hn x=>(yN λ hx=>by apply yIC n hn;exact hx)
def yJg(n:Nat)(r0:((Int×Int×Unit)×Unit->Option (Int×Unit))->List (Int×Int×Unit)->Int->Int->List Int->Option (List Int×Unit))(a7:(Int×Int×Unit)×Unit->Option (Int×Unit))(a8:List (Int×Int×Unit))(ah:Int)(ac:Int)(aa:List Int):Option (List Int×Unit):=
  (bif decide (ac < ah)then ((idx a8 ac).bind λ v1=>((a7 ((v1.1,v1.2.1,()),())).bind λ v2=>(bif decide (aa.length+(1:Nat)<=memMax)then r0 a7 a8 ah (i64.wrap (ac+1)) (aa++[v2.1])else none)))else some (aa,()))
def yBK(n:Nat)(k:Nat)(a7:(Int×Int×Unit)×Unit->Option (Int×Unit))(a8:List (Int×Int×Unit))(ah:Int)(ac:Int)(aa:List Int):Option (List Int×Unit):=
  iter (λ r y=>yJg n (λ a7 a8 ah ac aa=>r ((a7,(a8,(ah,(ac,())))),((aa,()),()))) y.1.1 y.1.2.1 y.1.2.2.1 y.1.2.2.2.1 y.2.1.1) k ((a7,(a8,(ah,(ac,())))),((aa,()),()))
def z8_m(n:Nat)(l:List (Int×Int×Unit))(of:(Int×Int×Unit)×Unit->Option (Int×Unit)):Option (List Int×Unit):=
  (yBK n n (of) (l) ((↑l.length:Int)) ((0:Int)) ([]))
def yO8(a7:(Int×Int×Unit)×Unit->Option (Int×Unit))(a8:List (Int×Int×Unit))(ac:Int)(v1:Int×Int×Unit)(aa:List Int):Option ((List Int×Unit)⊕(List Int)):=
  ((a7 ((v1.1,v1.2.1,()),())).bind λ v2=>(bif decide (aa.length+(1:Nat)<=memMax)then (some (Sum.inr (aa++[v2.1])))else none))
def yPv(a7:(Int×Int×Unit)×Unit->Option (Int×Unit))(a8:List (Int×Int×Unit))(aa:List Int):Option (List Int×Unit):=
  (some ((aa,())))
theorem yHk(n:Nat)(hn:big<=n)(a7:(Int×Int×Unit)×Unit->Option (Int×Unit))(a8:List (Int×Int×Unit))(aa:List Int)(hx:List.length (a8) < lenMax):LeF some (yK (λ af am ae=>yO8 a7 a8 af am ae) (λ ae=>yPv a7 a8 ae) 0 (a8) aa) (yBK n n a7 a8 (List.length (a8):Int) 0 aa):=by
  refine yP (f:=some) (W:=λ ak af ae=>yBK n ak a7 a8 (List.length (a8):Int) af ae) (λ ak af ae=>?_) hx aa n (by unfold big at hn;unfold lenMax at hx;omega)
  show LeF _ _ (yJg n (yBK n ak) a7 a8 (List.length (a8):Int) af ae)
  exact y6 (y9 λ v1=>(y9 λ v2=>(y6 (y8 rfl) y0H))) (y06 (y8 rfl))
def z8_M(l:List (Int×Int×Unit))(of:(Int×Int×Unit)×Unit->Option (Int×Unit)):Option (List Int×Unit):=
  (bif decide (List.length (l) < lenMax)then yK (λ af am ae=>yO8 (of) (l) af am ae) (λ ae=>yPv (of) (l) ae) 0 (l) ([])else none)
abbrev z8_e:Entry:={ f:=159,args:=.pair t97 (.pair t246 .unit),rS:=.pair t174 .unit,m:=λ x=>z8_M x.1 x.2.1 }
theorem yQT:FnOK Tryz.prog z8_e:=fB (mu:=[5]) Tryz.f159 (λ n x=>z8_m n x.1 x.2.1) [[1,5,8,9,10]] eNil λ n hn x=>(yN λ hx=>by apply yHk n hn;exact hx)
def yKK(n:Nat)(r0:((Int×Int×Unit)×Unit->Option (Int×Unit))->List (Int×Int×Unit)->Int->Int->List Int->Option (List Int×Unit))(a7:(Int×Int×Unit)×Unit->Option (Int×Unit))(a8:List (Int×Int×Unit))(ah:Int)(ac:Int)(aa:List Int):Option (List Int×Unit):=
  (bif decide (ac < ah)then ((idx a8 ac).bind λ v1=>((a7 ((v1.1,v1.2.1,()),())).bind λ v2=>(bif decide (aa.length+(1:Nat)<=memMax)then r0 a7 a8 ah (i64.wrap (ac+1)) (aa++[v2.1])else none)))else some (aa,()))
def yBs(n:Nat)(k:Nat)(a7:(Int×Int×Unit)×Unit->Option (Int×Unit))(a8:List (Int×Int×Unit))(ah:Int)(ac:Int)(aa:List Int):Option (List Int×Unit):=
  iter (λ r y=>yKK n (λ a7 a8 ah ac aa=>r ((a7,(a8,(ah,(ac,())))),((aa,()),()))) y.1.1 y.1.2.1 y.1.2.2.1 y.1.2.2.2.1 y.2.1.1) k ((a7,(a8,(ah,(ac,())))),((aa,()),()))
def zD_m(n:Nat)(l:List (Int×Int×Unit))(of:(Int×Int×Unit)×Unit->Option (Int×Unit)):Option (List Int×Unit):=
  (yBs n n (of) (l) ((↑l.length:Int)) ((0:Int)) ([]))
def yNm(a7:(Int×Int×Unit)×Unit->Option (Int×Unit))(a8:List (Int×Int×Unit))(ac:Int)(v1:Int×Int×Unit)(aa:List Int):Option ((List Int×Unit)⊕(List Int)):=
  ((a7 ((v1.1,v1.2.1,()),())).bind λ v2=>(bif decide (aa.length+(1:Nat)<=memMax)then (some (Sum.inr (aa++[v2.1])))else none))
def yP9(a7:(Int×Int×Unit)×Unit->Option (Int×Unit))(a8:List (Int×Int×Unit))(aa:List Int):Option (List Int×Unit):=
  (some ((aa,())))
theorem yHw(n:Nat)(hn:big<=n)(a7:(Int×Int×Unit)×Unit->Option (Int×Unit))(a8:List (Int×Int×Unit))(aa:List Int)(hx:List.length (a8) < lenMax):LeF some (yK (λ af am ae=>yNm a7 a8 af am ae) (λ ae=>yP9 a7 a8 ae) 0 (a8) aa) (yBs n n a7 a8 (List.length (a8):Int) 0 aa):=by
  refine yP (f:=some) (W:=λ ak af ae=>yBs n ak a7 a8 (List.length (a8):Int) af ae) (λ ak af ae=>?_) hx aa n (by unfold big at hn;unfold lenMax at hx;omega)
  show LeF _ _ (yKK n (yBs n ak) a7 a8 (List.length (a8):Int) af ae)
  exact y6 (y9 λ v1=>(y9 λ v2=>(y6 (y8 rfl) y0H))) (y06 (y8 rfl))
def zD_M(l:List (Int×Int×Unit))(of:(Int×Int×Unit)×Unit->Option (Int×Unit)):Option (List Int×Unit):=
  (bif decide (List.length (l) < lenMax)then yK (λ af am ae=>yNm (of) (l) af am ae) (λ ae=>yP9 (of) (l) ae) 0 (l) ([])else none)
abbrev zD_e:Entry:={ f:=164,args:=.pair t97 (.pair t255 .unit),rS:=.pair t26 .unit,m:=λ x=>zD_M x.1 x.2.1 }
theorem yRF:FnOK Tryz.prog zD_e:=fB (mu:=[5]) Tryz.f164 (λ n x=>zD_m n x.1 x.2.1) [[1,5,8,9,10]] eNil λ n hn x=>(yN λ hx=>by apply yHw n hn;exact hx)
def yOh(n:Nat)(p:Lnk×Int×Int×Int×Bool×Unit):Option (Int×Unit):=
  some (if Bool.true=Bool.true then if (if i64.wrap (p.2.1 - i64.wrap (p.2.2.1 * p.1.2.2.2.1)) < p.1.2.2.2.2.1 then i64.wrap (p.2.1 - i64.wrap (p.2.2.1 * p.1.2.2.2.1))else p.1.2.2.2.2.1) > 0 then if i64.wrap (p.2.1 - i64.wrap (p.2.2.1 * p.1.2.2.2.1)) < p.1.2.2.2.2.1 then i64.wrap (p.2.1 - i64.wrap (p.2.2.1 * p.1.2.2.2.1))else p.1.2.2.2.2.1 else (0:Int)else if (if i64.wrap (p.2.1 - i64.wrap (p.2.2.1 * p.1.2.2.2.1)) < p.1.2.2.2.2.1 then i64.wrap (p.2.1 - i64.wrap (p.2.2.1 * p.1.2.2.2.1))else p.1.2.2.2.2.1) < 0 then if i64.wrap (p.2.1 - i64.wrap (p.2.2.1 * p.1.2.2.2.1)) < p.1.2.2.2.2.1 then i64.wrap (p.2.1 - i64.wrap (p.2.2.1 * p.1.2.2.2.1))else p.1.2.2.2.2.1 else (0:Int),())
def z07(p:Lnk×Int×Int×Int×Bool×Unit):(Int×Unit):=
  (if Bool.true=Bool.true then if (if i64.wrap (p.2.1 - i64.wrap (p.2.2.1 * p.1.2.2.2.1)) < p.1.2.2.2.2.1 then i64.wrap (p.2.1 - i64.wrap (p.2.2.1 * p.1.2.2.2.1))else p.1.2.2.2.2.1) > 0 then if i64.wrap (p.2.1 - i64.wrap (p.2.2.1 * p.1.2.2.2.1)) < p.1.2.2.2.2.1 then i64.wrap (p.2.1 - i64.wrap (p.2.2.1 * p.1.2.2.2.1))else p.1.2.2.2.2.1 else (0:Int)else if (if i64.wrap (p.2.1 - i64.wrap (p.2.2.1 * p.1.2.2.2.1)) < p.1.2.2.2.2.1 then i64.wrap (p.2.1 - i64.wrap (p.2.2.1 * p.1.2.2.2.1))else p.1.2.2.2.2.1) < 0 then if i64.wrap (p.2.1 - i64.wrap (p.2.2.1 * p.1.2.2.2.1)) < p.1.2.2.2.2.1 then i64.wrap (p.2.1 - i64.wrap (p.2.2.1 * p.1.2.2.2.1))else p.1.2.2.2.2.1 else (0:Int),())
abbrev yOH (p:Lnk×Int×Int×Int×Bool×Unit):Option (Int×Unit):=some (z07 p)
abbrev z07_e:Entry:={ f:=183,args:=.pair t230 .unit,rS:=.pair t3 .unit,m:=λ x=>yOH x.1 }
theorem yQa:FnOK Tryz.prog z07_e:=fF (hm:=by intro x;show some (z07 x.1)=yOh 0 x.1;unfold yOh z07;first|rfl|simp only[yq]) 0 Tryz.f183 (λ n x=>yOh n x.1) [] eNil
end
end Go.Tw
end
