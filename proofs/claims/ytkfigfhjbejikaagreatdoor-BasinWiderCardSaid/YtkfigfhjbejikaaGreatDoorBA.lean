import Derived.Test.YtkfigfhjbejikaaGreatDoorBT
import Derived.Test.YtkfigfhjbejikaaGreatDoorB0
set_option linter.all false
open Go.IntKind (i64)
section
set_option maxRecDepth 1000000
namespace Go.Tw
open Go.Vx Go.Vx.B Go.Proofs
noncomputable section
def yOG(n:Nat)(holds:Bool)(e:Int):Option (Int×Unit):=
  (bif holds then some (e,())else some ((0:Int),()))
def z0e(holds:Bool)(e:Int):(Int×Unit):=
  (bif holds then (e,())else ((0:Int),()))
abbrev yRV (holds:Bool) (e:Int):Option (Int×Unit):=some (z0e holds e)
abbrev z0e_e:Entry:={ f:=89,args:=.pair t4 (.pair t35 .unit),rS:=.pair t35 .unit,m:=λ x=>yRV x.1 x.2.1 }
theorem y4S:FnOK Tryz.prog z0e_e:=fF (hm:=by intro x;show some (z0e x.1 x.2.1)=yOG 0 x.1 x.2.1;unfold yOG z0e;first|rfl|simp only[yv]) 0 Tryz.f89 (λ n x=>yOG n x.1 x.2.1) [] eNil
def yG0(n:Nat)(r0:List Int->Int->Int->Option (Int×Unit))(aC:List Int)(aR:Int)(aO:Int):Option (Int×Unit):=
  (bif decide (aO < aR)then ((idx aC aO).bind λ v1=>(bif v1 != 0 then some (v1,())else r0 aC aR (i64.wrap (aO+1))))else some ((0:Int),()))
def y84(n:Nat)(k:Nat)(aC:List Int)(aR:Int)(aO:Int):Option (Int×Unit):=
  iter (λ r y=>yG0 n (λ aC aR aO=>r ((aC,(aR,(aO,()))),((),()))) y.1.1 y.1.2.1 y.1.2.2.1) k ((aC,(aR,(aO,()))),((),()))
def yRR(n:Nat)(l:List Int):Option (Int×Unit):=
  (y84 n n (l) ((↑l.length:Int)) ((0:Int)))
def yJx(aC:List Int)(aO:Int)(v1:Int):Option ((Int×Unit)⊕Unit):=
  (bif v1 != 0 then (some (Sum.inl ((v1,()))))else (some (Sum.inr ())))
def yJw(aC:List Int):Option (Int×Unit):=
  (some (((0:Int),())))
theorem yFE(n:Nat)(hn:big<=n)(aC:List Int)(hx:List.length (aC) < lenMax):LeF some (yL (λ af am ae=>yJx aC af am) (λ ae=>yJw aC) 0 (aC) ()) (y84 n n aC (List.length (aC):Int) 0):=by
  refine yP (f:=some) (W:=λ ak af ae=>y84 n ak aC (List.length (aC):Int) af) (λ ak af ae=>?_) hx () n (by unfold big at hn;unfold lenMax at hx;omega)
  show LeF _ _ (yG0 n (y84 n ak) aC (List.length (aC):Int) af)
  exact y7 (y9 λ v1=>(y7 (y8 rfl) (y8 rfl))) (y06 (y8 rfl))
def y15(l:List Int):Option (Int×Unit):=
  (bif decide (List.length (l) < lenMax)then yL (λ af am ae=>yJx (l) af am) (λ ae=>yJw (l)) 0 (l) ()else none)
abbrev z0Q_e:Entry:={ f:=87,args:=.pair t174 .unit,rS:=.pair t35 .unit,m:=λ x=>y15 x.1 }
theorem y4V:FnOK Tryz.prog z0Q_e:=fB Tryz.f87 (λ n x=>yRR n x.1) [[5,6,7]] eNil λ n hn x=>(yO λ hx=>by apply yFE n hn;exact hx)
def zl_m(n:Nat)(n1:Nod)(volume:Int):Option (Int×Unit):=
  (bif n1.2.1==0 then none else some (i64.wrap (volume.tdiv n1.2.1),()))
def zl_M(n1:Nod)(volume:Int):Option (Int×Unit):=zl_m 0 n1 volume
abbrev zl_e:Entry:={ f:=91,args:=.pair t159 (.pair t3 .unit),rS:=.pair t3 .unit,m:=λ x=>zl_M x.1 x.2.1 }
theorem yPS:FnOK Tryz.prog zl_e:=fF 0 Tryz.f91 (λ n x=>zl_m n x.1 x.2.1) [] eNil
def yQu(n:Nat)(a:Int)(b:Int):Option (Int×Unit):=
  (bif b==0 then none else (bif decide (i64.wrap (i64.wrap (a.tdiv b) * b) > a)then some (i64.wrap (i64.wrap (a.tdiv b) - (1:Int)),())else some (i64.wrap (a.tdiv b),())))
def yM9(a:Int)(b:Int):Option (Int×Unit):=yQu 0 a b
abbrev z0R_e:Entry:={ f:=199,args:=.pair t3 (.pair t3 .unit),rS:=.pair t3 .unit,m:=λ x=>yM9 x.1 x.2.1 }
theorem yNS:FnOK Tryz.prog z0R_e:=fF 0 Tryz.f199 (λ n x=>yQu n x.1 x.2.1) [] eNil
def yQF(n:Nat)(a:Int)(b:Int):Option (Int×Unit):=
  (bif b==0 then none else (bif decide (i64.wrap (i64.wrap (a.tdiv b) * b) > a)then some (i64.wrap (i64.wrap (a.tdiv b) - (1:Int)),())else some (i64.wrap (a.tdiv b),())))
def yF5(a:Int)(b:Int):Option (Int×Unit):=yQF 0 a b
def zo_m(n:Nat)(n1:Int)(low:Int)(high:Int):Option (Int×Unit):=
  (bif decide (n1 < low)then some ((3:Int),())else (bif decide (n1 > high)then some ((3:Int),())else some ((0:Int),())))
def zo(n1:Int)(low:Int)(high:Int):(Int×Unit):=
  (bif decide (n1 < low)then ((3:Int),())else (bif decide (n1 > high)then ((3:Int),())else ((0:Int),())))
abbrev zo_M (n1:Int) (low:Int) (high:Int):Option (Int×Unit):=some (zo n1 low high)
abbrev zo_e:Entry:={ f:=93,args:=.pair t3 (.pair t3 (.pair t3 .unit)),rS:=.pair t3 .unit,m:=λ x=>zo_M x.1 x.2.1 x.2.2.1 }
theorem yOx:FnOK Tryz.prog zo_e:=fF (hm:=by intro x;show some (zo x.1 x.2.1 x.2.2.1)=zo_m 0 x.1 x.2.1 x.2.2.1;unfold zo_m zo;first|rfl|simp only[yv]) 0 Tryz.f93 (λ n x=>zo_m n x.1 x.2.1 x.2.2.1) [] eNil
def yGm(n:Nat)(r0:List Int->Int->Option (Int×Unit))(aq:List Int)(aL:Int):Option (Int×Unit):=
  (bif decide (aL < (↑aq.length:Int))then ((idx aq aL).bind λ v1=>(bif v1 != 0 then ((idx aq aL).bind λ v2=>some (v2,()))else r0 aq (i64.wrap (aL+1))))else some ((0:Int),()))
def y83(n:Nat)(k:Nat)(aq:List Int)(aL:Int):Option (Int×Unit):=
  iter (λ r y=>yGm n (λ aq aL=>r ((aq,(aL,())),((),()))) y.1.1 y.1.2.1) k ((aq,(aL,())),((),()))
def yRr(n:Nat)(l:List Int):Option (Int×Unit):=
  (y83 n n (l) ((0:Int)))
def yG7(aq:List Int)(aL:Int)(v1:Int):Option ((Int×Unit)⊕Unit):=
  (bif v1 != 0 then ((idx aq aL).bind λ v2=>(some (Sum.inl ((v2,())))))else (some (Sum.inr ())))
def yFl(aq:List Int):Option (Int×Unit):=
  (some (((0:Int),())))
theorem yEt(n:Nat)(hn:big<=n)(aq:List Int)(hx:List.length (aq) < lenMax):LeF some (yL (λ af am ae=>yG7 aq af am) (λ ae=>yFl aq) 0 (aq) ()) (y83 n n aq 0):=by
  refine yP (f:=some) (W:=λ ak af ae=>y83 n ak aq af) (λ ak af ae=>?_) hx () n (by unfold big at hn;unfold lenMax at hx;omega)
  show LeF _ _ (yGm n (y83 n ak) aq af)
  exact y7 (y9 λ v1=>(y7 (y9 λ v2=>(y8 rfl)) (y8 rfl))) (y06 (y8 rfl))
def yAD(l:List Int):Option (Int×Unit):=
  (bif decide (List.length (l) < lenMax)then yL (λ af am ae=>yG7 (l) af am) (λ ae=>yFl (l)) 0 (l) ()else none)
abbrev z0V_e:Entry:={ f:=121,args:=.pair t26 .unit,rS:=.pair t3 .unit,m:=λ x=>yAD x.1 }
theorem yGM:FnOK Tryz.prog z0V_e:=fB Tryz.f121 (λ n x=>yRr n x.1) [[0,3]] eNil λ n hn x=>(yO λ hx=>by apply yEt n hn;exact hx)
def yOr(n:Nat)(kind:List UInt8):Option (Bool×Bool×Unit):=
  (bif kind==[(98:UInt8),97,114,114,105,101,114]then some (Bool.true,kind==[(111:UInt8),117,116,102,97,108,108],())else some (kind==[(108:UInt8),101,97,107],kind==[(111:UInt8),117,116,102,97,108,108],()))
def z0l(kind:List UInt8):(Bool×Bool×Unit):=
  (bif kind==[(98:UInt8),97,114,114,105,101,114]then (Bool.true,kind==[(111:UInt8),117,116,102,97,108,108],())else (kind==[(108:UInt8),101,97,107],kind==[(111:UInt8),117,116,102,97,108,108],()))
abbrev yRN (kind:List UInt8):Option (Bool×Bool×Unit):=some (z0l kind)
abbrev z0l_e:Entry:={ f:=145,args:=.pair t9 .unit,rS:=.pair t4 (.pair t4 .unit),m:=λ x=>yRN x.1 }
theorem yQR:FnOK Tryz.prog z0l_e:=fF (hm:=by intro x;show some (z0l x.1)=yOr 0 x.1;unfold yOr z0l;first|rfl|simp only[yv]) 0 Tryz.f145 (λ n x=>yOr n x.1) [] eNil
def yOg(n:Nat)(n1:Int)(nodes:Int)(atSea:Bool):Option (Bool×Unit):=
  (bif atSea then some (n1==(-1:Int),())else (bif decide (n1 >= 0)then some (decide (n1 < nodes),())else some (Bool.false,())))
def z0g(n1:Int)(nodes:Int)(atSea:Bool):(Bool×Unit):=
  (bif atSea then (n1==(-1:Int),())else (bif decide (n1 >= 0)then (decide (n1 < nodes),())else (Bool.false,())))
abbrev yRO (n1:Int) (nodes:Int) (atSea:Bool):Option (Bool×Unit):=some (z0g n1 nodes atSea)
abbrev z0g_e:Entry:={ f:=146,args:=.pair t3 (.pair t3 (.pair t4 .unit)),rS:=.pair t4 .unit,m:=λ x=>yRO x.1 x.2.1 x.2.2.1 }
theorem yQx:FnOK Tryz.prog z0g_e:=fF (hm:=by intro x;show some (z0g x.1 x.2.1 x.2.2.1)=yOg 0 x.1 x.2.1 x.2.2.1;unfold yOg z0g;first|rfl|simp only[yv]) 0 Tryz.f146 (λ n x=>yOg n x.1 x.2.1 x.2.2.1) [] eNil
def yNk(n:Nat)(x1:Int×Int×Unit):Option (List Int×Unit):=
  some ([x1.1,x1.2.1],())
def z0d(x1:Int×Int×Unit):(List Int×Unit):=
  ([x1.1,x1.2.1],())
abbrev yRl (x1:Int×Int×Unit):Option (List Int×Unit):=some (z0d x1)
abbrev z0d_e:Entry:={ f:=166,args:=.pair t96 .unit,rS:=.pair t253 .unit,m:=λ x=>yRl x.1 }
theorem yN2:FnOK Tryz.prog z0d_e:=fF (hm:=by intro x;show some (z0d x.1)=yNk 0 x.1;unfold yNk z0d;first|rfl|simp only[yv]) 0 Tryz.f166 (λ n x=>yNk n x.1) [] eNil
abbrev yOP:Ty:=.unit
abbrev yQv:Ty:=.pair t67 .unit
def yPw:G:={ T:=T,E:=[],mU:=[],fz:=[] }
def yRh:List (List Nat):=[]
def yNH(n:Nat):Ann:={ keep:=yRh,fuel:=n,inl:=[],deep:=0 }
def yMS(n:Nat)  : Option (List (List UInt8)×Unit):=
  some ([[(98:UInt8),97,114,114,105,101,114],[(108:UInt8),101,97,107],[(111:UInt8),117,116,102,97,108,108],[(112:UInt8),117,109,112],[(119:UInt8),101,105,114]],())
theorem yQG(n:Nat)(x:yOP.den):runF yPw (yNH n) Tryz.f38 yOP yQv x=yMS n:=by kernel_rfl
def z0Y  : (List (List UInt8)×Unit):=
  ([[(98:UInt8),97,114,114,105,101,114],[(108:UInt8),101,97,107],[(111:UInt8),117,116,102,97,108,108],[(112:UInt8),117,109,112],[(119:UInt8),101,105,114]],())
abbrev yP1  : Option (List (List UInt8)×Unit):=some (z0Y)
theorem yNg(y:List (List UInt8)×Unit)(h:yP1=some y):∃ n,yMS n=some y:=
  ⟨0,by rw[<- h];show yMS 0=some (z0Y);unfold yMS z0Y;first|rfl|(simp only[yv];done)|(simp only[yv];rfl)⟩
def z0Y_e:Entry:={ f:=38,args:=yOP,rS:=yQv,m:=λ x=>yP1 }
theorem yPC:FnOK Tryz.prog z0Y_e:=yJ4 (g:=yPw) (fn:=Tryz.f38) yBA yH2 eNil (by kernel_rfl) (by kernel_rfl) (by kernel_rfl) (λ x y h=>let ⟨n,hn⟩:=yNg y h;⟨yNH n,iNil,(yQG n x).trans hn⟩)
def yFw(n:Nat)(r7:Bas->Int->Option (Bool×Unit))(aD:Bas)(aP:Int):Option (Bool×Unit):=
  (bif decide (aP < (↑aD.2.1.length:Int))then ((idx aD.2.1 aP).bind λ v8=>(bif decide ((↑v8.1.length:Int) > 60)then some (Bool.false,())else r7 aD (i64.wrap (aP+1))))else some (Bool.true,()))
def y89(n:Nat)(k:Nat)(aD:Bas)(aP:Int):Option (Bool×Unit):=
  iter (λ r y=>yFw n (λ aD aP=>r ((aD,(aP,())),((),()))) y.1.1 y.1.2.1) k ((aD,(aP,())),((),()))
def yGu(n:Nat)(r5:Bas->Int->Option (Bool×Unit))(az:Bas)(aQ:Int):Option (Bool×Unit):=
  (bif decide (aQ < (↑az.1.length:Int))then ((idx az.1 aQ).bind λ v6=>(bif decide ((↑v6.1.length:Int) > 60)then some (Bool.false,())else r5 az (i64.wrap (aQ+1))))else (y89 n n (az) ((0:Int))))
def y7k(n:Nat)(k:Nat)(az:Bas)(aQ:Int):Option (Bool×Unit):=
  iter (λ r y=>yGu n (λ az aQ=>r ((az,(aQ,())),((),()))) y.1.1 y.1.2.1) k ((az,(aQ,())),((),()))
def yCM(n:Nat)(b:Bas):Option (Bool×Unit):=
  (y7k n n (b) ((0:Int)))
def yRT(n:Nat)(b:Bas):Option (Bool×Unit):=
  (bif decide ((↑b.1.length:Int) > 9)then some (Bool.false,())else (bif decide ((↑b.2.1.length:Int) > 8)then (bif (↑b.2.1.length:Int) != 17 then some (Bool.false,())else (yCM n b))else (yCM n b)))
def yJD(aD:Bas)(aP:Int)(v8:Lnk):Option ((Bool×Unit)⊕Unit):=
  (bif decide ((↑v8.1.length:Int) > 60)then (some (Sum.inl ((Bool.false,()))))else (some (Sum.inr ())))
def yNZ(aD:Bas):Option (Bool×Unit):=
  (some ((Bool.true,())))
theorem yEj(n:Nat)(hn:big<=n)(aD:Bas)(hx:List.length (aD.2.1) < lenMax):LeF some (yL (λ af am ae=>yJD aD af am) (λ ae=>yNZ aD) 0 (aD.2.1) ()) (y89 n n aD 0):=by
  refine yP (f:=some) (W:=λ ak af ae=>y89 n ak aD af) (λ ak af ae=>?_) hx () n (by unfold big at hn;unfold lenMax at hx;omega)
  show LeF _ _ (yFw n (y89 n ak) aD af)
  exact y7 (y9 λ v8=>(y7 (y8 rfl) (y8 rfl))) (y06 (y8 rfl))
def yId(az:Bas)(aQ:Int)(v6:Nod):Option ((Bool×Unit)⊕Unit):=
  (bif decide ((↑v6.1.length:Int) > 60)then (some (Sum.inl ((Bool.false,()))))else (some (Sum.inr ())))
def yG9(az:Bas):Option (Bool×Unit):=
  (bif decide (List.length (az.2.1) < lenMax)then yL (λ af am ae=>yJD (az) af am) (λ ae=>yNZ (az)) 0 (az.2.1) ()else none)
theorem yFH(n:Nat)(hn:big<=n)(az:Bas)(hx:List.length (az.1) < lenMax):LeF some (yL (λ af am ae=>yId az af am) (λ ae=>yG9 az) 0 (az.1) ()) (y7k n n az 0):=by
  refine yP (f:=some) (W:=λ ak af ae=>y7k n ak az af) (λ ak af ae=>?_) hx () n (by unfold big at hn;unfold lenMax at hx;omega)
  show LeF _ _ (yGu n (y7k n ak) az af)
  exact y7 (y9 λ v6=>(y7 (y8 rfl) (y8 rfl))) (y06 (yO λ hx=>by apply yEj n hn;exact hx))
def yDH(b:Bas):Option (Bool×Unit):=
  (bif decide (List.length (b.1) < lenMax)then yL (λ af am ae=>yId (b) af am) (λ ae=>yG9 (b)) 0 (b.1) ()else none)
theorem y3W(n:Nat)(hn:big<=n)(b:Bas):LeF some (yDH b) (yCM n b):=
  (yO λ hx=>by apply yFH n hn;exact hx)
def yIs(b:Bas):Option (Bool×Unit):=
  (bif decide ((↑b.1.length:Int) > 9)then (some ((Bool.false,())))else (bif decide ((↑b.2.1.length:Int) > 8)then (bif (↑b.2.1.length:Int) != 17 then (some ((Bool.false,())))else (yDH b))else (yDH b)))
abbrev z0a_e:Entry:={ f:=15,args:=.pair t25 .unit,rS:=.pair t4 .unit,m:=λ x=>yIs x.1 }
theorem yPt:FnOK Tryz.prog z0a_e:=fB Tryz.f15 (λ n x=>yRT n x.1) [[1,3],[1,4]] eNil λ n hn x=>(y7 (y8 rfl) (y7 (y7 (y8 rfl) (by apply y3W n hn)) (by apply y3W n hn)))
def zu_m(n:Nat)(l:Lnk):Option (Int×Unit):=
  (bif l.2.1==(-1:Int)then some (l.2.2.1,())else some (l.2.1,()))
def zu(l:Lnk):(Int×Unit):=
  (bif l.2.1==(-1:Int)then (l.2.2.1,())else (l.2.1,()))
abbrev zu_M (l:Lnk):Option (Int×Unit):=some (zu l)
abbrev zu_e:Entry:={ f:=142,args:=.pair t163 .unit,rS:=.pair t3 .unit,m:=λ x=>zu_M x.1 }
theorem yRL:FnOK Tryz.prog zu_e:=fF (hm:=by intro x;show some (zu x.1)=zu_m 0 x.1;unfold zu_m zu;first|rfl|simp only[yv]) 0 Tryz.f142 (λ n x=>zu_m n x.1) [] eNil
def yGA(n:Nat)(r0:List (List UInt8)->List UInt8->Int->Option (Bool×Unit))(aq:List (List UInt8))(aG:List UInt8)(au:Int):Option (Bool×Unit):=
  (bif decide (au < (↑aq.length:Int))then ((idx aq au).bind λ v1=>(bif v1==aG then some (Bool.true,())else r0 aq aG (i64.wrap (au+1))))else some (Bool.false,()))
def y7u(n:Nat)(k:Nat)(aq:List (List UInt8))(aG:List UInt8)(au:Int):Option (Bool×Unit):=
  iter (λ r y=>yGA n (λ aq aG au=>r ((aq,(aG,(au,()))),((),()))) y.1.1 y.1.2.1 y.1.2.2.1) k ((aq,(aG,(au,()))),((),()))
def yRn(n:Nat)(l:List (List UInt8))(s:List UInt8):Option (Bool×Unit):=
  (y7u n n (l) (s) ((0:Int)))
def yJF(aq:List (List UInt8))(aG:List UInt8)(au:Int)(v1:List UInt8):Option ((Bool×Unit)⊕Unit):=
  (bif v1==aG then (some (Sum.inl ((Bool.true,()))))else (some (Sum.inr ())))
def yN6(aq:List (List UInt8))(aG:List UInt8):Option (Bool×Unit):=
  (some ((Bool.false,())))
theorem yEY(n:Nat)(hn:big<=n)(aq:List (List UInt8))(aG:List UInt8)(hx:List.length (aq) < lenMax):LeF some (yL (λ af am ae=>yJF aq aG af am) (λ ae=>yN6 aq aG) 0 (aq) ()) (y7u n n aq aG 0):=by
  refine yP (f:=some) (W:=λ ak af ae=>y7u n ak aq aG af) (λ ak af ae=>?_) hx () n (by unfold big at hn;unfold lenMax at hx;omega)
  show LeF _ _ (yGA n (y7u n ak) aq aG af)
  exact y7 (y9 λ v1=>(y7 (y8 rfl) (y8 rfl))) (y06 (y8 rfl))
def yMW(l:List (List UInt8))(s:List UInt8):Option (Bool×Unit):=
  (bif decide (List.length (l) < lenMax)then yL (λ af am ae=>yJF (l) (s) af am) (λ ae=>yN6 (l) (s)) 0 (l) ()else none)
abbrev z0A_e:Entry:={ f:=144,args:=.pair t67 (.pair t9 .unit),rS:=.pair t4 .unit,m:=λ x=>yMW x.1 x.2.1 }
theorem yPI:FnOK Tryz.prog z0A_e:=fB Tryz.f144 (λ n x=>yRn n x.1 x.2.1) [[0,1,5]] eNil λ n hn x=>(yO λ hx=>by apply yEY n hn;exact hx)
def yGc(n:Nat)(r0:List Int->List Int->Int->Option (Bool×Unit))(al:List Int)(ai:List Int)(au:Int):Option (Bool×Unit):=
  (bif decide (au < (↑al.length:Int))then ((idx al au).bind λ v1=>((idx ai au).bind λ v2=>(bif v1 != v2 then some (Bool.false,())else r0 al ai (i64.wrap (au+1)))))else some (Bool.true,()))
def y7x(n:Nat)(k:Nat)(al:List Int)(ai:List Int)(au:Int):Option (Bool×Unit):=
  iter (λ r y=>yGc n (λ al ai au=>r ((al,(ai,(au,()))),((),()))) y.1.1 y.1.2.1 y.1.2.2.1) k ((al,(ai,(au,()))),((),()))
def yRQ(n:Nat)(a:List Int)(b:List Int):Option (Bool×Unit):=
  (bif (↑a.length:Int) != (↑b.length:Int)then some (Bool.false,())else (y7x n n (a) (b) ((0:Int))))
def yND(al:List Int)(ai:List Int)(au:Int)(v1:Int):Option ((Bool×Unit)⊕Unit):=
  ((idx ai au).bind λ v2=>(bif v1 != v2 then (some (Sum.inl ((Bool.false,()))))else (some (Sum.inr ()))))
def yNa(al:List Int)(ai:List Int):Option (Bool×Unit):=
  (some ((Bool.true,())))
theorem yEW(n:Nat)(hn:big<=n)(al:List Int)(ai:List Int)(hx:List.length (al) < lenMax):LeF some (yL (λ af am ae=>yND al ai af am) (λ ae=>yNa al ai) 0 (al) ()) (y7x n n al ai 0):=by
  refine yP (f:=some) (W:=λ ak af ae=>y7x n ak al ai af) (λ ak af ae=>?_) hx () n (by unfold big at hn;unfold lenMax at hx;omega)
  show LeF _ _ (yGc n (y7x n ak) al ai af)
  exact y7 (y9 λ v1=>(y9 λ v2=>(y7 (y8 rfl) (y8 rfl)))) (y06 (y8 rfl))
def yEw(a:List Int)(b:List Int):Option (Bool×Unit):=
  (bif (↑a.length:Int) != (↑b.length:Int)then (some ((Bool.false,())))else (bif decide (List.length (a) < lenMax)then yL (λ af am ae=>yND (a) (b) af am) (λ ae=>yNa (a) (b)) 0 (a) ()else none))
abbrev z00_e:Entry:={ f:=41,args:=.pair t26 (.pair t26 .unit),rS:=.pair t4 .unit,m:=λ x=>yEw x.1 x.2.1 }
theorem yNK:FnOK Tryz.prog z00_e:=fB Tryz.f41 (λ n x=>yRQ n x.1 x.2.1) [[0,1,5]] eNil λ n hn x=>(y7 (y8 rfl) (yO λ hx=>by apply yEW n hn;exact hx))
def yNJ(aT:List Int)(aL:Int)(v1:Int):Option ((Bool×Unit)⊕Unit):=
  (bif decide (v1 > 100000000)then (some (Sum.inl ((Bool.true,()))))else (some (Sum.inr ())))
def yNB(aT:List Int):Option (Bool×Unit):=
  (some ((Bool.false,())))
def yMk(v:List Int):Option (Bool×Unit):=
  (bif decide (List.length (v) < lenMax)then yL (λ af am ae=>yNJ (v) af am) (λ ae=>yNB (v)) 0 (v) ()else none)
end
end Go.Tw
end
section
set_option maxRecDepth 1000000
namespace Go.Tw
open Go.Vx Go.Vx.B Go.Proofs
noncomputable section
def yFX(n:Nat)(r2:List Lnk->Int->Int->List Nod->List Lnk->Option (Bas×Unit))(av:List Lnk)(aN:Int)(aJ:Int)(aH:List Nod)(aF:List Lnk):Option (Bas×Unit):=
  (bif decide (aJ < aN)then ((idx av aJ).bind λ v3=>(bif decide (aF.length+(1:Nat)<=memMax)then r2 av aN (i64.wrap (aJ+1)) aH (aF++[(v3.1,v3.2.1,v3.2.2.1,v3.2.2.2.1,v3.2.2.2.2.1,())])else none))else some ((aH,aF,()),()))
def y8H(n:Nat)(k:Nat)(av:List Lnk)(aN:Int)(aJ:Int)(aH:List Nod)(aF:List Lnk):Option (Bas×Unit):=
  iter (λ r y=>yFX n (λ av aN aJ aH aF=>r ((av,(aN,(aJ,()))),(((),((),(aH,(aF,())))),()))) y.1.1 y.1.2.1 y.1.2.2.1 y.2.1.2.2.1 y.2.1.2.2.2.1) k ((av,(aN,(aJ,()))),(((),((),(aH,(aF,())))),()))
def yGO(n:Nat)(r0:Bas->List Nod->Int->Int->List Nod->List Lnk->Option (Bas×Unit))(ai:Bas)(ah:List Nod)(ac:Int)(aK:Int)(aE:List Nod)(aI:List Lnk):Option (Bas×Unit):=
  (bif decide (aK < ac)then ((idx ah aK).bind λ v1=>(bif decide (aE.length+(1:Nat)<=memMax)then r0 ai ah ac (i64.wrap (aK+1)) (aE++[(v1.1,v1.2.1,v1.2.2.1,())]) aI else none))else (y8H n n (ai.2.1) ((↑ai.2.1.length:Int)) ((0:Int)) (aE) (aI)))
def y7i(n:Nat)(k:Nat)(ai:Bas)(ah:List Nod)(ac:Int)(aK:Int)(aE:List Nod)(aI:List Lnk):Option (Bas×Unit):=
  iter (λ r y=>yGO n (λ ai ah ac aK aE aI=>r ((ai,(ah,(ac,(aK,())))),(((),((),(aE,(aI,())))),()))) y.1.1 y.1.2.1 y.1.2.2.1 y.1.2.2.2.1 y.2.1.2.2.1 y.2.1.2.2.2.1) k ((ai,(ah,(ac,(aK,())))),(((),((),(aE,(aI,())))),()))
def yRH(n:Nat)(b:Bas):Option (Bas×Unit):=
  (y7i n n (b) (b.1) ((↑b.1.length:Int)) ((0:Int)) ([]) ([]))
def yK4(av:List Lnk)(aH:List Nod)(aJ:Int)(v3:Lnk)(aF:List Lnk):Option ((Bas×Unit)⊕(List Lnk)):=
  (bif decide (aF.length+(1:Nat)<=memMax)then (some (Sum.inr (aF++[(v3.1,v3.2.1,v3.2.2.1,v3.2.2.2.1,v3.2.2.2.2.1,())])))else none)
def yNG(av:List Lnk)(aH:List Nod)(aF:List Lnk):Option (Bas×Unit):=
  (some (((aH,aF,()),())))
theorem yFC(n:Nat)(hn:big<=n)(av:List Lnk)(aH:List Nod)(aF:List Lnk)(hx:List.length (av) < lenMax):LeF some (yL (λ af am ae=>yK4 av aH af am ae) (λ ae=>yNG av aH ae) 0 (av) aF) (y8H n n av (List.length (av):Int) 0 aH aF):=by
  refine yP (f:=some) (W:=λ ak af ae=>y8H n ak av (List.length (av):Int) af aH ae) (λ ak af ae=>?_) hx aF n (by unfold big at hn;unfold lenMax at hx;omega)
  show LeF _ _ (yFX n (y8H n ak) av (List.length (av):Int) af aH ae)
  exact y7 (y9 λ v3=>(y7 (y8 rfl) y0H)) (y06 (y8 rfl))
def yIh(ai:Bas)(ah:List Nod)(aI:List Lnk)(aK:Int)(v1:Nod)(aE:List Nod):Option ((Bas×Unit)⊕(List Nod)):=
  (bif decide (aE.length+(1:Nat)<=memMax)then (some (Sum.inr (aE++[(v1.1,v1.2.1,v1.2.2.1,())])))else none)
def yLC(ai:Bas)(ah:List Nod)(aI:List Lnk)(aE:List Nod):Option (Bas×Unit):=
  (bif decide (List.length (ai.2.1) < lenMax)then yL (λ af am ae=>yK4 (ai.2.1) (aE) af am ae) (λ ae=>yNG (ai.2.1) (aE) ae) 0 (ai.2.1) (aI)else none)
theorem yFB(n:Nat)(hn:big<=n)(ai:Bas)(ah:List Nod)(aI:List Lnk)(aE:List Nod)(hx:List.length (ah) < lenMax):LeF some (yL (λ af am ae=>yIh ai ah aI af am ae) (λ ae=>yLC ai ah aI ae) 0 (ah) aE) (y7i n n ai ah (List.length (ah):Int) 0 aE aI):=by
  refine yP (f:=some) (W:=λ ak af ae=>y7i n ak ai ah (List.length (ah):Int) af ae aI) (λ ak af ae=>?_) hx aE n (by unfold big at hn;unfold lenMax at hx;omega)
  show LeF _ _ (yGO n (y7i n ak) ai ah (List.length (ah):Int) af ae aI)
  exact y7 (y9 λ v1=>(y7 (y8 rfl) y0H)) (y06 (yO λ hx=>by apply yFC n hn;exact hx))
def y6v(b:Bas):Option (Bas×Unit):=
  (bif decide (List.length (b.1) < lenMax)then yL (λ af am ae=>yIh (b) (b.1) ([]) af am ae) (λ ae=>yLC (b) (b.1) ([]) ae) 0 (b.1) ([])else none)
abbrev z0U_e:Entry:={ f:=19,args:=.pair t25 .unit,rS:=.pair t41 .unit,m:=λ x=>y6v x.1 }
theorem yPN:FnOK Tryz.prog z0U_e:=fB (mu:=[3]) Tryz.f19 (λ n x=>yRH n x.1) [[1,2,3,9,10,11],[2,3,23,24,25]] eNil λ n hn x=>(yO λ hx=>by apply yFB n hn;exact hx)
def yGK(aU:List Int)(aS:Bas)(aV:Int)(v1:Int)(aa:List Int):Option ((List Int×Unit)⊕(List Int)):=
  ((idx aS.1 aV).bind λ v2=>(bif v2.2.1==0 then none else (bif decide (aa.length+(1:Nat)<=memMax)then (some (Sum.inr (aa++[i64.wrap (v1.tdiv v2.2.1)])))else none)))
def yJL(aU:List Int)(aS:Bas)(aa:List Int):Option (List Int×Unit):=
  (some ((aa,())))
def yOc(b:Bas)(v:List Int):Option (List Int×Unit):=
  (bif decide (List.length (v) < lenMax)then yL (λ af am ae=>yGK (v) (b) af am ae) (λ ae=>yJL (v) (b) ae) 0 (v) ([])else none)
def yJE(n:Nat)(r0:List (List (Int×Int×Unit))->List (List (Int×Int×Unit))->Int->Option (Bool×Unit))(r3:List (List (Int×Int×Unit))->List (List (Int×Int×Unit))->Int->Int->Option (Bool×Unit))(aA:List (List (Int×Int×Unit)))(aB:List (List (Int×Int×Unit)))(ay:Int)(aM:Int):Option (Bool×Unit):=
  ((idx aA ay).bind λ v4=>(bif decide (aM < (↑v4.length:Int))then ((idx aA ay).bind λ v5=>((idx v5 aM).bind λ v6=>((idx aB ay).bind λ v7=>((idx v7 aM).bind λ v8=>(bif !eqV ((Ty.int i64).pair ((Ty.int i64).pair Ty.unit)) v6 v8 then some (Bool.false,())else r3 aA aB ay (i64.wrap (aM+1)))))))else r0 aA aB (i64.wrap (ay+1))))
def yBt(n:Nat)(r0:List (List (Int×Int×Unit))->List (List (Int×Int×Unit))->Int->Option (Bool×Unit))(k:Nat)(aA:List (List (Int×Int×Unit)))(aB:List (List (Int×Int×Unit)))(ay:Int)(aM:Int):Option (Bool×Unit):=
  iter (λ r y=>yJE n r0 (λ aA aB ay aM=>r ((aA,(aB,(ay,(aM,())))),((),()))) y.1.1 y.1.2.1 y.1.2.2.1 y.1.2.2.2.1) k ((aA,(aB,(ay,(aM,())))),((),()))
def yKl(n:Nat)(r0:List (List (Int×Int×Unit))->List (List (Int×Int×Unit))->Int->Option (Bool×Unit))(al:List (List (Int×Int×Unit)))(ai:List (List (Int×Int×Unit)))(au:Int):Option (Bool×Unit):=
  (bif decide (au < (↑al.length:Int))then ((idx al au).bind λ v1=>((idx ai au).bind λ v2=>(bif (↑v1.length:Int) != (↑v2.length:Int)then some (Bool.false,())else (yBt n r0 n (al) (ai) (au) ((0:Int))))))else some (Bool.true,()))
def yCb(n:Nat)(k:Nat)(al:List (List (Int×Int×Unit)))(ai:List (List (Int×Int×Unit)))(au:Int):Option (Bool×Unit):=
  iter (λ r y=>yKl n (λ al ai au=>r ((al,(ai,(au,()))),((),()))) y.1.1 y.1.2.1 y.1.2.2.1) k ((al,(ai,(au,()))),((),()))
def zV_m(n:Nat)(a:List (List (Int×Int×Unit)))(b:List (List (Int×Int×Unit))):Option (Bool×Unit):=
  (bif (↑a.length:Int) != (↑b.length:Int)then some (Bool.false,())else (yCb n n (a) (b) ((0:Int))))
def yFA(aA:List (List (Int×Int×Unit)))(aB:List (List (Int×Int×Unit)))(ay:Int)(v4:List (Int×Int×Unit))(aM:Int):Option (((Bool×Unit)⊕Unit)⊕Unit):=
  ((idx aA ay).bind λ v5=>((idx v5 aM).bind λ v6=>((idx aB ay).bind λ v7=>((idx v7 aM).bind λ v8=>(bif !eqV ((Ty.int i64).pair ((Ty.int i64).pair Ty.unit)) v6 v8 then (some (Sum.inl (Sum.inl ((Bool.false,())))))else (some (Sum.inr ())))))))
def yM3(aA:List (List (Int×Int×Unit)))(aB:List (List (Int×Int×Unit)))(ay:Int)(v4:List (Int×Int×Unit)):Option ((Bool×Unit)⊕Unit):=
  (some (Sum.inr ()))
theorem yHa(n:Nat)(hn:big<=n)(r0:List (List (Int×Int×Unit))->List (List (Int×Int×Unit))->Int->Option (Bool×Unit))(aA:List (List (Int×Int×Unit)))(aB:List (List (Int×Int×Unit)))(ay:Int)(v4:List (Int×Int×Unit))(h0__:(idx aA ay)=some v4)(hx:((↑v4.length:Int))<=9223372036854775807):LeF (elim some λ (ae:Unit)=>r0 aA aB (i64.wrap (ay+1))) (y0I (λ af ae=>yFA aA aB ay v4 af) (λ ae=>yM3 aA aB ay v4) (((↑v4.length:Int)) - 0).toNat 0 ()) (yBt n r0 n aA aB ay 0):=by
  refine y2F (f:=(elim some λ (ae:Unit)=>r0 aA aB (i64.wrap (ay+1)))) (W:=λ ak af ae=>yBt n r0 ak aA aB ay af) (body:=(λ af ae=>yFA aA aB ay v4 af)) (fin:=(λ ae=>yM3 aA aB ay v4)) (λ ak af ae=>?_) hx () n 0 (by decide) (by unfold big at hn;omega)
  show LeF _ _ (yJE n r0 (yBt n r0 ak) aA aB ay af)
  exact leAt h0__ (y7 (y9 λ v5=>(y9 λ v6=>(y9 λ v7=>(y9 λ v8=>(y7 (y8 rfl) (y8 rfl)))))) (y06 (y8 rfl)))
def yO6(al:List (List (Int×Int×Unit)))(ai:List (List (Int×Int×Unit)))(au:Int)(v1:List (Int×Int×Unit)):Option ((Bool×Unit)⊕Unit):=
  ((idx ai au).bind λ v2=>(bif (↑v1.length:Int) != (↑v2.length:Int)then (some (Sum.inl ((Bool.false,()))))else ((idx al au).bind λ v4=>(bif decide (((↑v4.length:Int))<=9223372036854775807)then y0I (λ af ae=>yFA (al) (ai) (au) v4 af) (λ ae=>yM3 (al) (ai) (au) v4) (((↑v4.length:Int)) - 0).toNat 0 ()else none))))
def yPB(al:List (List (Int×Int×Unit)))(ai:List (List (Int×Int×Unit))):Option (Bool×Unit):=
  (some ((Bool.true,())))
theorem yI6(n:Nat)(hn:big<=n)(al:List (List (Int×Int×Unit)))(ai:List (List (Int×Int×Unit)))(hx:List.length (al) < lenMax):LeF some (yL (λ af am ae=>yO6 al ai af am) (λ ae=>yPB al ai) 0 (al) ()) (yCb n n al ai 0):=by
  refine yP (f:=some) (W:=λ ak af ae=>yCb n ak al ai af) (λ ak af ae=>?_) hx () n (by unfold big at hn;unfold lenMax at hx;omega)
  show LeF _ _ (yKl n (yCb n ak) al ai af)
  exact y7 (y9 λ v1=>(y9 λ v2=>(y7 (y8 rfl) (yOT λ v4 h0__=>(yO λ hx=>by apply yHa n hn;exact h0__;exact hx))))) (y06 (y8 rfl))
def zV_M(a:List (List (Int×Int×Unit)))(b:List (List (Int×Int×Unit))):Option (Bool×Unit):=
  (bif (↑a.length:Int) != (↑b.length:Int)then (some ((Bool.false,())))else (bif decide (List.length (a) < lenMax)then yL (λ af am ae=>yO6 (a) (b) af am) (λ ae=>yPB (a) (b)) 0 (a) ()else none))
abbrev zV_e:Entry:={ f:=74,args:=.pair t119 (.pair t119 .unit),rS:=.pair t4 .unit,m:=λ x=>zV_M x.1 x.2.1 }
theorem yPJ:FnOK Tryz.prog zV_e:=fB Tryz.f74 (λ n x=>zV_m n x.1 x.2.1) [[0,1,5],[0,1,5,6]] eNil λ n hn x=>(y7 (y8 rfl) (yO λ hx=>by apply yI6 n hn;exact hx))
abbrev yOb:Ty:=.unit
abbrev yPR:Ty:=.pair t41 .unit
def yOz:G:={ T:=T,E:=[],mU:=[],fz:=[] }
def yR1:List (List Nat):=[]
def yN5(n:Nat):Ann:={ keep:=yR1,fuel:=n,inl:=[],deep:=0 }
def yMe(n:Nat)  : Option (Bas×Unit):=
  some (([([(108:UInt8),97,107,101],(10:Int),(20:Int),()),([(112:UInt8),111,108,100,101,114],(5:Int),(8:Int),())],[([(98:UInt8),97,114,114,105,101,114],(-1:Int),(0:Int),(0:Int),(2:Int),()),([(112:UInt8),117,109,112],(1:Int),(0:Int),(4:Int),(10:Int),()),([(111:UInt8),117,116,102,97,108,108],(0:Int),(-1:Int),(12:Int),(4:Int),())],()),())
theorem yPO(n:Nat)(x:yOb.den):runF yOz (yN5 n) Tryz.f86 yOb yPR x=yMe n:=by kernel_rfl
def z0f  : (Bas×Unit):=
  (([([(108:UInt8),97,107,101],(10:Int),(20:Int),()),([(112:UInt8),111,108,100,101,114],(5:Int),(8:Int),())],[([(98:UInt8),97,114,114,105,101,114],(-1:Int),(0:Int),(0:Int),(2:Int),()),([(112:UInt8),117,109,112],(1:Int),(0:Int),(4:Int),(10:Int),()),([(111:UInt8),117,116,102,97,108,108],(0:Int),(-1:Int),(12:Int),(4:Int),())],()),())
abbrev yP4  : Option (Bas×Unit):=some (z0f)
theorem yOH(y:Bas×Unit)(h:yP4=some y):∃ n,yMe n=some y:=
  ⟨0,by rw[<- h];show yMe 0=some (z0f);unfold yMe z0f;first|rfl|(simp only[yv];done)|(simp only[yv];rfl)⟩
def z0f_e:Entry:={ f:=86,args:=yOb,rS:=yPR,m:=λ x=>yP4 }
theorem yQn:FnOK Tryz.prog z0f_e:=yJ4 (g:=yOz) (fn:=Tryz.f86) yBA yH2 eNil (by kernel_rfl) (by kernel_rfl) (by kernel_rfl) (λ x y h=>let ⟨n,hn⟩:=yOH y h;⟨yN5 n,iNil,(yPO n x).trans hn⟩)
def y69(n:Nat)(r0:List UInt8->List UInt8->Int->Option (Bool×Unit))(aj:List UInt8)(str0__0:List UInt8)(pos0__0:Int)(j2:Bool)(j7:Bool):Option (Bool×Unit):=
  (bif !j2 then (bif pos0__0==0 then some (Bool.false,())else (bif !j7 then some (Bool.false,())else r0 aj str0__0 (yp str0__0 pos0__0).2))else r0 aj str0__0 (yp str0__0 pos0__0).2)
def y3n(n:Nat)(r0:List UInt8->List UInt8->Int->Option (Bool×Unit))(aj:List UInt8)(str0__0:List UInt8)(pos0__0:Int)(j2:Bool):Option (Bool×Unit):=
  (bif decide ((yp str0__0 pos0__0).1 >= 48)then (bif decide ((yp str0__0 pos0__0).1<=57)then (y69 n r0 aj str0__0 pos0__0 j2 (Bool.true))else (y69 n r0 aj str0__0 pos0__0 j2 ((yp str0__0 pos0__0).1==95)))else (y69 n r0 aj str0__0 pos0__0 j2 ((yp str0__0 pos0__0).1==95)))
def yFm(n:Nat)(r0:List UInt8->List UInt8->Int->Option (Bool×Unit))(aj:List UInt8)(str0__0:List UInt8)(pos0__0:Int):Option (Bool×Unit):=
  (bif decide (pos0__0 < (↑str0__0.length:Int))then (bif decide ((yp str0__0 pos0__0).1 >= 65)then (bif decide ((yp str0__0 pos0__0).1<=90)then (y3n n r0 aj str0__0 pos0__0 (Bool.true))else (bif decide ((yp str0__0 pos0__0).1 >= 97)then (y3n n r0 aj str0__0 pos0__0 (decide ((yp str0__0 pos0__0).1<=122)))else (y3n n r0 aj str0__0 pos0__0 (Bool.false))))else (bif decide ((yp str0__0 pos0__0).1 >= 97)then (y3n n r0 aj str0__0 pos0__0 (decide ((yp str0__0 pos0__0).1<=122)))else (y3n n r0 aj str0__0 pos0__0 (Bool.false))))else (bif !aj==[]then some (decide ((↑aj.length:Int)<=24),())else some (Bool.false,())))
def y7n(n:Nat)(k:Nat)(aj:List UInt8)(str0__0:List UInt8)(pos0__0:Int):Option (Bool×Unit):=
  iter (λ r y=>yFm n (λ aj str0__0 pos0__0=>r ((aj,()),(((str0__0,pos0__0),()),()))) y.1.1 y.2.1.1.1 y.2.1.1.2) k ((aj,()),(((str0__0,pos0__0),()),()))
def yRJ(n:Nat)(s:List UInt8):Option (Bool×Unit):=
  (y7n n n (s) (s) ((0:Int)))
def y8V(aj:List UInt8)(str0__0:List UInt8)(pos0__0:Int)(j2:Bool)(j7:Bool):Option ((Bool×Unit)⊕Unit):=
  (bif !j2 then (bif pos0__0==0 then (some (Sum.inl ((Bool.false,()))))else (bif !j7 then (some (Sum.inl ((Bool.false,()))))else (some (Sum.inr ()))))else (some (Sum.inr ())))
theorem y1V(n:Nat)(hn:big<=n)(r0:List UInt8->List UInt8->Int->Option (Bool×Unit))(aj:List UInt8)(str0__0:List UInt8)(pos0__0:Int)(j2:Bool)(j7:Bool):LeF (elim some λ (ae:Unit)=>r0 aj str0__0 (yp (str0__0) pos0__0).2) (y8V aj str0__0 pos0__0 j2 j7) (y69 n r0 aj str0__0 pos0__0 j2 j7):=
  (y7 (y7 (y8 rfl) (y7 (y8 rfl) (y8 rfl))) (y8 rfl))
def y5o(aj:List UInt8)(str0__0:List UInt8)(pos0__0:Int)(j2:Bool):Option ((Bool×Unit)⊕Unit):=
  (bif decide ((yp str0__0 pos0__0).1 >= 48)then (bif decide ((yp str0__0 pos0__0).1<=57)then (y8V aj str0__0 pos0__0 j2 (Bool.true))else (y8V aj str0__0 pos0__0 j2 ((yp str0__0 pos0__0).1==95)))else (y8V aj str0__0 pos0__0 j2 ((yp str0__0 pos0__0).1==95)))
theorem y0C(n:Nat)(hn:big<=n)(r0:List UInt8->List UInt8->Int->Option (Bool×Unit))(aj:List UInt8)(str0__0:List UInt8)(pos0__0:Int)(j2:Bool):LeF (elim some λ (ae:Unit)=>r0 aj str0__0 (yp (str0__0) pos0__0).2) (y5o aj str0__0 pos0__0 j2) (y3n n r0 aj str0__0 pos0__0 j2):=
  (y7 (y7 (by apply y1V n hn) (by apply y1V n hn)) (by apply y1V n hn))
def yDR(aj:List UInt8)(str0__0:List UInt8)(pos0__0:Int):Option ((Bool×Unit)⊕Unit):=
  (bif decide ((yp str0__0 pos0__0).1 >= 65)then (bif decide ((yp str0__0 pos0__0).1<=90)then (y5o aj str0__0 pos0__0 (Bool.true))else (bif decide ((yp str0__0 pos0__0).1 >= 97)then (y5o aj str0__0 pos0__0 (decide ((yp str0__0 pos0__0).1<=122)))else (y5o aj str0__0 pos0__0 (Bool.false))))else (bif decide ((yp str0__0 pos0__0).1 >= 97)then (y5o aj str0__0 pos0__0 (decide ((yp str0__0 pos0__0).1<=122)))else (y5o aj str0__0 pos0__0 (Bool.false))))
def yCt(aj:List UInt8)(str0__0:List UInt8):Option (Bool×Unit):=
  (bif !aj==[]then (some ((decide ((↑aj.length:Int)<=24),())))else (some ((Bool.false,()))))
theorem yEh(n:Nat)(hn:big<=n)(aj:List UInt8)(str0__0:List UInt8)(hx:List.length (str0__0) < lenMax):LeF some (yAC (str0__0) (λ af ae=>yDR aj str0__0 af) (λ ae=>yCt aj str0__0) (List.length (str0__0)) 0 ()) (y7n n n aj str0__0 0):=by
  refine yMH (f:=some) (W:=λ ak af ae=>y7n n ak aj str0__0 af) (λ ak af ae=>?_) () n (by unfold big at hn;unfold lenMax at hx;omega)
  show LeF _ _ (yFm n (y7n n ak) aj str0__0 af)
  exact y7 (y7 (y7 (by apply y0C n hn) (y7 (by apply y0C n hn) (by apply y0C n hn))) (y7 (by apply y0C n hn) (by apply y0C n hn))) (y06 (y7 (y8 rfl) (y8 rfl)))
def yJ9(s:List UInt8):Option (Bool×Unit):=
  (bif decide (List.length (s) < lenMax)then yAC (s) (λ af ae=>yDR (s) (s) af) (λ ae=>yCt (s) (s)) (List.length (s)) 0 ()else none)
abbrev z0F_e:Entry:={ f:=100,args:=.pair t9 .unit,rS:=.pair t4 .unit,m:=λ x=>yJ9 x.1 }
theorem yPj:FnOK Tryz.prog z0F_e:=fB Tryz.f100 (λ n x=>yRJ n x.1) [[0,8,16,17,20,21,22,23,24,25,30,31,34,35,40,41,42,43,44,45,50,51,52]] eNil λ n hn x=>(yO λ hx=>by apply yEh n hn;exact hx)
def yKf(n:Nat)(r0:(Lnk×Unit->Option (Int×Unit))->List Lnk->Int->Int->List Int->Option (List Int×Unit))(a7:Lnk×Unit->Option (Int×Unit))(a8:List Lnk)(ah:Int)(ac:Int)(aa:List Int):Option (List Int×Unit):=
  (bif decide (ac < ah)then ((idx a8 ac).bind λ v1=>((a7 ((v1.1,v1.2.1,v1.2.2.1,v1.2.2.2.1,v1.2.2.2.2.1,()),())).bind λ v2=>(bif decide (aa.length+(1:Nat)<=memMax)then r0 a7 a8 ah (i64.wrap (ac+1)) (aa++[v2.1])else none)))else some (aa,()))
def yC8(n:Nat)(k:Nat)(a7:Lnk×Unit->Option (Int×Unit))(a8:List Lnk)(ah:Int)(ac:Int)(aa:List Int):Option (List Int×Unit):=
  iter (λ r y=>yKf n (λ a7 a8 ah ac aa=>r ((a7,(a8,(ah,(ac,())))),((aa,()),()))) y.1.1 y.1.2.1 y.1.2.2.1 y.1.2.2.2.1 y.2.1.1) k ((a7,(a8,(ah,(ac,())))),((aa,()),()))
def zB_m(n:Nat)(l:List Lnk)(of:Lnk×Unit->Option (Int×Unit)):Option (List Int×Unit):=
  (yC8 n n (of) (l) ((↑l.length:Int)) ((0:Int)) ([]))
def yNi(a7:Lnk×Unit->Option (Int×Unit))(a8:List Lnk)(ac:Int)(v1:Lnk)(aa:List Int):Option ((List Int×Unit)⊕(List Int)):=
  ((a7 ((v1.1,v1.2.1,v1.2.2.1,v1.2.2.2.1,v1.2.2.2.2.1,()),())).bind λ v2=>(bif decide (aa.length+(1:Nat)<=memMax)then (some (Sum.inr (aa++[v2.1])))else none))
def yQN(a7:Lnk×Unit->Option (Int×Unit))(a8:List Lnk)(aa:List Int):Option (List Int×Unit):=
  (some ((aa,())))
theorem yHF(n:Nat)(hn:big<=n)(a7:Lnk×Unit->Option (Int×Unit))(a8:List Lnk)(aa:List Int)(hx:List.length (a8) < lenMax):LeF some (yL (λ af am ae=>yNi a7 a8 af am ae) (λ ae=>yQN a7 a8 ae) 0 (a8) aa) (yC8 n n a7 a8 (List.length (a8):Int) 0 aa):=by
  refine yP (f:=some) (W:=λ ak af ae=>yC8 n ak a7 a8 (List.length (a8):Int) af ae) (λ ak af ae=>?_) hx aa n (by unfold big at hn;unfold lenMax at hx;omega)
  show LeF _ _ (yKf n (yC8 n ak) a7 a8 (List.length (a8):Int) af ae)
  exact y7 (y9 λ v1=>(y9 λ v2=>(y7 (y8 rfl) y0H))) (y06 (y8 rfl))
def zB_M(l:List Lnk)(of:Lnk×Unit->Option (Int×Unit)):Option (List Int×Unit):=
  (bif decide (List.length (l) < lenMax)then yL (λ af am ae=>yNi (of) (l) af am ae) (λ ae=>yQN (of) (l) ae) 0 (l) ([])else none)
abbrev zB_e:Entry:={ f:=101,args:=.pair t39 (.pair t177 .unit),rS:=.pair t174 .unit,m:=λ x=>zB_M x.1 x.2.1 }
theorem yRF:FnOK Tryz.prog zB_e:=fB (mu:=[5]) Tryz.f101 (λ n x=>zB_m n x.1 x.2.1) [[1,5,8,9,10]] eNil λ n hn x=>(yO λ hx=>by apply yHF n hn;exact hx)
def yKC(n:Nat)(r0:(Rng×Unit->Option (Cnd×Unit))->List Rng->Int->Int->List Cnd->Option (List Cnd×Unit))(a7:Rng×Unit->Option (Cnd×Unit))(a8:List Rng)(ah:Int)(ac:Int)(aa:List Cnd):Option (List Cnd×Unit):=
  (bif decide (ac < ah)then ((idx a8 ac).bind λ v1=>((a7 (((v1.1.1,v1.1.2.1,()),v1.2.1,v1.2.2.1,()),())).bind λ v2=>(bif decide (aa.length+(1:Nat)<=memMax)then r0 a7 a8 ah (i64.wrap (ac+1)) (aa++[v2.1])else none)))else some (aa,()))
def yBn(n:Nat)(k:Nat)(a7:Rng×Unit->Option (Cnd×Unit))(a8:List Rng)(ah:Int)(ac:Int)(aa:List Cnd):Option (List Cnd×Unit):=
  iter (λ r y=>yKC n (λ a7 a8 ah ac aa=>r ((a7,(a8,(ah,(ac,())))),((aa,()),()))) y.1.1 y.1.2.1 y.1.2.2.1 y.1.2.2.2.1 y.2.1.1) k ((a7,(a8,(ah,(ac,())))),((aa,()),()))
def z6_m(n:Nat)(l:List Rng)(of:Rng×Unit->Option (Cnd×Unit)):Option (List Cnd×Unit):=
  (yBn n n (of) (l) ((↑l.length:Int)) ((0:Int)) ([]))
def yNe(a7:Rng×Unit->Option (Cnd×Unit))(a8:List Rng)(ac:Int)(v1:Rng)(aa:List Cnd):Option ((List Cnd×Unit)⊕(List Cnd)):=
  ((a7 (((v1.1.1,v1.1.2.1,()),v1.2.1,v1.2.2.1,()),())).bind λ v2=>(bif decide (aa.length+(1:Nat)<=memMax)then (some (Sum.inr (aa++[v2.1])))else none))
def yQ6(a7:Rng×Unit->Option (Cnd×Unit))(a8:List Rng)(aa:List Cnd):Option (List Cnd×Unit):=
  (some ((aa,())))
theorem yHf(n:Nat)(hn:big<=n)(a7:Rng×Unit->Option (Cnd×Unit))(a8:List Rng)(aa:List Cnd)(hx:List.length (a8) < lenMax):LeF some (yL (λ af am ae=>yNe a7 a8 af am ae) (λ ae=>yQ6 a7 a8 ae) 0 (a8) aa) (yBn n n a7 a8 (List.length (a8):Int) 0 aa):=by
  refine yP (f:=some) (W:=λ ak af ae=>yBn n ak a7 a8 (List.length (a8):Int) af ae) (λ ak af ae=>?_) hx aa n (by unfold big at hn;unfold lenMax at hx;omega)
  show LeF _ _ (yKC n (yBn n ak) a7 a8 (List.length (a8):Int) af ae)
  exact y7 (y9 λ v1=>(y9 λ v2=>(y7 (y8 rfl) y0H))) (y06 (y8 rfl))
def z6_M(l:List Rng)(of:Rng×Unit->Option (Cnd×Unit)):Option (List Cnd×Unit):=
  (bif decide (List.length (l) < lenMax)then yL (λ af am ae=>yNe (of) (l) af am ae) (λ ae=>yQ6 (of) (l) ae) 0 (l) ([])else none)
abbrev z6_e:Entry:={ f:=109,args:=.pair t108 (.pair t186 .unit),rS:=.pair t54 .unit,m:=λ x=>z6_M x.1 x.2.1 }
theorem yQZ:FnOK Tryz.prog z6_e:=fB (mu:=[5]) Tryz.f109 (λ n x=>z6_m n x.1 x.2.1) [[1,5,8,9,10]] eNil λ n hn x=>(yO λ hx=>by apply yHf n hn;exact hx)
def yNs(n:Nat)(r0:(Int×Unit->Option (List UInt8×Unit))->List Int->Int->Int->List (List UInt8)->Option (List (List UInt8)×Unit))(a7:Int×Unit->Option (List UInt8×Unit))(a8:List Int)(ah:Int)(ac:Int)(aa:List (List UInt8)):Option (List (List UInt8)×Unit):=
  (bif decide (ac < ah)then ((idx a8 ac).bind λ v1=>((a7 (v1,())).bind λ v2=>(bif decide (aa.length+(1:Nat)<=memMax)then r0 a7 a8 ah (i64.wrap (ac+1)) (aa++[v2.1])else none)))else some (aa,()))
def yOD(n:Nat)(k:Nat)(a7:Int×Unit->Option (List UInt8×Unit))(a8:List Int)(ah:Int)(ac:Int)(aa:List (List UInt8)):Option (List (List UInt8)×Unit):=
  iter (λ r y=>yNs n (λ a7 a8 ah ac aa=>r ((a7,(a8,(ah,(ac,())))),((aa,()),()))) y.1.1 y.1.2.1 y.1.2.2.1 y.1.2.2.2.1 y.2.1.1) k ((a7,(a8,(ah,(ac,())))),((aa,()),()))
def zM_m(n:Nat)(l:List Int)(of:Int×Unit->Option (List UInt8×Unit)):Option (List (List UInt8)×Unit):=
  (yOD n n (of) (l) ((↑l.length:Int)) ((0:Int)) ([]))
def zM_M(l:List Int)(of:Int×Unit->Option (List UInt8×Unit)):Option (List (List UInt8)×Unit):=zM_m 1000 l of
abbrev zM_e:Entry:={ f:=128,args:=.pair t26 (.pair t208 .unit),rS:=.pair t67 .unit,m:=λ x=>zM_M x.1 x.2.1 }
theorem yRG:FnOK Tryz.prog zM_e:=fF (mu:=[5]) 1000 Tryz.f128 (λ n x=>zM_m n x.1 x.2.1) [[1,5,8,9,10]] eNil
def yLJ(n:Nat)(r0:(Int×Unit->Option (Int×Unit))->List Int->Int->Int->List Int->Option (List Int×Unit))(a7:Int×Unit->Option (Int×Unit))(a8:List Int)(ah:Int)(ac:Int)(aa:List Int):Option (List Int×Unit):=
  (bif decide (ac < ah)then ((idx a8 ac).bind λ v1=>((a7 (v1,())).bind λ v2=>(bif decide (aa.length+(1:Nat)<=memMax)then r0 a7 a8 ah (i64.wrap (ac+1)) (aa++[v2.1])else none)))else some (aa,()))
def yBv(n:Nat)(k:Nat)(a7:Int×Unit->Option (Int×Unit))(a8:List Int)(ah:Int)(ac:Int)(aa:List Int):Option (List Int×Unit):=
  iter (λ r y=>yLJ n (λ a7 a8 ah ac aa=>r ((a7,(a8,(ah,(ac,())))),((aa,()),()))) y.1.1 y.1.2.1 y.1.2.2.1 y.1.2.2.2.1 y.2.1.1) k ((a7,(a8,(ah,(ac,())))),((aa,()),()))
def zH_m(n:Nat)(l:List Int)(of:Int×Unit->Option (Int×Unit)):Option (List Int×Unit):=
  (yBv n n (of) (l) ((↑l.length:Int)) ((0:Int)) ([]))
def yPU(a7:Int×Unit->Option (Int×Unit))(a8:List Int)(ac:Int)(v1:Int)(aa:List Int):Option ((List Int×Unit)⊕(List Int)):=
  ((a7 (v1,())).bind λ v2=>(bif decide (aa.length+(1:Nat)<=memMax)then (some (Sum.inr (aa++[v2.1])))else none))
def yQY(a7:Int×Unit->Option (Int×Unit))(a8:List Int)(aa:List Int):Option (List Int×Unit):=
  (some ((aa,())))
theorem yHB(n:Nat)(hn:big<=n)(a7:Int×Unit->Option (Int×Unit))(a8:List Int)(aa:List Int)(hx:List.length (a8) < lenMax):LeF some (yL (λ af am ae=>yPU a7 a8 af am ae) (λ ae=>yQY a7 a8 ae) 0 (a8) aa) (yBv n n a7 a8 (List.length (a8):Int) 0 aa):=by
  refine yP (f:=some) (W:=λ ak af ae=>yBv n ak a7 a8 (List.length (a8):Int) af ae) (λ ak af ae=>?_) hx aa n (by unfold big at hn;unfold lenMax at hx;omega)
  show LeF _ _ (yLJ n (yBv n ak) a7 a8 (List.length (a8):Int) af ae)
  exact y7 (y9 λ v1=>(y9 λ v2=>(y7 (y8 rfl) y0H))) (y06 (y8 rfl))
def zH_M(l:List Int)(of:Int×Unit->Option (Int×Unit)):Option (List Int×Unit):=
  (bif decide (List.length (l) < lenMax)then yL (λ af am ae=>yPU (of) (l) af am ae) (λ ae=>yQY (of) (l) ae) 0 (l) ([])else none)
abbrev zH_e:Entry:={ f:=138,args:=.pair t26 (.pair t176 .unit),rS:=.pair t174 .unit,m:=λ x=>zH_M x.1 x.2.1 }
theorem yPX:FnOK Tryz.prog zH_e:=fB (mu:=[5]) Tryz.f138 (λ n x=>zH_m n x.1 x.2.1) [[1,5,8,9,10]] eNil λ n hn x=>(yO λ hx=>by apply yHB n hn;exact hx)
def y4W(n:Nat)(r2:List UInt8->Int->Option (Bool×Unit))(ar:List UInt8)(ax:Int)(v3:UInt8):Option (Bool×Unit):=
  (bif ax==0 then some (Bool.false,())else (bif (↑v3.toNat:Int) != 95 then (bif decide ((↑v3.toNat:Int) < 48)then some (Bool.false,())else (bif decide ((↑v3.toNat:Int) > 57)then some (Bool.false,())else r2 ar (i64.wrap (ax+1))))else r2 ar (i64.wrap (ax+1))))
def yFe(n:Nat)(r2:List UInt8->Int->Option (Bool×Unit))(ar:List UInt8)(ax:Int):Option (Bool×Unit):=
  (bif decide (ax < (↑ar.length:Int))then ((idx ar ax).bind λ v3=>(bif decide ((↑v3.toNat:Int) >= 97)then (bif decide ((↑v3.toNat:Int)<=122)then r2 ar (i64.wrap (ax+1))else (bif decide ((↑v3.toNat:Int) >= 65)then (bif decide ((↑v3.toNat:Int)<=90)then r2 ar (i64.wrap (ax+1))else (y4W n r2 ar ax v3))else (y4W n r2 ar ax v3)))else (bif decide ((↑v3.toNat:Int) >= 65)then (bif decide ((↑v3.toNat:Int)<=90)then r2 ar (i64.wrap (ax+1))else (y4W n r2 ar ax v3))else (y4W n r2 ar ax v3))))else some (Bool.true,()))
def y7w(n:Nat)(k:Nat)(ar:List UInt8)(ax:Int):Option (Bool×Unit):=
  iter (λ r y=>yFe n (λ ar ax=>r ((ar,(ax,())),((),()))) y.1.1 y.1.2.1) k ((ar,(ax,())),((),()))
def yRA(n:Nat)(s:List UInt8):Option (Bool×Unit):=
  (bif (↑s.length:Int)==0 then some (Bool.false,())else (bif decide ((↑s.length:Int) > 24)then some (Bool.false,())else (y7w n n (s) ((0:Int)))))
def y72(ar:List UInt8)(ax:Int)(v3:UInt8):Option ((Bool×Unit)⊕Unit):=
  (bif ax==0 then (some (Sum.inl ((Bool.false,()))))else (bif (↑v3.toNat:Int) != 95 then (bif decide ((↑v3.toNat:Int) < 48)then (some (Sum.inl ((Bool.false,()))))else (bif decide ((↑v3.toNat:Int) > 57)then (some (Sum.inl ((Bool.false,()))))else (some (Sum.inr ()))))else (some (Sum.inr ()))))
theorem y0g(n:Nat)(hn:big<=n)(r2:List UInt8->Int->Option (Bool×Unit))(ar:List UInt8)(ax:Int)(v3:UInt8):LeF (elim some λ (ae:Unit)=>r2 ar (i64.wrap (ax+1))) (y72 ar ax v3) (y4W n r2 ar ax v3):=
  (y7 (y8 rfl) (y7 (y7 (y8 rfl) (y7 (y8 rfl) (y8 rfl))) (y8 rfl)))
def yE4(ar:List UInt8)(ax:Int)(v3:UInt8):Option ((Bool×Unit)⊕Unit):=
  (bif decide ((↑v3.toNat:Int) >= 97)then (bif decide ((↑v3.toNat:Int)<=122)then (some (Sum.inr ()))else (bif decide ((↑v3.toNat:Int) >= 65)then (bif decide ((↑v3.toNat:Int)<=90)then (some (Sum.inr ()))else (y72 ar ax v3))else (y72 ar ax v3)))else (bif decide ((↑v3.toNat:Int) >= 65)then (bif decide ((↑v3.toNat:Int)<=90)then (some (Sum.inr ()))else (y72 ar ax v3))else (y72 ar ax v3)))
def yJC(ar:List UInt8):Option (Bool×Unit):=
  (some ((Bool.true,())))
theorem yEJ(n:Nat)(hn:big<=n)(ar:List UInt8)(hx:List.length (ar) < lenMax):LeF some (yL (λ af am ae=>yE4 ar af am) (λ ae=>yJC ar) 0 (ar) ()) (y7w n n ar 0):=by
  refine yP (f:=some) (W:=λ ak af ae=>y7w n ak ar af) (λ ak af ae=>?_) hx () n (by unfold big at hn;unfold lenMax at hx;omega)
  show LeF _ _ (yFe n (y7w n ak) ar af)
  exact y7 (y9 λ v3=>(y7 (y7 (y8 rfl) (y7 (y7 (y8 rfl) (by apply y0g n hn)) (by apply y0g n hn))) (y7 (y7 (y8 rfl) (by apply y0g n hn)) (by apply y0g n hn)))) (y06 (y8 rfl))
def yK6(s:List UInt8):Option (Bool×Unit):=
  (bif (↑s.length:Int)==0 then (some ((Bool.false,())))else (bif decide ((↑s.length:Int) > 24)then (some ((Bool.false,())))else (bif decide (List.length (s) < lenMax)then yL (λ af am ae=>yE4 (s) af am) (λ ae=>yJC (s)) 0 (s) ()else none)))
abbrev z0H_e:Entry:={ f:=143,args:=.pair t9 .unit,rS:=.pair t4 .unit,m:=λ x=>yK6 x.1 }
theorem yP3:FnOK Tryz.prog z0H_e:=fB Tryz.f143 (λ n x=>yRA n x.1) [[0,3,25,26,29,30,31,32,33,34,39,40,41,42,43,44,45,46,47,48]] eNil λ n hn x=>(y7 (y8 rfl) (y7 (y8 rfl) (yO λ hx=>by apply yEJ n hn;exact hx)))
def yLP(n:Nat)(r0:(Cnd×Unit->Option (Int×Unit))->List Cnd->Int->Int->List Int->Option (List Int×Unit))(a7:Cnd×Unit->Option (Int×Unit))(a8:List Cnd)(ah:Int)(ac:Int)(aa:List Int):Option (List Int×Unit):=
  (bif decide (ac < ah)then ((idx a8 ac).bind λ v1=>((a7 ((v1.1,v1.2.1,v1.2.2.1,()),())).bind λ v2=>(bif decide (aa.length+(1:Nat)<=memMax)then r0 a7 a8 ah (i64.wrap (ac+1)) (aa++[v2.1])else none)))else some (aa,()))
def yC5(n:Nat)(k:Nat)(a7:Cnd×Unit->Option (Int×Unit))(a8:List Cnd)(ah:Int)(ac:Int)(aa:List Int):Option (List Int×Unit):=
  iter (λ r y=>yLP n (λ a7 a8 ah ac aa=>r ((a7,(a8,(ah,(ac,())))),((aa,()),()))) y.1.1 y.1.2.1 y.1.2.2.1 y.1.2.2.2.1 y.2.1.1) k ((a7,(a8,(ah,(ac,())))),((aa,()),()))
def z7_m(n:Nat)(l:List Cnd)(of:Cnd×Unit->Option (Int×Unit)):Option (List Int×Unit):=
  (yC5 n n (of) (l) ((↑l.length:Int)) ((0:Int)) ([]))
def yQU(a7:Cnd×Unit->Option (Int×Unit))(a8:List Cnd)(ac:Int)(v1:Cnd)(aa:List Int):Option ((List Int×Unit)⊕(List Int)):=
  ((a7 ((v1.1,v1.2.1,v1.2.2.1,()),())).bind λ v2=>(bif decide (aa.length+(1:Nat)<=memMax)then (some (Sum.inr (aa++[v2.1])))else none))
def yQ0(a7:Cnd×Unit->Option (Int×Unit))(a8:List Cnd)(aa:List Int):Option (List Int×Unit):=
  (some ((aa,())))
theorem yHV(n:Nat)(hn:big<=n)(a7:Cnd×Unit->Option (Int×Unit))(a8:List Cnd)(aa:List Int)(hx:List.length (a8) < lenMax):LeF some (yL (λ af am ae=>yQU a7 a8 af am ae) (λ ae=>yQ0 a7 a8 ae) 0 (a8) aa) (yC5 n n a7 a8 (List.length (a8):Int) 0 aa):=by
  refine yP (f:=some) (W:=λ ak af ae=>yC5 n ak a7 a8 (List.length (a8):Int) af ae) (λ ak af ae=>?_) hx aa n (by unfold big at hn;unfold lenMax at hx;omega)
  show LeF _ _ (yLP n (yC5 n ak) a7 a8 (List.length (a8):Int) af ae)
  exact y7 (y9 λ v1=>(y9 λ v2=>(y7 (y8 rfl) y0H))) (y06 (y8 rfl))
def z7_M(l:List Cnd)(of:Cnd×Unit->Option (Int×Unit)):Option (List Int×Unit):=
  (bif decide (List.length (l) < lenMax)then yL (λ af am ae=>yQU (of) (l) af am ae) (λ ae=>yQ0 (of) (l) ae) 0 (l) ([])else none)
abbrev z7_e:Entry:={ f:=147,args:=.pair t54 (.pair t156 .unit),rS:=.pair t174 .unit,m:=λ x=>z7_M x.1 x.2.1 }
theorem yRj:FnOK Tryz.prog z7_e:=fB (mu:=[5]) Tryz.f147 (λ n x=>z7_m n x.1 x.2.1) [[1,5,8,9,10]] eNil λ n hn x=>(yO λ hx=>by apply yHV n hn;exact hx)
def yKX(n:Nat)(r0:(Psg×Unit->Option (List Int×Unit))->List Psg->Int->Int->List (List Int)->Option (List (List Int)×Unit))(a7:Psg×Unit->Option (List Int×Unit))(a8:List Psg)(ah:Int)(ac:Int)(aa:List (List Int)):Option (List (List Int)×Unit):=
  (bif decide (ac < ah)then ((idx a8 ac).bind λ v1=>((a7 (((v1.1.1,v1.1.2.1,v1.1.2.2.1,()),v1.2.1,v1.2.2.1,()),())).bind λ v2=>(bif decide (aa.length+(1:Nat)<=memMax)then r0 a7 a8 ah (i64.wrap (ac+1)) (aa++[v2.1])else none)))else some (aa,()))
def yCT(n:Nat)(k:Nat)(a7:Psg×Unit->Option (List Int×Unit))(a8:List Psg)(ah:Int)(ac:Int)(aa:List (List Int)):Option (List (List Int)×Unit):=
  iter (λ r y=>yKX n (λ a7 a8 ah ac aa=>r ((a7,(a8,(ah,(ac,())))),((aa,()),()))) y.1.1 y.1.2.1 y.1.2.2.1 y.1.2.2.2.1 y.2.1.1) k ((a7,(a8,(ah,(ac,())))),((aa,()),()))
def zC_m(n:Nat)(l:List Psg)(of:Psg×Unit->Option (List Int×Unit)):Option (List (List Int)×Unit):=
  (yCT n n (of) (l) ((↑l.length:Int)) ((0:Int)) ([]))
def yOd(a7:Psg×Unit->Option (List Int×Unit))(a8:List Psg)(ac:Int)(v1:Psg)(aa:List (List Int)):Option ((List (List Int)×Unit)⊕(List (List Int))):=
  ((a7 (((v1.1.1,v1.1.2.1,v1.1.2.2.1,()),v1.2.1,v1.2.2.1,()),())).bind λ v2=>(bif decide (aa.length+(1:Nat)<=memMax)then (some (Sum.inr (aa++[v2.1])))else none))
def yQW(a7:Psg×Unit->Option (List Int×Unit))(a8:List Psg)(aa:List (List Int)):Option (List (List Int)×Unit):=
  (some ((aa,())))
theorem yIH(n:Nat)(hn:big<=n)(a7:Psg×Unit->Option (List Int×Unit))(a8:List Psg)(aa:List (List Int))(hx:List.length (a8) < lenMax):LeF some (yL (λ af am ae=>yOd a7 a8 af am ae) (λ ae=>yQW a7 a8 ae) 0 (a8) aa) (yCT n n a7 a8 (List.length (a8):Int) 0 aa):=by
  refine yP (f:=some) (W:=λ ak af ae=>yCT n ak a7 a8 (List.length (a8):Int) af ae) (λ ak af ae=>?_) hx aa n (by unfold big at hn;unfold lenMax at hx;omega)
  show LeF _ _ (yKX n (yCT n ak) a7 a8 (List.length (a8):Int) af ae)
  exact y7 (y9 λ v1=>(y9 λ v2=>(y7 (y8 rfl) y0H))) (y06 (y8 rfl))
def zC_M(l:List Psg)(of:Psg×Unit->Option (List Int×Unit)):Option (List (List Int)×Unit):=
  (bif decide (List.length (l) < lenMax)then yL (λ af am ae=>yOd (of) (l) af am ae) (λ ae=>yQW (of) (l) ae) 0 (l) ([])else none)
abbrev zC_e:Entry:={ f:=148,args:=.pair t167 (.pair t237 .unit),rS:=.pair t56 .unit,m:=λ x=>zC_M x.1 x.2.1 }
theorem yRq:FnOK Tryz.prog zC_e:=fB (mu:=[5]) Tryz.f148 (λ n x=>zC_m n x.1 x.2.1) [[1,5,8,9,10]] eNil λ n hn x=>(yO λ hx=>by apply yIH n hn;exact hx)
def zw_m(n:Nat)(p:Psg):Option (List Int×Unit):=
  some (p.2.2.1.getD [],())
def zw(p:Psg):(List Int×Unit):=
  (p.2.2.1.getD [],())
abbrev zw_M (p:Psg):Option (List Int×Unit):=some (zw p)
abbrev zw_e:Entry:={ f:=149,args:=.pair t180 .unit,rS:=.pair t26 .unit,m:=λ x=>zw_M x.1 }
theorem yRX:FnOK Tryz.prog zw_e:=fF (hm:=by intro x;show some (zw x.1)=zw_m 0 x.1;unfold zw_m zw;first|rfl|simp only[yv]) 0 Tryz.f149 (λ n x=>zw_m n x.1) [] eNil
def yIp(n:Nat)(r0:(Rng×Unit->Option (Int×Unit))->List Rng->Int->Int->List Int->Option (List Int×Unit))(a7:Rng×Unit->Option (Int×Unit))(a8:List Rng)(ah:Int)(ac:Int)(aa:List Int):Option (List Int×Unit):=
  (bif decide (ac < ah)then ((idx a8 ac).bind λ v1=>((a7 (((v1.1.1,v1.1.2.1,()),v1.2.1,v1.2.2.1,()),())).bind λ v2=>(bif decide (aa.length+(1:Nat)<=memMax)then r0 a7 a8 ah (i64.wrap (ac+1)) (aa++[v2.1])else none)))else some (aa,()))
def yBz(n:Nat)(k:Nat)(a7:Rng×Unit->Option (Int×Unit))(a8:List Rng)(ah:Int)(ac:Int)(aa:List Int):Option (List Int×Unit):=
  iter (λ r y=>yIp n (λ a7 a8 ah ac aa=>r ((a7,(a8,(ah,(ac,())))),((aa,()),()))) y.1.1 y.1.2.1 y.1.2.2.1 y.1.2.2.2.1 y.2.1.1) k ((a7,(a8,(ah,(ac,())))),((aa,()),()))
def zA_m(n:Nat)(l:List Rng)(of:Rng×Unit->Option (Int×Unit)):Option (List Int×Unit):=
  (yBz n n (of) (l) ((↑l.length:Int)) ((0:Int)) ([]))
def yOI(a7:Rng×Unit->Option (Int×Unit))(a8:List Rng)(ac:Int)(v1:Rng)(aa:List Int):Option ((List Int×Unit)⊕(List Int)):=
  ((a7 (((v1.1.1,v1.1.2.1,()),v1.2.1,v1.2.2.1,()),())).bind λ v2=>(bif decide (aa.length+(1:Nat)<=memMax)then (some (Sum.inr (aa++[v2.1])))else none))
def yP6(a7:Rng×Unit->Option (Int×Unit))(a8:List Rng)(aa:List Int):Option (List Int×Unit):=
  (some ((aa,())))
theorem yIK(n:Nat)(hn:big<=n)(a7:Rng×Unit->Option (Int×Unit))(a8:List Rng)(aa:List Int)(hx:List.length (a8) < lenMax):LeF some (yL (λ af am ae=>yOI a7 a8 af am ae) (λ ae=>yP6 a7 a8 ae) 0 (a8) aa) (yBz n n a7 a8 (List.length (a8):Int) 0 aa):=by
  refine yP (f:=some) (W:=λ ak af ae=>yBz n ak a7 a8 (List.length (a8):Int) af ae) (λ ak af ae=>?_) hx aa n (by unfold big at hn;unfold lenMax at hx;omega)
  show LeF _ _ (yIp n (yBz n ak) a7 a8 (List.length (a8):Int) af ae)
  exact y7 (y9 λ v1=>(y9 λ v2=>(y7 (y8 rfl) y0H))) (y06 (y8 rfl))
def zA_M(l:List Rng)(of:Rng×Unit->Option (Int×Unit)):Option (List Int×Unit):=
  (bif decide (List.length (l) < lenMax)then yL (λ af am ae=>yOI (of) (l) af am ae) (λ ae=>yP6 (of) (l) ae) 0 (l) ([])else none)
abbrev zA_e:Entry:={ f:=153,args:=.pair t108 (.pair t190 .unit),rS:=.pair t174 .unit,m:=λ x=>zA_M x.1 x.2.1 }
theorem yRM:FnOK Tryz.prog zA_e:=fB (mu:=[5]) Tryz.f153 (λ n x=>zA_m n x.1 x.2.1) [[1,5,8,9,10]] eNil λ n hn x=>(yO λ hx=>by apply yIK n hn;exact hx)
def yKe(n:Nat)(r0:((Int×Int×Unit)×Unit->Option (Int×Unit))->List (Int×Int×Unit)->Int->Int->List Int->Option (List Int×Unit))(a7:(Int×Int×Unit)×Unit->Option (Int×Unit))(a8:List (Int×Int×Unit))(ah:Int)(ac:Int)(aa:List Int):Option (List Int×Unit):=
  (bif decide (ac < ah)then ((idx a8 ac).bind λ v1=>((a7 ((v1.1,v1.2.1,()),())).bind λ v2=>(bif decide (aa.length+(1:Nat)<=memMax)then r0 a7 a8 ah (i64.wrap (ac+1)) (aa++[v2.1])else none)))else some (aa,()))
def yBT(n:Nat)(k:Nat)(a7:(Int×Int×Unit)×Unit->Option (Int×Unit))(a8:List (Int×Int×Unit))(ah:Int)(ac:Int)(aa:List Int):Option (List Int×Unit):=
  iter (λ r y=>yKe n (λ a7 a8 ah ac aa=>r ((a7,(a8,(ah,(ac,())))),((aa,()),()))) y.1.1 y.1.2.1 y.1.2.2.1 y.1.2.2.2.1 y.2.1.1) k ((a7,(a8,(ah,(ac,())))),((aa,()),()))
def z8_m(n:Nat)(l:List (Int×Int×Unit))(of:(Int×Int×Unit)×Unit->Option (Int×Unit)):Option (List Int×Unit):=
  (yBT n n (of) (l) ((↑l.length:Int)) ((0:Int)) ([]))
def yOs(a7:(Int×Int×Unit)×Unit->Option (Int×Unit))(a8:List (Int×Int×Unit))(ac:Int)(v1:Int×Int×Unit)(aa:List Int):Option ((List Int×Unit)⊕(List Int)):=
  ((a7 ((v1.1,v1.2.1,()),())).bind λ v2=>(bif decide (aa.length+(1:Nat)<=memMax)then (some (Sum.inr (aa++[v2.1])))else none))
def yQs(a7:(Int×Int×Unit)×Unit->Option (Int×Unit))(a8:List (Int×Int×Unit))(aa:List Int):Option (List Int×Unit):=
  (some ((aa,())))
theorem yHG(n:Nat)(hn:big<=n)(a7:(Int×Int×Unit)×Unit->Option (Int×Unit))(a8:List (Int×Int×Unit))(aa:List Int)(hx:List.length (a8) < lenMax):LeF some (yL (λ af am ae=>yOs a7 a8 af am ae) (λ ae=>yQs a7 a8 ae) 0 (a8) aa) (yBT n n a7 a8 (List.length (a8):Int) 0 aa):=by
  refine yP (f:=some) (W:=λ ak af ae=>yBT n ak a7 a8 (List.length (a8):Int) af ae) (λ ak af ae=>?_) hx aa n (by unfold big at hn;unfold lenMax at hx;omega)
  show LeF _ _ (yKe n (yBT n ak) a7 a8 (List.length (a8):Int) af ae)
  exact y7 (y9 λ v1=>(y9 λ v2=>(y7 (y8 rfl) y0H))) (y06 (y8 rfl))
def z8_M(l:List (Int×Int×Unit))(of:(Int×Int×Unit)×Unit->Option (Int×Unit)):Option (List Int×Unit):=
  (bif decide (List.length (l) < lenMax)then yL (λ af am ae=>yOs (of) (l) af am ae) (λ ae=>yQs (of) (l) ae) 0 (l) ([])else none)
abbrev z8_e:Entry:={ f:=159,args:=.pair t97 (.pair t246 .unit),rS:=.pair t174 .unit,m:=λ x=>z8_M x.1 x.2.1 }
theorem yPb:FnOK Tryz.prog z8_e:=fB (mu:=[5]) Tryz.f159 (λ n x=>z8_m n x.1 x.2.1) [[1,5,8,9,10]] eNil λ n hn x=>(yO λ hx=>by apply yHG n hn;exact hx)
def yJ1(n:Nat)(r0:((Int×Int×Unit)×Unit->Option (Int×Unit))->List (Int×Int×Unit)->Int->Int->List Int->Option (List Int×Unit))(a7:(Int×Int×Unit)×Unit->Option (Int×Unit))(a8:List (Int×Int×Unit))(ah:Int)(ac:Int)(aa:List Int):Option (List Int×Unit):=
  (bif decide (ac < ah)then ((idx a8 ac).bind λ v1=>((a7 ((v1.1,v1.2.1,()),())).bind λ v2=>(bif decide (aa.length+(1:Nat)<=memMax)then r0 a7 a8 ah (i64.wrap (ac+1)) (aa++[v2.1])else none)))else some (aa,()))
def yC7(n:Nat)(k:Nat)(a7:(Int×Int×Unit)×Unit->Option (Int×Unit))(a8:List (Int×Int×Unit))(ah:Int)(ac:Int)(aa:List Int):Option (List Int×Unit):=
  iter (λ r y=>yJ1 n (λ a7 a8 ah ac aa=>r ((a7,(a8,(ah,(ac,())))),((aa,()),()))) y.1.1 y.1.2.1 y.1.2.2.1 y.1.2.2.2.1 y.2.1.1) k ((a7,(a8,(ah,(ac,())))),((aa,()),()))
def zD_m(n:Nat)(l:List (Int×Int×Unit))(of:(Int×Int×Unit)×Unit->Option (Int×Unit)):Option (List Int×Unit):=
  (yC7 n n (of) (l) ((↑l.length:Int)) ((0:Int)) ([]))
def yOX(a7:(Int×Int×Unit)×Unit->Option (Int×Unit))(a8:List (Int×Int×Unit))(ac:Int)(v1:Int×Int×Unit)(aa:List Int):Option ((List Int×Unit)⊕(List Int)):=
  ((a7 ((v1.1,v1.2.1,()),())).bind λ v2=>(bif decide (aa.length+(1:Nat)<=memMax)then (some (Sum.inr (aa++[v2.1])))else none))
def yQH(a7:(Int×Int×Unit)×Unit->Option (Int×Unit))(a8:List (Int×Int×Unit))(aa:List Int):Option (List Int×Unit):=
  (some ((aa,())))
theorem yHc(n:Nat)(hn:big<=n)(a7:(Int×Int×Unit)×Unit->Option (Int×Unit))(a8:List (Int×Int×Unit))(aa:List Int)(hx:List.length (a8) < lenMax):LeF some (yL (λ af am ae=>yOX a7 a8 af am ae) (λ ae=>yQH a7 a8 ae) 0 (a8) aa) (yC7 n n a7 a8 (List.length (a8):Int) 0 aa):=by
  refine yP (f:=some) (W:=λ ak af ae=>yC7 n ak a7 a8 (List.length (a8):Int) af ae) (λ ak af ae=>?_) hx aa n (by unfold big at hn;unfold lenMax at hx;omega)
  show LeF _ _ (yJ1 n (yC7 n ak) a7 a8 (List.length (a8):Int) af ae)
  exact y7 (y9 λ v1=>(y9 λ v2=>(y7 (y8 rfl) y0H))) (y06 (y8 rfl))
def zD_M(l:List (Int×Int×Unit))(of:(Int×Int×Unit)×Unit->Option (Int×Unit)):Option (List Int×Unit):=
  (bif decide (List.length (l) < lenMax)then yL (λ af am ae=>yOX (of) (l) af am ae) (λ ae=>yQH (of) (l) ae) 0 (l) ([])else none)
abbrev zD_e:Entry:={ f:=164,args:=.pair t97 (.pair t255 .unit),rS:=.pair t26 .unit,m:=λ x=>zD_M x.1 x.2.1 }
theorem yRp:FnOK Tryz.prog zD_e:=fB (mu:=[5]) Tryz.f164 (λ n x=>zD_m n x.1 x.2.1) [[1,5,8,9,10]] eNil λ n hn x=>(yO λ hx=>by apply yHc n hn;exact hx)
def yNr(n:Nat)(p:Lnk×Int×Int×Int×Bool×Unit):Option (Int×Unit):=
  some (if Bool.true=Bool.true then if (if i64.wrap (p.2.1 - i64.wrap (p.2.2.1 * p.1.2.2.2.1)) < p.1.2.2.2.2.1 then i64.wrap (p.2.1 - i64.wrap (p.2.2.1 * p.1.2.2.2.1))else p.1.2.2.2.2.1) > 0 then if i64.wrap (p.2.1 - i64.wrap (p.2.2.1 * p.1.2.2.2.1)) < p.1.2.2.2.2.1 then i64.wrap (p.2.1 - i64.wrap (p.2.2.1 * p.1.2.2.2.1))else p.1.2.2.2.2.1 else (0:Int)else if (if i64.wrap (p.2.1 - i64.wrap (p.2.2.1 * p.1.2.2.2.1)) < p.1.2.2.2.2.1 then i64.wrap (p.2.1 - i64.wrap (p.2.2.1 * p.1.2.2.2.1))else p.1.2.2.2.2.1) < 0 then if i64.wrap (p.2.1 - i64.wrap (p.2.2.1 * p.1.2.2.2.1)) < p.1.2.2.2.2.1 then i64.wrap (p.2.1 - i64.wrap (p.2.2.1 * p.1.2.2.2.1))else p.1.2.2.2.2.1 else (0:Int),())
def z07(p:Lnk×Int×Int×Int×Bool×Unit):(Int×Unit):=
  (if Bool.true=Bool.true then if (if i64.wrap (p.2.1 - i64.wrap (p.2.2.1 * p.1.2.2.2.1)) < p.1.2.2.2.2.1 then i64.wrap (p.2.1 - i64.wrap (p.2.2.1 * p.1.2.2.2.1))else p.1.2.2.2.2.1) > 0 then if i64.wrap (p.2.1 - i64.wrap (p.2.2.1 * p.1.2.2.2.1)) < p.1.2.2.2.2.1 then i64.wrap (p.2.1 - i64.wrap (p.2.2.1 * p.1.2.2.2.1))else p.1.2.2.2.2.1 else (0:Int)else if (if i64.wrap (p.2.1 - i64.wrap (p.2.2.1 * p.1.2.2.2.1)) < p.1.2.2.2.2.1 then i64.wrap (p.2.1 - i64.wrap (p.2.2.1 * p.1.2.2.2.1))else p.1.2.2.2.2.1) < 0 then if i64.wrap (p.2.1 - i64.wrap (p.2.2.1 * p.1.2.2.2.1)) < p.1.2.2.2.2.1 then i64.wrap (p.2.1 - i64.wrap (p.2.2.1 * p.1.2.2.2.1))else p.1.2.2.2.2.1 else (0:Int),())
abbrev yO3 (p:Lnk×Int×Int×Int×Bool×Unit):Option (Int×Unit):=some (z07 p)
abbrev z07_e:Entry:={ f:=183,args:=.pair t230 .unit,rS:=.pair t3 .unit,m:=λ x=>yO3 x.1 }
theorem yQB:FnOK Tryz.prog z07_e:=fF (hm:=by intro x;show some (z07 x.1)=yNr 0 x.1;unfold yNr z07;first|rfl|simp only[yv]) 0 Tryz.f183 (λ n x=>yNr n x.1) [] eNil
end
end Go.Tw
end
