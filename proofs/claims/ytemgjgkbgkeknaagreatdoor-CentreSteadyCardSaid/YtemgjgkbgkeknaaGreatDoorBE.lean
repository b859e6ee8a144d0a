import Derived.Test.YtemgjgkbgkeknaaGreatDoorBT
import Derived.Test.YtemgjgkbgkeknaaGreatDoorB0
import Derived.Test.YtemgjgkbgkeknaaGreatDoorSB
import Derived.Test.YtemgjgkbgkeknaaGreatDoorLZ
import Derived.Test.YtemgjgkbgkeknaaGreatDoorBA
import Derived.Test.YtemgjgkbgkeknaaGreatDoorBC
import Derived.Test.YtemgjgkbgkeknaaGreatDoorBD
set_option linter.all false
open Go.IntKind (i64)
section
set_option maxRecDepth 1000000
namespace Go.Tw
open Go.Vx Go.Vx.B Go.Proofs
noncomputable section
def y5L(n:Nat)(r2:Int->Int->List (Q2)->Int->Int->List (Q2)->List (Q2)->List (Q1)->List (Q5)->Option (List (Q5)×Int×Unit))(ar ay:Int)(ax:List (Q2))(b8 aE:Int)(av aw:List (Q2))(au:List (Q1))(aT:List (Q5))(v3:Q2)(v4:Int)(j8:Bool):Option (List (Q5)×Int×Unit):=
  (bif j8 then ((idx au aE).bind λ v9=>((idx v3.2.2.1 (0:Int)).bind λ v10=>(bif decide (aT.length+(1:Nat)<=memMax)then r2 ar ay ax b8 (i64.wrap (aE+1)) av aw au (aT++[(v4,(zM v9).1,v10,())])else none)))else r2 ar ay ax b8 (i64.wrap (aE+1)) av aw au aT)
def yG3(n:Nat)(r2:Int->Int->List (Q2)->Int->Int->List (Q2)->List (Q2)->List (Q1)->List (Q5)->Option (List (Q5)×Int×Unit))(ar ay:Int)(ax:List (Q2))(b8 aE:Int)(av aw:List (Q2))(au:List (Q1))(aT:List (Q5)):Option (List (Q5)×Int×Unit):=
  (bif decide (aE < b8)then ((idx ax aE).bind λ v3=>((idx v3.2.2.2.1 (0:Int)).bind λ v4=>(bif (z02 v3).1 then (bif decide (v4 >= ar)then (y5L n r2 ar ay ax b8 aE av aw au aT v3 v4 (decide (v4 < ay)))else (y5L n r2 ar ay ax b8 aE av aw au aT v3 v4 (Bool.false)))else (y5L n r2 ar ay ax b8 aE av aw au aT v3 v4 (Bool.false)))))else some (aT,(0:Int),()))
def y7a(n k:Nat)(ar ay:Int)(ax:List (Q2))(b8 aE:Int)(av aw:List (Q2))(au:List (Q1))(aT:List (Q5)):Option (List (Q5)×Int×Unit):=
  iter (λ r y=>yG3 n (λ ar ay ax b8 aE av aw au aT=>r ((ar,(ay,(ax,(b8,(aE,()))))),(((av,(aw,(au,()))),(aT,())),()))) y.1.1 y.1.2.1 y.1.2.2.1 y.1.2.2.2.1 y.1.2.2.2.2.1 y.2.1.1.1 y.2.1.1.2.1 y.2.1.1.2.2.1 y.2.1.2.1) k ((ar,(ay,(ax,(b8,(aE,()))))),(((av,(aw,(au,()))),(aT,())),()))
def yRU(n:Nat)(l:List (Q2))(p1 p2:Int):Option (List (Q5)×Int×Unit):=
  ((yCU l).bind λ v0=>((y15 [v0.2.2.1,(z0E p1 (0:Int) (999999999:Int)).1,(z0E p2 (0:Int) (999999999:Int)).1,(z0a (decide (p2 < p1)) (11:Int)).1]).bind λ v1=>(bif v1.1 != 0 then some ([],v1.1,())else (y7a n n (p1) (p2) (v0.1.2.1) ((↑v0.1.2.1.length:Int)) ((0:Int)) (v0.1.1) (v0.1.2.1) (v0.1.2.2.1) ([])))))
def y8W(ar ay:Int)(ax:List (Q2))(aE:Int)(av aw:List (Q2))(au:List (Q1))(aT:List (Q5))(v3:Q2)(v4:Int)(j8:Bool):Option ((List (Q5)×Int×Unit)⊕(List (Q5))):=
  (bif j8 then ((idx au aE).bind λ v9=>((idx v3.2.2.1 (0:Int)).bind λ v10=>(bif decide (aT.length+(1:Nat)<=memMax)then (some (Sum.inr (aT++[(v4,(zM v9).1,v10,())])))else none)))else (some (Sum.inr (aT))))
theorem y1E(n:Nat)(hn:big<=n)(r2:Int->Int->List (Q2)->Int->Int->List (Q2)->List (Q2)->List (Q1)->List (Q5)->Option (List (Q5)×Int×Unit))(ar ay:Int)(ax:List (Q2))(aE:Int)(av aw:List (Q2))(au:List (Q1))(aT:List (Q5))(v3:Q2)(v4:Int)(j8:Bool):LeF (elim some λ (aD:(List (Q5)))=>r2 ar ay ax (List.length (ax):Int) (i64.wrap (aE+1)) av aw au aD) (y8W ar ay ax aE av aw au aT v3 v4 j8) (y5L n r2 ar ay ax (List.length (ax):Int) aE av aw au aT v3 v4 j8):=
  (y7 (yF λ v9=>(yF λ v10=>(y7 (y9 rfl) y03))) (y9 rfl))
def yDF(ar ay:Int)(ax av aw:List (Q2))(au:List (Q1))(aE:Int)(v3:Q2)(aT:List (Q5)):Option ((List (Q5)×Int×Unit)⊕(List (Q5))):=
  ((idx v3.2.2.2.1 (0:Int)).bind λ v4=>(bif (z02 v3).1 then (bif decide (v4 >= ar)then (y8W ar ay ax aE av aw au aT v3 v4 (decide (v4 < ay)))else (y8W ar ay ax aE av aw au aT v3 v4 (Bool.false)))else (y8W ar ay ax aE av aw au aT v3 v4 (Bool.false))))
def yHf(ar ay:Int)(ax av aw:List (Q2))(au:List (Q1))(aT:List (Q5)):Option (List (Q5)×Int×Unit):=
  (some ((aT,(0:Int),())))
theorem yDk(n:Nat)(hn:big<=n)(ar ay:Int)(ax av aw:List (Q2))(au:List (Q1))(aT:List (Q5))(hx:List.length (ax) < yB):LeF some (yR (λ bc bf aD=>yDF ar ay ax av aw au bc bf aD) (λ aD=>yHf ar ay ax av aw au aD) 0 (ax) aT) (y7a n n ar ay ax (List.length (ax):Int) 0 av aw au aT):=by
  refine yo (f:=some) (W:=λ bg bc aD=>y7a n bg ar ay ax (List.length (ax):Int) bc av aw au aD) (λ bg bc aD=>?_) hx aT n (by unfold big at hn;unfold yB at hx;omega)
  show LeF _ _ (yG3 n (y7a n bg) ar ay ax (List.length (ax):Int) bc av aw au aD)
  exact y7 (yF λ v3=>(yF λ v4=>(y7 (y7 (by apply y1E n hn) (by apply y1E n hn)) (by apply y1E n hn)))) (y1I (y9 rfl))
def yOq(l:List (Q2))(p1 p2:Int):Option (List (Q5)×Int×Unit):=
  ((yCU l).bind λ v0=>((y15 [v0.2.2.1,(z0E p1 (0:Int) (999999999:Int)).1,(z0E p2 (0:Int) (999999999:Int)).1,(z0a (decide (p2 < p1)) (11:Int)).1]).bind λ v1=>(bif v1.1 != 0 then (some (([],v1.1,())))else (bif decide (List.length (v0.1.2.1) < yB)then yR (λ bc bf aD=>yDF (p1) (p2) (v0.1.2.1) (v0.1.1) (v0.1.2.1) (v0.1.2.2.1) bc bf aD) (λ aD=>yHf (p1) (p2) (v0.1.2.1) (v0.1.1) (v0.1.2.1) (v0.1.2.2.1) aD) 0 (v0.1.2.1) ([])else none))))
abbrev z0J_e:Entry:={ f:=16,args:=.pair t22 (.pair t3 (.pair t3 .unit)),rS:=.pair t28 (.pair t29 .unit),m:=λ x=>yOq x.1 x.2.1 x.2.2.1 }
theorem yMw:FnOK Tryz.prog z0J_e:=fB (mu:=[12]) Tryz.f16 (λ n x=>yRU n x.1 x.2.1 x.2.2.1) [[1,2,8,12,37,38,39]] (yE yIj (yE yFZ (yE y4I (yE y73 (yE yMP (yE yJH eNil)))))) λ n hn x=>(yF λ v0=>(yF λ v1=>(y7 (y9 rfl) (yl λ hx=>by apply yDk n hn;exact hx))))
def il69:Inl:={ f:=69,fn:=Tryz.f69,keep:=[[5,6,15,16,17]],mU:=[6],fz:=[] }
theorem yOU:y0B Tryz.prog il69:=⟨by kernel_rfl,by kernel_rfl,λ e0 h=>by cases (show (none:Option LibK)=some e0 from h)⟩
def yFo(n:Nat)(r3:List (Q2)->Int->Int->Int->Int->Int->Int->Int->Int->Int->List UInt8->Int->List (Q3)->List (List UInt8)->List (Q6)->List (Q5)->List (Q2)->List (Q2)->List (Q1)->List (Q2)->Int×Int×Unit->Int×Int×Unit->Int->Int->Int->Int->List (Q2)->List (Q2)×List (Q2)×List (Q1)×Unit->Int->Int->Int->Int×Int×Unit->Int->List Int->Int->Int->Bool->Int×Int×Unit->Option (List (Q5)×Int×Unit))(aC:List (Q2))(aV aU aj ak am ac ae af ah:Int)(ai:List UInt8)(aa:Int)(aq:List (Q3))(a7:List (List UInt8))(a8:List (Q6))(aS:List (Q5))(az aA:List (Q2))(aB:List (Q1))(aW:List (Q2))(aX aY:Int×Int×Unit)(aZ b4 b5 b6:Int)(aF:List (Q2))(aG:List (Q2)×List (Q2)×List (Q1)×Unit)(aH aI aJ:Int)(aK:Int×Int×Unit)(aL:Int)(aM:List Int)(aN aO:Int)(aP:Bool)(aQ:Int×Int×Unit):Option (List (Q5)×Int×Unit):=
  (bif decide (aU < aV)then ((idx aC aU).bind λ v4=>(bif (z02 v4).1 then ((idx v4.2.2.2.1 (0:Int)).bind λ v5=>((idx v4.2.2.1 (0:Int)).bind λ v6=>(bif decide (aS.length+(1:Nat)<=memMax)then (bif (zM (aj,(ak,am,()),ac,ae,af,ah,ai,aa,aq,a7,a8,())).1==[(119:UInt8),97,105,116]then r3 aC aV (i64.wrap (aU+1)) aj ak am ac ae af ah ai aa aq a7 a8 (aS++[(v5,(zM (aj,(ak,am,()),ac,ae,af,ah,ai,aa,aq,a7,a8,())).1,v6,())]) az aA aB aW aX aY aZ b4 b5 b6 aF aG aH aI aJ aK aL aM aN aO aP aQ else (bif (zM (aj,(ak,am,()),ac,ae,af,ah,ai,aa,aq,a7,a8,())).1==[(99:UInt8),108,111,115,101]then (bif !ai==[(99:UInt8),108,111,115,101]then r3 aC aV (i64.wrap (aU+1)) aj ak am ac ae af ah (zM (aj,(ak,am,()),ac,ae,af,ah,ai,aa,aq,a7,a8,())).1 (i64.wrap (aa+1)) aq a7 a8 (aS++[(v5,(zM (aj,(ak,am,()),ac,ae,af,ah,ai,aa,aq,a7,a8,())).1,v6,())]) az aA aB aW aX aY aZ b4 b5 b6 aF aG aH aI aJ aK aL aM aN aO aP aQ else r3 aC aV (i64.wrap (aU+1)) aj ak am ac ae af ah (zM (aj,(ak,am,()),ac,ae,af,ah,ai,aa,aq,a7,a8,())).1 aa aq a7 a8 (aS++[(v5,(zM (aj,(ak,am,()),ac,ae,af,ah,ai,aa,aq,a7,a8,())).1,v6,())]) az aA aB aW aX aY aZ b4 b5 b6 aF aG aH aI aJ aK aL aM aN aO aP aQ)else r3 aC aV (i64.wrap (aU+1)) aj ak am ac ae af ah (zM (aj,(ak,am,()),ac,ae,af,ah,ai,aa,aq,a7,a8,())).1 aa aq a7 a8 (aS++[(v5,(zM (aj,(ak,am,()),ac,ae,af,ah,ai,aa,aq,a7,a8,())).1,v6,())]) az aA aB aW aX aY aZ b4 b5 b6 aF aG aH aI aJ aK aL aM aN aO aP aQ))else none)))else (bif v4.2.1==[(102:UInt8),111,114,101,99,97,115,116]then ((idx v4.2.2.2.1 (1:Int)).bind λ v14=>((idx v4.2.2.2.1 (2:Int)).bind λ v15=>r3 aC aV (i64.wrap (aU+1)) aj ak am v14 v15 af ah ai aa aq a7 a8 aS az aA aB aW aX aY aZ b4 b5 b6 aF aG aH aI aJ aK aL aM aN aO aP aQ))else (bif v4.2.1==[(108:UInt8),101,118,101,108]then ((idx v4.2.2.1 (0:Int)).bind λ v16=>(bif v16==[(115:UInt8),101,97]then ((idx v4.2.2.2.1 (1:Int)).bind λ v17=>r3 aC aV (i64.wrap (aU+1)) aj ak am ac ae v17 ah ai aa aq a7 a8 aS az aA aB aW aX aY aZ b4 b5 b6 aF aG aH aI aJ aK aL aM aN aO aP aQ)else (bif v16==[(98:UInt8),97,115,105,110]then ((idx v4.2.2.2.1 (1:Int)).bind λ v18=>r3 aC aV (i64.wrap (aU+1)) aj ak am ac ae af v18 ai aa aq a7 a8 aS az aA aB aW aX aY aZ b4 b5 b6 aF aG aH aI aJ aK aL aM aN aO aP aQ)else ((idx v4.2.2.2.1 (1:Int)).bind λ v19=>none))))else r3 aC aV (i64.wrap (aU+1)) aj ak am ac ae af ah ai aa aq a7 a8 aS az aA aB aW aX aY aZ b4 b5 b6 aF aG aH aI aJ aK aL aM aN aO aP aQ))))else some (aS,(0:Int),()))
def y7N(n k:Nat)(aC:List (Q2))(aV aU aj ak am ac ae af ah:Int)(ai:List UInt8)(aa:Int)(aq:List (Q3))(a7:List (List UInt8))(a8:List (Q6))(aS:List (Q5))(az aA:List (Q2))(aB:List (Q1))(aW:List (Q2))(aX aY:Int×Int×Unit)(aZ b4 b5 b6:Int)(aF:List (Q2))(aG:List (Q2)×List (Q2)×List (Q1)×Unit)(aH aI aJ:Int)(aK:Int×Int×Unit)(aL:Int)(aM:List Int)(aN aO:Int)(aP:Bool)(aQ:Int×Int×Unit):Option (List (Q5)×Int×Unit):=
  iter (λ r y=>yFo n (λ aC aV aU aj ak am ac ae af ah ai aa aq a7 a8 aS az aA aB aW aX aY aZ b4 b5 b6 aF aG aH aI aJ aK aL aM aN aO aP aQ=>r ((aC,(aV,(aU,()))),(((aj,(ak,(am,(ac,(ae,(af,(ah,(ai,(aa,(aq,(a7,(a8,())))))))))))),(aS,((az,(aA,(aB,()))),()))),(aW,(aX,(aY,(aZ,(b4,(b5,(b6,(aF,(aG,(aH,(aI,(aJ,(aK,(aL,(aM,(aN,(aO,(aP,(aQ,())))))))))))))))))))))) y.1.1 y.1.2.1 y.1.2.2.1 y.2.1.1.1 y.2.1.1.2.1 y.2.1.1.2.2.1 y.2.1.1.2.2.2.1 y.2.1.1.2.2.2.2.1 y.2.1.1.2.2.2.2.2.1 y.2.1.1.2.2.2.2.2.2.1 y.2.1.1.2.2.2.2.2.2.2.1 y.2.1.1.2.2.2.2.2.2.2.2.1 y.2.1.1.2.2.2.2.2.2.2.2.2.1 y.2.1.1.2.2.2.2.2.2.2.2.2.2.1 y.2.1.1.2.2.2.2.2.2.2.2.2.2.2.1 y.2.1.2.1 y.2.1.2.2.1.1 y.2.1.2.2.1.2.1 y.2.1.2.2.1.2.2.1 y.2.2.1 y.2.2.2.1 y.2.2.2.2.1 y.2.2.2.2.2.1 y.2.2.2.2.2.2.1 y.2.2.2.2.2.2.2.1 y.2.2.2.2.2.2.2.2.1 y.2.2.2.2.2.2.2.2.2.1 y.2.2.2.2.2.2.2.2.2.2.1 y.2.2.2.2.2.2.2.2.2.2.2.1 y.2.2.2.2.2.2.2.2.2.2.2.2.1 y.2.2.2.2.2.2.2.2.2.2.2.2.2.1 y.2.2.2.2.2.2.2.2.2.2.2.2.2.2.1 y.2.2.2.2.2.2.2.2.2.2.2.2.2.2.2.1 y.2.2.2.2.2.2.2.2.2.2.2.2.2.2.2.2.1 y.2.2.2.2.2.2.2.2.2.2.2.2.2.2.2.2.2.1 y.2.2.2.2.2.2.2.2.2.2.2.2.2.2.2.2.2.2.1 y.2.2.2.2.2.2.2.2.2.2.2.2.2.2.2.2.2.2.2.1 y.2.2.2.2.2.2.2.2.2.2.2.2.2.2.2.2.2.2.2.2.1) k ((aC,(aV,(aU,()))),(((aj,(ak,(am,(ac,(ae,(af,(ah,(ai,(aa,(aq,(a7,(a8,())))))))))))),(aS,((az,(aA,(aB,()))),()))),(aW,(aX,(aY,(aZ,(b4,(b5,(b6,(aF,(aG,(aH,(aI,(aJ,(aK,(aL,(aM,(aN,(aO,(aP,(aQ,())))))))))))))))))))))
def yQx(n:Nat)(l:List (Q2))(rule:Int×Int×Unit):Option (List (Q5)×Int×Unit):=
  ((yCU l).bind λ v0=>((zq_M rule).bind λ v1=>((y15 [v0.2.2.1,v1.1]).bind λ v2=>(bif v2.1 != 0 then some ([],v2.1,())else (y7N n n (v0.1.2.1) ((↑v0.1.2.1.length:Int)) ((0:Int)) ((0:Int)) (rule.1) (rule.2.1) ((0:Int)) ((0:Int)) ((0:Int)) ((0:Int)) ([(111:UInt8),112,101,110]) ((0:Int)) ([]) ([]) ([]) ([]) (v0.1.1) (v0.1.2.1) (v0.1.2.2.1) (l) (rule) (rule) ((0:Int)) (v0.2.1) (v0.2.2.1) (v2.1) (l) (v0.1) (v0.2.1) (v0.2.2.1) (v0.2.2.1) (rule) (v1.1) ([v0.2.2.1,v1.1]) (v2.1) (v2.1) (v2.1 != 0) (rule))))))
def yJ0(aC:List (Q2))(aj ak am:Int)(aq:List (Q3))(a7:List (List UInt8))(a8:List (Q6))(az aA:List (Q2))(aB:List (Q1))(aW:List (Q2))(aX aY:Int×Int×Unit)(aZ b4 b5 b6:Int)(aF:List (Q2))(aG:List (Q2)×List (Q2)×List (Q1)×Unit)(aH aI aJ:Int)(aK:Int×Int×Unit)(aL:Int)(aM:List Int)(aN aO:Int)(aP:Bool)(aQ:Int×Int×Unit)(aU:Int)(v4:Q2)(ac ae af ah:Int)(ai:List UInt8)(aa:Int)(aS:List (Q5)):Option ((List (Q5)×Int×Unit)⊕(Int×Int×Int×Int×List UInt8×Int×(List (Q5)))):=
  (bif (z02 v4).1 then ((idx v4.2.2.2.1 (0:Int)).bind λ v5=>((idx v4.2.2.1 (0:Int)).bind λ v6=>(bif decide (aS.length+(1:Nat)<=memMax)then (bif (zM (aj,(ak,am,()),ac,ae,af,ah,ai,aa,aq,a7,a8,())).1==[(119:UInt8),97,105,116]then (some (Sum.inr ((ac),(ae),(af),(ah),(ai),(aa),(aS++[(v5,(zM (aj,(ak,am,()),ac,ae,af,ah,ai,aa,aq,a7,a8,())).1,v6,())]))))else (bif (zM (aj,(ak,am,()),ac,ae,af,ah,ai,aa,aq,a7,a8,())).1==[(99:UInt8),108,111,115,101]then (bif !ai==[(99:UInt8),108,111,115,101]then (some (Sum.inr ((ac),(ae),(af),(ah),((zM (aj,(ak,am,()),ac,ae,af,ah,ai,aa,aq,a7,a8,())).1),(i64.wrap (aa+1)),(aS++[(v5,(zM (aj,(ak,am,()),ac,ae,af,ah,ai,aa,aq,a7,a8,())).1,v6,())]))))else (some (Sum.inr ((ac),(ae),(af),(ah),((zM (aj,(ak,am,()),ac,ae,af,ah,ai,aa,aq,a7,a8,())).1),(aa),(aS++[(v5,(zM (aj,(ak,am,()),ac,ae,af,ah,ai,aa,aq,a7,a8,())).1,v6,())])))))else (some (Sum.inr ((ac),(ae),(af),(ah),((zM (aj,(ak,am,()),ac,ae,af,ah,ai,aa,aq,a7,a8,())).1),(aa),(aS++[(v5,(zM (aj,(ak,am,()),ac,ae,af,ah,ai,aa,aq,a7,a8,())).1,v6,())]))))))else none)))else (bif v4.2.1==[(102:UInt8),111,114,101,99,97,115,116]then ((idx v4.2.2.2.1 (1:Int)).bind λ v14=>((idx v4.2.2.2.1 (2:Int)).bind λ v15=>(some (Sum.inr ((v14),(v15),(af),(ah),(ai),(aa),(aS))))))else (bif v4.2.1==[(108:UInt8),101,118,101,108]then ((idx v4.2.2.1 (0:Int)).bind λ v16=>(bif v16==[(115:UInt8),101,97]then ((idx v4.2.2.2.1 (1:Int)).bind λ v17=>(some (Sum.inr ((ac),(ae),(v17),(ah),(ai),(aa),(aS)))))else (bif v16==[(98:UInt8),97,115,105,110]then ((idx v4.2.2.2.1 (1:Int)).bind λ v18=>(some (Sum.inr ((ac),(ae),(af),(v18),(ai),(aa),(aS)))))else ((idx v4.2.2.2.1 (1:Int)).bind λ v19=>none))))else (some (Sum.inr ((ac),(ae),(af),(ah),(ai),(aa),(aS)))))))
def yMa(aC:List (Q2))(aj ak am:Int)(aq:List (Q3))(a7:List (List UInt8))(a8:List (Q6))(az aA:List (Q2))(aB:List (Q1))(aW:List (Q2))(aX aY:Int×Int×Unit)(aZ b4 b5 b6:Int)(aF:List (Q2))(aG:List (Q2)×List (Q2)×List (Q1)×Unit)(aH aI aJ:Int)(aK:Int×Int×Unit)(aL:Int)(aM:List Int)(aN aO:Int)(aP:Bool)(aQ:Int×Int×Unit)(ac ae af ah:Int)(ai:List UInt8)(aa:Int)(aS:List (Q5)):Option (List (Q5)×Int×Unit):=
  (some ((aS,(0:Int),())))
theorem yDw(n:Nat)(hn:big<=n)(aC:List (Q2))(aj ak am:Int)(aq:List (Q3))(a7:List (List UInt8))(a8:List (Q6))(az aA:List (Q2))(aB:List (Q1))(aW:List (Q2))(aX aY:Int×Int×Unit)(aZ b4 b5 b6:Int)(aF:List (Q2))(aG:List (Q2)×List (Q2)×List (Q1)×Unit)(aH aI aJ:Int)(aK:Int×Int×Unit)(aL:Int)(aM:List Int)(aN aO:Int)(aP:Bool)(aQ:Int×Int×Unit)(ac ae af ah:Int)(ai:List UInt8)(aa:Int)(aS:List (Q5))(hx:List.length (aC) < yB):LeF some (yR (λ bc bf aD=>yJ0 aC aj ak am aq a7 a8 az aA aB aW aX aY aZ b4 b5 b6 aF aG aH aI aJ aK aL aM aN aO aP aQ bc bf aD.1 aD.2.1 aD.2.2.1 aD.2.2.2.1 aD.2.2.2.2.1 aD.2.2.2.2.2.1 aD.2.2.2.2.2.2) (λ aD=>yMa aC aj ak am aq a7 a8 az aA aB aW aX aY aZ b4 b5 b6 aF aG aH aI aJ aK aL aM aN aO aP aQ aD.1 aD.2.1 aD.2.2.1 aD.2.2.2.1 aD.2.2.2.2.1 aD.2.2.2.2.2.1 aD.2.2.2.2.2.2) 0 (aC) (ac,ae,af,ah,ai,aa,aS)) (y7N n n aC (List.length (aC):Int) 0 aj ak am ac ae af ah ai aa aq a7 a8 aS az aA aB aW aX aY aZ b4 b5 b6 aF aG aH aI aJ aK aL aM aN aO aP aQ):=by
  refine yo (f:=some) (W:=λ bg bc aD=>y7N n bg aC (List.length (aC):Int) bc aj ak am aD.1 aD.2.1 aD.2.2.1 aD.2.2.2.1 aD.2.2.2.2.1 aD.2.2.2.2.2.1 aq a7 a8 aD.2.2.2.2.2.2 az aA aB aW aX aY aZ b4 b5 b6 aF aG aH aI aJ aK aL aM aN aO aP aQ) (λ bg bc aD=>?_) hx (ac,ae,af,ah,ai,aa,aS) n (by unfold big at hn;unfold yB at hx;omega)
  show LeF _ _ (yFo n (y7N n bg) aC (List.length (aC):Int) bc aj ak am aD.1 aD.2.1 aD.2.2.1 aD.2.2.2.1 aD.2.2.2.2.1 aD.2.2.2.2.2.1 aq a7 a8 aD.2.2.2.2.2.2 az aA aB aW aX aY aZ b4 b5 b6 aF aG aH aI aJ aK aL aM aN aO aP aQ)
  exact y7 (yF λ v4=>(y7 (yF λ v5=>(yF λ v6=>(y7 (y7 (y9 rfl) (y7 (y7 (y9 rfl) (y9 rfl)) (y9 rfl))) y03))) (y7 (yF λ v14=>(yF λ v15=>(y9 rfl))) (y7 (yF λ v16=>(y7 (yF λ v17=>(y9 rfl)) (y7 (yF λ v18=>(y9 rfl)) (yF λ v19=>y03)))) (y9 rfl))))) (y1I (y9 rfl))
def yId(l:List (Q2))(rule:Int×Int×Unit):Option (List (Q5)×Int×Unit):=
  ((yCU l).bind λ v0=>((zq_M rule).bind λ v1=>((y15 [v0.2.2.1,v1.1]).bind λ v2=>(bif v2.1 != 0 then (some (([],v2.1,())))else (bif decide (List.length (v0.1.2.1) < yB)then yR (λ bc bf aD=>yJ0 (v0.1.2.1) ((0:Int)) (rule.1) (rule.2.1) ([]) ([]) ([]) (v0.1.1) (v0.1.2.1) (v0.1.2.2.1) (l) (rule) (rule) ((0:Int)) (v0.2.1) (v0.2.2.1) (v2.1) (l) (v0.1) (v0.2.1) (v0.2.2.1) (v0.2.2.1) (rule) (v1.1) ([v0.2.2.1,v1.1]) (v2.1) (v2.1) (v2.1 != 0) (rule) bc bf aD.1 aD.2.1 aD.2.2.1 aD.2.2.2.1 aD.2.2.2.2.1 aD.2.2.2.2.2.1 aD.2.2.2.2.2.2) (λ aD=>yMa (v0.1.2.1) ((0:Int)) (rule.1) (rule.2.1) ([]) ([]) ([]) (v0.1.1) (v0.1.2.1) (v0.1.2.2.1) (l) (rule) (rule) ((0:Int)) (v0.2.1) (v0.2.2.1) (v2.1) (l) (v0.1) (v0.2.1) (v0.2.2.1) (v0.2.2.1) (rule) (v1.1) ([v0.2.2.1,v1.1]) (v2.1) (v2.1) (v2.1 != 0) (rule) aD.1 aD.2.1 aD.2.2.1 aD.2.2.2.1 aD.2.2.2.2.1 aD.2.2.2.2.2.1 aD.2.2.2.2.2.2) 0 (v0.1.2.1) (((0:Int)),((0:Int)),((0:Int)),((0:Int)),([(111:UInt8),112,101,110]),((0:Int)),([]))else none)))))
abbrev z0B_e:Entry:={ f:=17,args:=.pair t22 (.pair t33 .unit),rS:=.pair t28 (.pair t29 .unit),m:=λ x=>yId x.1 x.2.1 }
theorem yIW:FnOK Tryz.prog z0B_e:=fBI Tryz.f17 (λ n x=>yQx n x.1 x.2.1) [] [il69,il115] 3 (yE yIj (yE yPC (yE y73 (yE yMP (yE yJH (yE yPu eNil)))))) (y0V yOU (y0V yFK iNil)) λ n hn x=>(yF λ v0=>(yF λ v1=>(yF λ v2=>(y7 (y9 rfl) (yl λ hx=>by apply yDw n hn;exact hx)))))
def yOQ(n:Nat)(l:List (Q2)):Option ((Q1)×Int×Int×Unit):=
  ((yCU l).bind λ v0=>(bif v0.2.2.1 != 0 then some (((0:Int),((0:Int),(0:Int),()),(0:Int),(0:Int),(0:Int),(0:Int),[],(0:Int),[],[],[],()),v0.2.1,v0.2.2.1,())else ((v0.1.2.2.1.getLast?).bind λ v1=>some (v1,(0:Int),(0:Int),()))))
def yLu(l:List (Q2)):Option ((Q1)×Int×Int×Unit):=yOQ 0 l
abbrev z0A_e:Entry:={ f:=30,args:=.pair t22 .unit,rS:=.pair t60 (.pair t3 (.pair t29 .unit)),m:=λ x=>yLu x.1 }
theorem yPX:FnOK Tryz.prog z0A_e:=fF 0 Tryz.f30 (λ n x=>yOQ n x.1) [] (yE yIj (yE yNW eNil))
end
end Go.Tw
end
section
set_option maxRecDepth 1000000
namespace Go.Tw
open Go.Vx Go.Vx.B Go.Proofs
noncomputable section
end
end Go.Tw
end
section
set_option maxRecDepth 1000000
namespace Go.Tw
open Go.Vx Go.Vx.B Go.Proofs
noncomputable section
def yIr(n:Nat)(r1:List (Q5)->Int->Int->List Int->Option (List Int×Int×Unit))(aR:List (Q5))(bd b9:Int)(b7:List Int):Option (List Int×Int×Unit):=
  (bif decide (b9 < bd)then ((idx aR b9).bind λ v2=>(bif !eqV ((Ty.int i64).pair (Ty.str.pair (Ty.str.pair Ty.unit))) (v2.1,v2.2.1,v2.2.2.1,()) (v2.1,v2.2.2.1,v2.2.2.1,())then (bif decide (b7.length+(1:Nat)<=memMax)then r1 aR bd (i64.wrap (b9+1)) (b7++[b9])else none)else r1 aR bd (i64.wrap (b9+1)) b7))else some (b7,(0:Int),()))
def yAP(n k:Nat)(aR:List (Q5))(bd b9:Int)(b7:List Int):Option (List Int×Int×Unit):=
  iter (λ r y=>yIr n (λ aR bd b9 b7=>r ((aR,(bd,(b9,()))),((b7,()),()))) y.1.1 y.1.2.1 y.1.2.2.1 y.2.1.1) k ((aR,(bd,(b9,()))),((b7,()),()))
def zb_m(n:Nat)(l:List (Q2))(rule:Int×Int×Unit):Option (List Int×Int×Unit):=
  ((yId l rule).bind λ v0=>(bif v0.2.1 != 0 then some ([],v0.2.1,())else (yAP n n (v0.1) ((↑v0.1.length:Int)) ((0:Int)) ([]))))
def yNC(aR:List (Q5))(b9:Int)(v2:Q5)(b7:List Int):Option ((List Int×Int×Unit)⊕(List Int)):=
  (bif !eqV ((Ty.int i64).pair (Ty.str.pair (Ty.str.pair Ty.unit))) (v2.1,v2.2.1,v2.2.2.1,()) (v2.1,v2.2.2.1,v2.2.2.1,())then (bif decide (b7.length+(1:Nat)<=memMax)then (some (Sum.inr (b7++[b9])))else none)else (some (Sum.inr (b7))))
def yQJ(aR:List (Q5))(b7:List Int):Option (List Int×Int×Unit):=
  (some ((b7,(0:Int),())))
theorem yHJ(n:Nat)(hn:big<=n)(aR:List (Q5))(b7:List Int)(hx:List.length (aR) < yB):LeF some (yR (λ bc bf aD=>yNC aR bc bf aD) (λ aD=>yQJ aR aD) 0 (aR) b7) (yAP n n aR (List.length (aR):Int) 0 b7):=by
  refine yo (f:=some) (W:=λ bg bc aD=>yAP n bg aR (List.length (aR):Int) bc aD) (λ bg bc aD=>?_) hx b7 n (by unfold big at hn;unfold yB at hx;omega)
  show LeF _ _ (yIr n (yAP n bg) aR (List.length (aR):Int) bc aD)
  exact y7 (yF λ v2=>(y7 (y7 (y9 rfl) y03) (y9 rfl))) (y1I (y9 rfl))
def zb_M(l:List (Q2))(rule:Int×Int×Unit):Option (List Int×Int×Unit):=
  ((yId l rule).bind λ v0=>(bif v0.2.1 != 0 then (some (([],v0.2.1,())))else (bif decide (List.length (v0.1) < yB)then yR (λ bc bf aD=>yNC (v0.1) bc bf aD) (λ aD=>yQJ (v0.1) aD) 0 (v0.1) ([])else none)))
abbrev zb_e:Entry:={ f:=18,args:=.pair t22 (.pair t33 .unit),rS:=.pair t34 (.pair t29 .unit),m:=λ x=>zb_M x.1 x.2.1 }
theorem yPN:FnOK Tryz.prog zb_e:=fB (mu:=[8]) Tryz.f18 (λ n x=>zb_m n x.1 x.2.1) [[8,21,22,23]] (yE yIW eNil) λ n hn x=>(yF λ v0=>(y7 (y9 rfl) (yl λ hx=>by apply yHJ n hn;exact hx)))
def yNJ(n:Nat)(l:List (Q2)):Option (Q6):=
  ((yLu l).bind λ v0=>(bif v0.2.2.1 != 0 then some ([],v0.2.2.1,())else some ((zM v0.1).1,(0:Int),())))
def yOR(l:List (Q2)):Option (Q6):=yNJ 0 l
abbrev z09_e:Entry:={ f:=50,args:=.pair t22 .unit,rS:=.pair t9 (.pair t29 .unit),m:=λ x=>yOR x.1 }
theorem yQN:FnOK Tryz.prog z09_e:=fF 0 Tryz.f50 (λ n x=>yNJ n x.1) [] (yE yPX (yE yJH eNil))
end
end Go.Tw
end
