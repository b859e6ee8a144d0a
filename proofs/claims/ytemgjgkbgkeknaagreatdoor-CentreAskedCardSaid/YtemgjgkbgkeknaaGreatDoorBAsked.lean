/- Models of the program's functions,by program (gen.py),and what they compute. -/
import Derived.Test.YtemgjgkbgkeknaaGreatDoorBT
import Derived.Test.YtemgjgkbgkeknaaGreatDoorB0
import Derived.Test.YtemgjgkbgkeknaaGreatDoorSB
import Derived.Test.YtemgjgkbgkeknaaGreatDoorLZ
import Derived.Test.YtemgjgkbgkeknaaGreatDoorBA
import Derived.Test.YtemgjgkbgkeknaaGreatDoorBC
import Derived.Test.YtemgjgkbgkeknaaGreatDoorBD
import Derived.Test.YtemgjgkbgkeknaaGreatDoorBE
import Derived.Test.YtemgjgkbgkeknaaGreatDoorB12
set_option linter.all false

set_option maxRecDepth 1000000
namespace Go.Tw
open Go.Vx Go.Vx.B Go.Proofs
/-! ### tidewaylaw10.CentreAsked -/
noncomputable def yAb(n:Nat)(v11:Q6)(v12:Int×Unit)(v13:Int×Int×Unit)(v14:(Q1)×Int×Int×Unit)(v16:Int×Unit)(j18:Int)(j19:List UInt8)(j21:Int):Option (Bool×Unit):=
  (bif v11.fst==j19 then (bif v11.snd.fst==v14.snd.snd.fst then (bif v12.fst==j18 then (bif v13.fst==j21 then (bif v13.snd.fst==v16.fst then ((z0c_M).bind λ v22=>Option.some (v22.fst,()))else Option.some (Bool.false,()))else Option.some (Bool.false,()))else Option.some (Bool.false,()))else Option.some (Bool.false,()))else Option.some (Bool.false,()))

noncomputable def yAZ(n:Nat)(xp:List UInt8×List UInt8×List UInt8×Unit)(v11:Q6)(v12:Int×Unit)(v13:Int×Int×Unit)(v14:(Q1)×Int×Int×Unit)(v16:Int×Unit)(j18:Int)(j19:List UInt8):Option (Bool×Unit):=
  (bif v16.fst==(0:Int)then ((yJi (v14.fst.fst,(v14.fst.snd.fst.fst,v14.fst.snd.fst.snd.fst,()),v14.fst.snd.snd.fst,v14.fst.snd.snd.snd.fst,v14.fst.snd.snd.snd.snd.fst,v14.fst.snd.snd.snd.snd.snd.fst,v14.fst.snd.snd.snd.snd.snd.snd.fst,v14.fst.snd.snd.snd.snd.snd.snd.snd.fst,v14.fst.snd.snd.snd.snd.snd.snd.snd.snd.fst,v14.fst.snd.snd.snd.snd.snd.snd.snd.snd.snd.fst,v14.fst.snd.snd.snd.snd.snd.snd.snd.snd.snd.snd.fst,()) xp.snd.snd.fst).bind λ v20=>(yAb n v11 v12 v13 v14 v16 j18 j19 (v20.fst)))else (yAb n v11 v12 v13 v14 v16 j18 j19 ((0:Int))))

noncomputable def zp_m(n:Nat)(l:List (Q2))(xp:List UInt8×List UInt8×List UInt8×Unit):Option (Bool×Unit):=
  ((zq_M l (24:Int)).bind λ v0=>(bif !v0.fst then ((z0c_M).bind λ v7=>Option.some (v7.fst,()))else (bif Decidable.decide ((↑xp.fst.length:Int) > (40:Int))then ((z0c_M).bind λ v8=>Option.some (v8.fst,()))else (bif Decidable.decide ((↑xp.snd.fst.length:Int) > (40:Int))then ((z0c_M).bind λ v9=>Option.some (v9.fst,()))else (bif Decidable.decide ((↑xp.snd.snd.fst.length:Int) > (40:Int))then ((z0c_M).bind λ v10=>Option.some (v10.fst,()))else ((yMQ l).bind λ v11=>((yMz l xp.fst xp.snd.fst).bind λ v12=>((yLw l xp.snd.snd.fst).bind λ v13=>((yNO l).bind λ v14=>((yHG xp.snd.snd.fst).bind λ v15=>((yNM [v14.snd.snd.fst,(z0k (!v15.fst) (8:Int)).fst]).bind λ v16=>(bif v14.snd.snd.fst==(0:Int)then ((yJk (v14.fst.fst,(v14.fst.snd.fst.fst,v14.fst.snd.fst.snd.fst,()),v14.fst.snd.snd.fst,v14.fst.snd.snd.snd.fst,v14.fst.snd.snd.snd.snd.fst,v14.fst.snd.snd.snd.snd.snd.fst,v14.fst.snd.snd.snd.snd.snd.snd.fst,v14.fst.snd.snd.snd.snd.snd.snd.snd.fst,v14.fst.snd.snd.snd.snd.snd.snd.snd.snd.fst,v14.fst.snd.snd.snd.snd.snd.snd.snd.snd.snd.fst,v14.fst.snd.snd.snd.snd.snd.snd.snd.snd.snd.snd.fst,()) xp.fst xp.snd.fst).bind λ v17=>(yAZ n xp v11 v12 v13 v14 v16 (v17.fst) ((z0P (v14.fst.fst,(v14.fst.snd.fst.fst,v14.fst.snd.fst.snd.fst,()),v14.fst.snd.snd.fst,v14.fst.snd.snd.snd.fst,v14.fst.snd.snd.snd.snd.fst,v14.fst.snd.snd.snd.snd.snd.fst,v14.fst.snd.snd.snd.snd.snd.snd.fst,v14.fst.snd.snd.snd.snd.snd.snd.snd.fst,v14.fst.snd.snd.snd.snd.snd.snd.snd.snd.fst,v14.fst.snd.snd.snd.snd.snd.snd.snd.snd.snd.fst,v14.fst.snd.snd.snd.snd.snd.snd.snd.snd.snd.snd.fst,())).fst)))else (yAZ n xp v11 v12 v13 v14 v16 (v14.snd.snd.fst) ([]))))))))))))))

noncomputable def zp_M(l:List (Q2))(xp:List UInt8×List UInt8×List UInt8×Unit):Option (Bool×Unit):=zp_m 0 l xp

noncomputable abbrev zp_e:Entry:={ f:=13,args:=.pair t22 (.pair t113 .unit),rS:=.pair t4 .unit,m:=λ x=>zp_M x.1 x.2.1 }
theorem yQd:FnOK Tryz.prog zp_e:=fF 0 Tryz.f13 (λ n x=>zp_m n x.1 x.2.1) [] (y8 yQ1 (y8 yOv (y8 yNg (y8 yNS (y8 yNT (y8 yNs (y8 yKz (y8 yOr (y8 yOn (y8 yLH (y8 yOj (y8 yNr eNil))))))))))))

end Go.Tw
