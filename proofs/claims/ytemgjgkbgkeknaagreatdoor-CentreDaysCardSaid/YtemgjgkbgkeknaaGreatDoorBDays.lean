/- Models of the program's functions,by program (gen.py),and what they compute. -/
import Derived.Test.YtemgjgkbgkeknaaGreatDoorBT
import Derived.Test.YtemgjgkbgkeknaaGreatDoorB0
import Derived.Test.YtemgjgkbgkeknaaGreatDoorSB
import Derived.Test.YtemgjgkbgkeknaaGreatDoorLZ
import Derived.Test.YtemgjgkbgkeknaaGreatDoorBA
import Derived.Test.YtemgjgkbgkeknaaGreatDoorBC
import Derived.Test.YtemgjgkbgkeknaaGreatDoorBD
import Derived.Test.YtemgjgkbgkeknaaGreatDoorBE
import Derived.Test.YtemgjgkbgkeknaaGreatDoorB12
set_option linter.all false

set_option maxRecDepth 1000000
namespace Go.Tw
open Go.Vx Go.Vx.B Go.Proofs
/-! ### tidewaylaw10.CentreDays -/
noncomputable def zu_m(n:Nat)(l:List (Q2))(tick:Int):Option (Bool×Unit):=
  ((zq_M l (24:Int)).bind λ v0=>(bif !v0.fst then ((z0a_M).bind λ v1=>Option.some (v1.fst,()))else ((yNe l tick).bind λ v2=>((yMW l tick).bind λ v3=>(bif v2.snd.fst==v3.snd.fst then ((yK8 (v2.fst.fst,(v2.fst.snd.fst.fst,v2.fst.snd.fst.snd.fst,()),v2.fst.snd.snd.fst,v2.fst.snd.snd.snd.fst,v2.fst.snd.snd.snd.snd.fst,v2.fst.snd.snd.snd.snd.snd.fst,v2.fst.snd.snd.snd.snd.snd.snd.fst,v2.fst.snd.snd.snd.snd.snd.snd.snd.fst,v2.fst.snd.snd.snd.snd.snd.snd.snd.snd.fst,v2.fst.snd.snd.snd.snd.snd.snd.snd.snd.snd.fst,v2.fst.snd.snd.snd.snd.snd.snd.snd.snd.snd.snd.fst,())).bind λ v4=>((yJW v4.fst (v3.fst.fst,(v3.fst.snd.fst.fst,v3.fst.snd.fst.snd.fst,()),v3.fst.snd.snd.fst,v3.fst.snd.snd.snd.fst,v3.fst.snd.snd.snd.snd.fst,v3.fst.snd.snd.snd.snd.snd.fst,v3.fst.snd.snd.snd.snd.snd.snd.fst,v3.fst.snd.snd.snd.snd.snd.snd.snd.fst,v3.fst.snd.snd.snd.snd.snd.snd.snd.snd.fst,v3.fst.snd.snd.snd.snd.snd.snd.snd.snd.snd.fst,v3.fst.snd.snd.snd.snd.snd.snd.snd.snd.snd.snd.fst,())).bind λ v5=>(bif v5.fst then ((z0a_M).bind λ v6=>Option.some (v6.fst,()))else Option.some (Bool.false,()))))else Option.some (Bool.false,()))))))

noncomputable def zu_M(l:List (Q2))(tick:Int):Option (Bool×Unit):=zu_m 0 l tick

noncomputable abbrev zu_e:Entry:={ f:=5,args:=.pair t22 (.pair t3 .unit),rS:=.pair t4 .unit,m:=λ x=>zu_M x.1 x.2.1 }
theorem yQy:FnOK Tryz.prog zu_e:=fF 0 Tryz.f5 (λ n x=>zu_m n x.1 x.2.1) [] (yC yQd (yC yPX (yC yOc (yC yOE (yC yOy (yC yPa eNil))))))

end Go.Tw
