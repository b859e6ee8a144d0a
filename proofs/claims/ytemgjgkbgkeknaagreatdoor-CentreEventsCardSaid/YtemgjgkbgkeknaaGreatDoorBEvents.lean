/- Models of the program's functions,by program (gen.py),and what they compute. -/
import Derived.Test.YtemgjgkbgkeknaaGreatDoorBT
import Derived.Test.YtemgjgkbgkeknaaGreatDoorB0
import Derived.Test.YtemgjgkbgkeknaaGreatDoorSB
import Derived.Test.YtemgjgkbgkeknaaGreatDoorLZ
import Derived.Test.YtemgjgkbgkeknaaGreatDoorBA
import Derived.Test.YtemgjgkbgkeknaaGreatDoorBC
import Derived.Test.YtemgjgkbgkeknaaGreatDoorBD
import Derived.Test.YtemgjgkbgkeknaaGreatDoorBE
import Derived.Test.YtemgjgkbgkeknaaGreatDoorB12
set_option linter.all false

set_option maxRecDepth 1000000
namespace Go.Tw
open Go.Vx Go.Vx.B Go.Proofs
/-! ### tidewaylaw10.CentreEvents -/
noncomputable def zn_m(n:Nat)(l:List (Q2))(e:Q2):Option (Bool×Unit):=
  ((zr_M l (24:Int)).bind λ v0=>(bif !v0.fst then ((z0d_M).bind λ v4=>Option.some (v4.fst,()))else ((zr_M [e] (1:Int)).bind λ v1=>(bif !v1.fst then ((z0d_M).bind λ v5=>Option.some (v5.fst,()))else ((yNO l).bind λ v6=>((yI4 l).bind λ v7=>((zo_M e).bind λ v8=>((zv_M e).bind λ v9=>(bif v8.fst==v9.fst then (bif v6.snd.snd.fst==v7.snd.snd.fst then (bif v6.snd.fst==v7.snd.fst then ((yKM (v6.fst.fst,(v6.fst.snd.fst.fst,v6.fst.snd.fst.snd.fst,()),v6.fst.snd.snd.fst,v6.fst.snd.snd.snd.fst,v6.fst.snd.snd.snd.snd.fst,v6.fst.snd.snd.snd.snd.snd.fst,v6.fst.snd.snd.snd.snd.snd.snd.fst,v6.fst.snd.snd.snd.snd.snd.snd.snd.fst,v6.fst.snd.snd.snd.snd.snd.snd.snd.snd.fst,v6.fst.snd.snd.snd.snd.snd.snd.snd.snd.snd.fst,v6.fst.snd.snd.snd.snd.snd.snd.snd.snd.snd.snd.fst,())).bind λ v10=>((yJL v10.fst (v7.fst.fst,(v7.fst.snd.fst.fst,v7.fst.snd.fst.snd.fst,()),v7.fst.snd.snd.fst,v7.fst.snd.snd.snd.fst,v7.fst.snd.snd.snd.snd.fst,v7.fst.snd.snd.snd.snd.snd.fst,v7.fst.snd.snd.snd.snd.snd.snd.fst,v7.fst.snd.snd.snd.snd.snd.snd.snd.fst,v7.fst.snd.snd.snd.snd.snd.snd.snd.snd.fst,v7.fst.snd.snd.snd.snd.snd.snd.snd.snd.snd.fst,v7.fst.snd.snd.snd.snd.snd.snd.snd.snd.snd.snd.fst,())).bind λ v11=>(bif v11.fst then ((yLy l e).bind λ v12=>((yLh l e).bind λ v13=>(bif v12.fst==v13.fst then ((z0d_M).bind λ v14=>Option.some (v14.fst,()))else Option.some (Bool.false,()))))else Option.some (Bool.false,()))))else Option.some (Bool.false,()))else Option.some (Bool.false,()))else Option.some (Bool.false,()))))))))))

noncomputable def zn_M(l:List (Q2))(e:Q2):Option (Bool×Unit):=zn_m 0 l e

noncomputable abbrev zn_e:Entry:={ f:=8,args:=.pair t22 (.pair t56 .unit),rS:=.pair t4 .unit,m:=λ x=>zn_M x.1 x.2.1 }
theorem yQy:FnOK Tryz.prog zn_e:=fF 0 Tryz.f8 (λ n x=>zn_m n x.1 x.2.1) [] (yC yQo (yC yOl (yC yOw (yC yLX (yC yHs (yC yMq (yC yNk (yC yPU (yC yOQ (yC yPZ eNil))))))))))

end Go.Tw
