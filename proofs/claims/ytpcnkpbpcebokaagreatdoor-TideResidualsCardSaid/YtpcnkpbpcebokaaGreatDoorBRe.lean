/- Models of the program's functions,by program (gen.py),and what they compute. -/
import Derived.Test.YtpcnkpbpcebokaaGreatDoorBT
import Derived.Test.YtpcnkpbpcebokaaGreatDoorB0
import Derived.Test.YtpcnkpbpcebokaaGreatDoorBS
import Derived.Test.YtpcnkpbpcebokaaGreatDoorLQ
import Derived.Test.YtpcnkpbpcebokaaGreatDoorLR
import Derived.Test.YtpcnkpbpcebokaaGreatDoorBA
import Derived.Test.YtpcnkpbpcebokaaGreatDoorBC
import Derived.Test.YtpcnkpbpcebokaaGreatDoorBD
set_option linter.all false

set_option maxRecDepth 1000000
namespace Go.Tw
open Go.Vx Go.Vx.B Go.Proofs
/-! ### tidewaylaw02.TideResiduals -/
abbrev zR_a:Ty:=.pair t94 (.pair t25 .unit)
abbrev zR_r:Ty:=.pair t4 .unit
noncomputable def zR_g:G:={ T:=T,E:=[z0X_e,z0c_e,zu_e,z0I_e,z1E_e,z0D_e,zX_e,zq_e,z0a_e,z0d_e,z0t_e,zz_e,z0Z_e],muts:=[],fz:=[] }
def zR_k:List (List Nat):=[]
noncomputable def yYj(n:Nat):Ann:={ keep:=zR_k,fuel:=n,inl:=[],deep:=0 }
noncomputable def zR_m(n:Nat)(rp:Q1)(t:Q2):Option (Bool×Unit) :=
  (Option.bind (Go.Tw.yQe) fun v0=>(bif !v0.fst then (Option.bind (Go.Tw.yQe) fun v6=>Option.some (v6.fst,()))else (bif !(Go.Tw.z0c rp).fst then (Option.bind (Go.Tw.yQe) fun v7=>Option.some (v7.fst,()))else (Option.bind (Go.Tw.zu_M t) fun v1=>(bif !v1.fst then (Option.bind (Go.Tw.yQe) fun v8=>Option.some (v8.fst,()))else (Option.bind (Go.Tw.yM2 rp) fun v9=>(Option.bind (Go.Tw.yM7 t) fun v10=>(Option.bind (Go.Tw.yDk v9.fst v10.fst) fun v11=>(Option.bind (Go.Tw.zX_M rp) fun v12=>(Option.bind (Go.Tw.zq_M t) fun v13=>(Option.bind (Go.Tw.y7A [v12.fst,v13.fst]) fun v14=>(bif v14.fst==(0:Int)then (Option.bind (Go.Tw.yG1 t) fun v15=>(bif (Go.Tw.z0t (!v15.fst) (4:Int)).fst==(0:Int)then (Option.bind (Go.Tw.zz_M rp t) fun v17=>Option.some ((Go.Tw.z0Z (v11.fst.fst,v11.fst.snd.fst,()) v11.snd.fst (Go.Tw.z0t (!v15.fst) (4:Int)).fst (v17.fst.fst,v17.fst.snd.fst,())).fst,()))else Option.some ((Go.Tw.z0Z (v11.fst.fst,v11.fst.snd.fst,()) v11.snd.fst (Go.Tw.z0t (!v15.fst) (4:Int)).fst ((0:Int),(0:Int),())).fst,())))else (bif v14.fst==(0:Int)then (Option.bind (Go.Tw.zz_M rp t) fun v20=>Option.some ((Go.Tw.z0Z (v11.fst.fst,v11.fst.snd.fst,()) v11.snd.fst v14.fst (v20.fst.fst,v20.fst.snd.fst,())).fst,()))else Option.some ((Go.Tw.z0Z (v11.fst.fst,v11.fst.snd.fst,()) v11.snd.fst v14.fst ((0:Int),(0:Int),())).fst,()))))))))))))))

theorem ycG(n:Nat)(x:zR_a.den):runF zR_g (yYj n) Tryz.f8 zR_a zR_r x=zR_m n x.1 x.2.1:=by kernel_rfl

noncomputable def zR_M(rp:Q1)(t:Q2):Option (Bool×Unit):=zR_m 0 rp t

theorem yUD(rp:Q1)(t:Q2)(y:Bool×Unit)(h:zR_M rp t=some y):∃ n,zR_m n rp t=some y:=⟨0,h⟩
noncomputable def zR_e:Entry:={ f:=8,args:=zR_a,ress:=zR_r,m:=fun x=>zR_M x.1 x.2.1 }
theorem ydN:FnOK Tryz.prog zR_e:=yJ (g:=zR_g) (fn:=Tryz.f8) yB yI (y8 yTq (y8 yTw (y8 ybK (y8 yXg (y8 yYt (y8 yNh (y8 ybB (y8 yaq (y8 yE5 (y8 yVC (y8 yZx (y8 yaz (y8 yYW eNil))))))))))))) (by kernel_rfl) (by kernel_rfl) (by kernel_rfl) (fun x y h=>let ⟨n,hn⟩:=yUD x.1 x.2.1 y h;⟨yYj n,iNil,(ycG n x).trans hn⟩)

end Go.Tw
