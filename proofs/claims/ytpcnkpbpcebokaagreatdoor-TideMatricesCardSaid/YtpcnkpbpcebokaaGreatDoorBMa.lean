/- Models of the program's functions,by program (gen.py),and what they compute. -/
import Derived.Test.YtpcnkpbpcebokaaGreatDoorBT
import Derived.Test.YtpcnkpbpcebokaaGreatDoorB0
import Derived.Test.YtpcnkpbpcebokaaGreatDoorBS
import Derived.Test.YtpcnkpbpcebokaaGreatDoorLQ
import Derived.Test.YtpcnkpbpcebokaaGreatDoorLR
import Derived.Test.YtpcnkpbpcebokaaGreatDoorBA
import Derived.Test.YtpcnkpbpcebokaaGreatDoorBC
import Derived.Test.YtpcnkpbpcebokaaGreatDoorBD
set_option linter.all false

set_option maxRecDepth 1000000
namespace Go.Tw
open Go.Vx Go.Vx.B Go.Proofs
/-! ### tidewaylaw02.TideMatrices -/
abbrev zS_a:Ty:=.pair t94 (.pair t22 .unit)
abbrev zS_r:Ty:=.pair t4 .unit
noncomputable def zS_g:G:={ T:=T,E:=[z0S_e,z0X_e,zt_e,z0E_e,z0n_e,z0d_e,zj_e,z1C_e,z0v_e,z0m_e,z0H_e,zY_e,z0u_e,z0W_e,zy_e,z0D_e,zr_e],muts:=[],fz:=[] }
def zS_k:List (List Nat):=[]
noncomputable def yYy(n:Nat):Ann:={ keep:=zS_k,fuel:=n,inl:=[],deep:=0 }
noncomputable def y73(n:Nat)(v11:List (List (Q4))×Int×Unit)(v14:Q4)(v17:Q4)(v20:List (List Int)×Int×Unit)(v21:Int×Unit)(j26:List (List (Q4)))(j27:List (List Int))(j28:Int)(j29:Int):Option (Bool×Unit):=
  (bif v11.snd.fst==v21.fst then (Option.bind (Go.Tw.zy_M v11.fst j26) λ v30=>(bif v30.fst then (bif (Go.Tw.z0D v14.fst v14.snd.fst v21.fst j28).fst then (bif (Go.Tw.z0D v17.fst v17.snd.fst v21.fst j29).fst then (bif v20.snd.fst==v21.fst then (Option.bind (Go.Tw.zr_M v20.fst j27) λ v31=>Option.some (v31.fst,()))else Option.some (Bool.false,()))else Option.some (Bool.false,()))else Option.some (Bool.false,()))else Option.some (Bool.false,())))else Option.some (Bool.false,()))

noncomputable def zS_m(n:Nat)(rp:Q1)(l:List (Q3)):Option (Bool×Unit):=
  (Option.bind (Go.Tw.yQN) λ v0=>(bif !v0.fst then (Option.bind (Go.Tw.yQN) λ v6=>Option.some (v6.fst,()))else (bif !(Go.Tw.z0X rp).fst then (Option.bind (Go.Tw.yQN) λ v7=>Option.some (v7.fst,()))else (Option.bind (Go.Tw.zt_M l) λ v1=>(bif !v1.fst then (Option.bind (Go.Tw.yQN) λ v8=>Option.some (v8.fst,()))else (Option.bind (Go.Tw.yMa rp) λ v9=>(Option.bind (Go.Tw.yHZ l) λ v10=>(Option.bind (Go.Tw.yIs v9.fst v10.fst) λ v11=>(Option.bind (Go.Tw.yMa rp) λ v12=>(Option.bind (Go.Tw.yHZ l) λ v13=>(Option.bind (Go.Tw.zj_M v12.fst v13.fst) λ v14=>(Option.bind (Go.Tw.yMa rp) λ v15=>(Option.bind (Go.Tw.yHZ l) λ v16=>(Option.bind (Go.Tw.yEg v15.fst v16.fst) λ v17=>(Option.bind (Go.Tw.yMa rp) λ v18=>(Option.bind (Go.Tw.yHZ l) λ v19=>(Option.bind (Go.Tw.yDu v18.fst v19.fst) λ v20=>(Option.bind (Go.Tw.yMs rp l) λ v21=>(bif v21.fst==(0:Int)then (Option.bind (Go.Tw.yDV rp l) λ v22=>(Option.bind (Go.Tw.zY_M rp l) λ v23=>(Option.bind (Go.Tw.yHJ rp l) λ v24=>(Option.bind (Go.Tw.yHz rp l) λ v25=>(y73 n v11 v14 v17 v20 v21 (v22.fst) (v25.fst) (v23.fst) (v24.fst))))))else (y73 n v11 v14 v17 v20 v21 ([]) ([]) ((0:Int)) ((0:Int))))))))))))))))))))))

theorem ydg(n:Nat)(x:zS_a.den):runF zS_g (yYy n) Tryz.f6 zS_a zS_r x=zS_m n x.1 x.2.1:=by kernel_rfl

noncomputable def zS_M(rp:Q1)(l:List (Q3)):Option (Bool×Unit):=zS_m 0 rp l

theorem yWs(rp:Q1)(l:List (Q3))(y:Bool×Unit)(h:zS_M rp l=some y):∃ n,zS_m n rp l=some y:=⟨0,h⟩
noncomputable def zS_e:Entry:={ f:=6,args:=zS_a,ress:=zS_r,m:=λ x=>zS_M x.1 x.2.1 }
theorem ye4:FnOK Tryz.prog zS_e:=yL (g:=zS_g) (fn:=Tryz.f6) yC yK (yA yVV (yA yXy (yA yby (yA yYr (yA yZQ (yA yPm (yA yYR (yA yOu (yA yOk (yA yVp (yA yO5 (yA yZ8 (yA yVl (yA yZo (yA yUX (yA yaY (yA yas eNil))))))))))))))))) (by kernel_rfl) (by kernel_rfl) (by kernel_rfl) (λ x y h=>let ⟨n,hn⟩:=yWs x.1 x.2.1 y h;⟨yYy n,iNil,(ydg n x).trans hn⟩)

end Go.Tw
