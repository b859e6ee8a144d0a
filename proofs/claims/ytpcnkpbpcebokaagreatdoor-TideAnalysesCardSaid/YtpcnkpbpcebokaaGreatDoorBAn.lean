/- Models of the program's functions,by program (gen.py),and what they compute. -/
import Derived.Test.YtpcnkpbpcebokaaGreatDoorBT
import Derived.Test.YtpcnkpbpcebokaaGreatDoorB0
import Derived.Test.YtpcnkpbpcebokaaGreatDoorBS
import Derived.Test.YtpcnkpbpcebokaaGreatDoorLQ
import Derived.Test.YtpcnkpbpcebokaaGreatDoorLR
import Derived.Test.YtpcnkpbpcebokaaGreatDoorBA
import Derived.Test.YtpcnkpbpcebokaaGreatDoorBC
import Derived.Test.YtpcnkpbpcebokaaGreatDoorBD
set_option linter.all false

set_option maxRecDepth 1000000
namespace Go.Tw
open Go.Vx Go.Vx.B Go.Proofs
/-! ### tidewaylaw02.TideAnalyses -/
abbrev zS_a:Ty:=.pair t94 (.pair t22 .unit)
abbrev zS_r:Ty:=.pair t4 .unit
noncomputable def zS_g:G:={ T:=T,E:=[z0X_e,z0d_e,zt_e,z0H_e,z0t_e,z0P_e,z15_e,z0s_e,z0c_e,z09_e,z0u_e,z0Z_e],muts:=[],fz:=[] }
def zS_k:List (List Nat):=[]
noncomputable def yY3(n:Nat):Ann:={ keep:=zS_k,fuel:=n,inl:=[],deep:=0 }
noncomputable def zS_m(n:Nat)(rp:Q1)(l:List (Q3)):Option (Bool×Unit) :=
  (Option.bind (Go.Tw.yUo) λ v0=>(bif !v0.fst then (Option.bind (Go.Tw.yUo) λ v6=>Option.some (v6.fst,()))else (bif !(Go.Tw.z0d rp).fst then (Option.bind (Go.Tw.yUo) λ v7=>Option.some (v7.fst,()))else (Option.bind (Go.Tw.zt_M l) λ v1=>(bif !v1.fst then (Option.bind (Go.Tw.yUo) λ v8=>Option.some (v8.fst,()))else (Option.bind (Go.Tw.yLx rp) λ v9=>(Option.bind (Go.Tw.yIJ l) λ v10=>(Option.bind (Go.Tw.yHk v9.fst v10.fst) λ v11=>(Option.bind (Go.Tw.yLx rp) λ v12=>(Option.bind (Go.Tw.yIJ l) λ v13=>(Option.bind (Go.Tw.yCN v12.fst v13.fst) λ v14=>(Option.bind (Go.Tw.yNm rp l) λ v15=>(bif v15.fst==(0:Int)then (Option.bind (Go.Tw.yHX rp l) λ v16=>(Option.bind (Go.Tw.yOd rp l) λ v17=>(Option.bind (Go.Tw.yCt (v11.fst.fst,v11.fst.snd.fst,v11.fst.snd.snd.fst,()) v11.snd.fst v17.snd.fst (v17.fst.fst,v17.fst.snd.fst,v17.fst.snd.snd.fst,())) λ v24=>(bif v24.fst then Option.some ((Go.Tw.z0Z (v14.fst.fst,v14.fst.snd.fst,()) v14.snd.fst v17.snd.fst (v16.fst.fst,v16.fst.snd.fst,())).fst,())else Option.some (Bool.false,())))))else (Option.bind (Go.Tw.yCt (v11.fst.fst,v11.fst.snd.fst,v11.fst.snd.snd.fst,()) v11.snd.fst v15.fst ([],[],(0:Int),())) λ v28=>(bif v28.fst then Option.some ((Go.Tw.z0Z (v14.fst.fst,v14.fst.snd.fst,()) v14.snd.fst v15.fst ((0:Int),(0:Int),())).fst,())else Option.some (Bool.false,()))))))))))))))))

theorem yeD(n:Nat)(x:zS_a.den):runF zS_g (yY3 n) Tryz.f7 zS_a zS_r x=zS_m n x.1 x.2.1:=by kernel_rfl

noncomputable def zS_M(rp:Q1)(l:List (Q3)):Option (Bool×Unit):=zS_m 0 rp l

theorem yWs(rp:Q1)(l:List (Q3))(y:Bool×Unit)(h:zS_M rp l=some y):∃ n,zS_m n rp l=some y:=⟨0,h⟩
noncomputable def zS_e:Entry:={ f:=7,args:=zS_a,ress:=zS_r,m:=λ x=>zS_M x.1 x.2.1 }
theorem yfn:FnOK Tryz.prog zS_e:=yJ (g:=zS_g) (fn:=Tryz.f7) yC yI (yA yWE (yA yX1 (yA yez (yA yb3 (yA yZy (yA yOp (yA yPB (yA yYr (yA yYs (yA ybo (yA yVn (yA yWM eNil)))))))))))) (by kernel_rfl) (by kernel_rfl) (by kernel_rfl) (λ x y h=>let ⟨n,hn⟩:=yWs x.1 x.2.1 y h;⟨yY3 n,iNil,(yeD n x).trans hn⟩)

end Go.Tw
