/- Models of the program's functions,by program (gen.py),and what they compute. -/
import Derived.Test.YtpcnkpbpcebokaaGreatDoorBT
import Derived.Test.YtpcnkpbpcebokaaGreatDoorB0
import Derived.Test.YtpcnkpbpcebokaaGreatDoorBS
import Derived.Test.YtpcnkpbpcebokaaGreatDoorLQ
import Derived.Test.YtpcnkpbpcebokaaGreatDoorLR
import Derived.Test.YtpcnkpbpcebokaaGreatDoorBA
import Derived.Test.YtpcnkpbpcebokaaGreatDoorBC
import Derived.Test.YtpcnkpbpcebokaaGreatDoorBD
set_option linter.all false

set_option maxRecDepth 1000000
namespace Go.Tw
open Go.Vx Go.Vx.B Go.Proofs
/-! ### tidewaylaw02.TideKernels -/
abbrev zY_a:Ty:=.pair t94 (.pair t22 (.pair t23 .unit))
abbrev zY_r:Ty:=.pair t4 .unit
noncomputable def zY_g:G:={ T:=T,E:=[z0Z_e,z0d_e,zz_e,z0L_e,z0s_e,z0g_e,z0E_e,zn_e,z0r_e,za_e,z0N_e,zd_e],muts:=[],fz:=[] }
def zY_k:List (List Nat):=[]
noncomputable def ybH(n:Nat):Ann:={ keep:=zY_k,fuel:=n,inl:=[],deep:=0 }
noncomputable def y7K(n:Nat)(v14:List (Q4)×Int×Unit)(v18:Int×Unit)(j22:Int)(j23:Int)(j24:List (Q4)):Option (Bool×Unit):=
  (bif v14.snd.fst==j22 then (Option.bind (Go.Tw.zd_M v14.fst j24) λ v25=>(bif v25.fst then Option.some (v18.fst==j23,())else Option.some (Bool.false,())))else Option.some (Bool.false,()))

noncomputable def zY_m(n:Nat)(rp:Q1)(l:List (Q3))(v:List (Q4)):Option (Bool×Unit):=
  (Option.bind (Go.Tw.yTh) λ v0=>(bif !v0.fst then (Option.bind (Go.Tw.yTh) λ v8=>Option.some (v8.fst,()))else (bif !(Go.Tw.z0d rp).fst then (Option.bind (Go.Tw.yTh) λ v9=>Option.some (v9.fst,()))else (Option.bind (Go.Tw.zz_M l) λ v1=>(bif !v1.fst then (Option.bind (Go.Tw.yTh) λ v10=>Option.some (v10.fst,()))else (bif Decidable.decide ((↑v.length:Int) > (6:Int))then (Option.bind (Go.Tw.yTh) λ v11=>Option.some (v11.fst,()))else (Option.bind (Go.Tw.yLw rp) λ v12=>(Option.bind (Go.Tw.yIK l) λ v13=>(Option.bind (Go.Tw.yEj v12.fst v13.fst) λ v14=>(Option.bind (Go.Tw.yLw rp) λ v15=>(Option.bind (Go.Tw.yIK l) λ v16=>(Option.bind (Go.Tw.yMw v) λ v17=>(Option.bind (Go.Tw.zn_M v15.fst v16.fst v17.fst) λ v18=>(Option.bind (Go.Tw.yLl rp l) λ v19=>(bif v19.fst==(0:Int)then (Option.bind (Go.Tw.za_M rp l v) λ v20=>(Option.bind (Go.Tw.yGn rp l) λ v21=>(y7K n v14 v18 (v21.snd.fst) (v20.fst) (v21.fst))))else (y7K n v14 v18 (v19.fst) (v19.fst) ([])))))))))))))))))

theorem yem(n:Nat)(x:zY_a.den):runF zY_g (ybH n) Tryz.f13 zY_a zY_r x=zY_m n x.1 x.2.1 x.2.2.1:=by kernel_rfl

noncomputable def zY_M(rp:Q1)(l:List (Q3))(v:List (Q4)):Option (Bool×Unit):=zY_m 0 rp l v

theorem yZT(rp:Q1)(l:List (Q3))(v:List (Q4))(y:Bool×Unit)(h:zY_M rp l v=some y):∃ n,zY_m n rp l v=some y:=⟨0,h⟩
noncomputable def zY_e:Entry:={ f:=13,args:=zY_a,ress:=zY_r,m:=λ x=>zY_M x.1 x.2.1 x.2.2.1 }
theorem yex:FnOK Tryz.prog zY_e:=yJ (g:=zY_g) (fn:=Tryz.f13) yC yI (yA yb2 (yA yaj (yA ydF (yA yYA (yA yWi (yA yPG (yA yYM (yA ye4 (yA yVz (yA ybx (yA yZk (yA ySv eNil)))))))))))) (by kernel_rfl) (by kernel_rfl) (by kernel_rfl) (λ x y h=>let ⟨n,hn⟩:=yZT x.1 x.2.1 x.2.2.1 y h;⟨ybH n,iNil,(yem n x).trans hn⟩)

end Go.Tw
