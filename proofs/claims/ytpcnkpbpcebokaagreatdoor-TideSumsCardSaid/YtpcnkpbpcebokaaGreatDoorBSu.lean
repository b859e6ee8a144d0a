/- Models of the program's functions,by program (gen.py),and what they compute. -/
import Derived.Test.YtpcnkpbpcebokaaGreatDoorBT
import Derived.Test.YtpcnkpbpcebokaaGreatDoorB0
import Derived.Test.YtpcnkpbpcebokaaGreatDoorBS
import Derived.Test.YtpcnkpbpcebokaaGreatDoorLQ
import Derived.Test.YtpcnkpbpcebokaaGreatDoorLR
import Derived.Test.YtpcnkpbpcebokaaGreatDoorBA
import Derived.Test.YtpcnkpbpcebokaaGreatDoorBC
import Derived.Test.YtpcnkpbpcebokaaGreatDoorBD
set_option linter.all false

set_option maxRecDepth 1000000
namespace Go.Tw
open Go.Vx Go.Vx.B Go.Proofs
/-! ### tidewaylaw02.TideSums -/
abbrev zn_a:Ty:=.pair t25 (.pair t25 (.pair t3 .unit))
abbrev zn_r:Ty:=.pair t4 .unit
noncomputable def zn_g:G:={ T:=T,E:=[z0N_e,zk_e,z16_e,z1F_e,z0t_e,z0V_e,z1B_e,zh_e,zZ_e,z0Q_e,z17_e,z0S_e,z0T_e,z0l_e,z0A_e,z0p_e,z0i_e,z0P_e,zq_e],muts:=[],fz:=[] }
def zn_k:List (List Nat):=[]
noncomputable def yS8(n:Nat):Ann:={ keep:=zn_k,fuel:=n,inl:=[],deep:=0 }
noncomputable def y73(n:Nat)(year:Int)(v12:(Q2)×Int×Unit)(v13:(Q4)×Int×Unit)(v15:(Q2)×Int×Unit)(v17:List (Nat×Nat)×Int×Unit)(j23:List (Q3))(j24:List (Q4))(j25:Int)(j26:Int)(j28:Int)(j29:Int)(j31:Int)(j33:List (Q3))(j34:List (Q4))(j35:Int)(j37:Int)(j38:List (Nat×Nat)):Option (Bool×Unit) :=
  (Option.bind (Go.Tw.y7b (v12.fst.fst,v12.fst.snd.fst,v12.fst.snd.snd.fst,()) v12.snd.fst j26 (j23,j24,j25,())) fun v39=>(bif v39.fst then (bif (Go.Tw.z0P (v13.fst.fst,v13.fst.snd.fst,()) v13.snd.fst (Go.Tw.zZ year (0:Int) (9999:Int)).fst (j28,j29,())).fst then (Option.bind (Go.Tw.y7b (v15.fst.fst,v15.fst.snd.fst,v15.fst.snd.snd.fst,()) v15.snd.fst j31 (j33,j34,j35,())) fun v40=>(bif v40.fst then (bif v17.snd.fst==j37 then (Option.bind (Go.Tw.zq_M v17.fst j38) fun v41=>Option.some (v41.fst,()))else Option.some (Bool.false,()))else Option.some (Bool.false,())))else Option.some (Bool.false,()))else Option.some (Bool.false,())))

noncomputable def y6V(n:Nat)(a:Q2)(year:Int)(v12:(Q2)×Int×Unit)(v13:(Q4)×Int×Unit)(v15:(Q2)×Int×Unit)(v17:List (Nat×Nat)×Int×Unit)(v18:Int×Unit)(j23:List (Q3))(j24:List (Q4))(j25:Int)(j26:Int)(j28:Int)(j29:Int)(j31:Int)(j33:List (Q3))(j34:List (Q4))(j35:Int):Option (Bool×Unit) :=
  (bif v18.fst==(0:Int)then (Option.bind (Go.Tw.yCg a) fun v36=>(y73 n year v12 v13 v15 v17 j23 j24 j25 j26 j28 j29 j31 j33 j34 j35 (v36.snd.fst) (v36.fst)))else (y73 n year v12 v13 v15 v17 j23 j24 j25 j26 j28 j29 j31 j33 j34 j35 (v18.fst) ([])))

noncomputable def y6y(n:Nat)(a:Q2)(year:Int)(v12:(Q2)×Int×Unit)(v13:(Q4)×Int×Unit)(v15:(Q2)×Int×Unit)(v17:List (Nat×Nat)×Int×Unit)(v18:Int×Unit)(j23:List (Q3))(j24:List (Q4))(j25:Int)(j26:Int)(j28:Int)(j29:Int)(j31:Int):Option (Bool×Unit) :=
  (bif j31==(0:Int)then (Option.bind (Go.Tw.yCd a year) fun v32=>(y6V n a year v12 v13 v15 v17 v18 j23 j24 j25 j26 j28 j29 j31 (v32.fst.fst) (v32.fst.snd.fst) (v32.fst.snd.snd.fst)))else (y6V n a year v12 v13 v15 v17 v18 j23 j24 j25 j26 j28 j29 j31 ([]) ([]) ((0:Int))))

noncomputable def y6h(n:Nat)(a:Q2)(year:Int)(v12:(Q2)×Int×Unit)(v13:(Q4)×Int×Unit)(v15:(Q2)×Int×Unit)(v17:List (Nat×Nat)×Int×Unit)(v18:Int×Unit)(v21:Int×Unit)(j23:List (Q3))(j24:List (Q4))(j25:Int)(j26:Int)(j28:Int)(j29:Int):Option (Bool×Unit) :=
  (bif v21.fst==(0:Int)then (Option.bind (Go.Tw.y7z a) fun v30=>(y6y n a year v12 v13 v15 v17 v18 j23 j24 j25 j26 j28 j29 ((Go.Tw.z0l (!v30.fst) (4:Int)).fst)))else (y6y n a year v12 v13 v15 v17 v18 j23 j24 j25 j26 j28 j29 (v21.fst)))

noncomputable def y4E(n:Nat)(a:Q2)(year:Int)(v12:(Q2)×Int×Unit)(v13:(Q4)×Int×Unit)(v15:(Q2)×Int×Unit)(v17:List (Nat×Nat)×Int×Unit)(v18:Int×Unit)(v21:Int×Unit)(j23:List (Q3))(j24:List (Q4))(j25:Int)(j26:Int):Option (Bool×Unit) :=
  (bif (Go.Tw.zZ year (0:Int) (9999:Int)).fst==(0:Int)then (Option.bind (Go.Tw.yD6 year) fun v27=>(y6h n a year v12 v13 v15 v17 v18 v21 j23 j24 j25 j26 (v27.fst.fst) (v27.fst.snd.fst)))else (y6h n a year v12 v13 v15 v17 v18 v21 j23 j24 j25 j26 ((0:Int)) ((0:Int))))

noncomputable def zn_m(n:Nat)(a:Q2)(b:Q2)(year:Int):Option (Bool×Unit) :=
  (Option.bind (Go.Tw.yPu) fun v0=>(bif !v0.fst then (Option.bind (Go.Tw.yPu) fun v7=>Option.some (v7.fst,()))else (Option.bind (Go.Tw.zk_M a) fun v1=>(bif !v1.fst then (Option.bind (Go.Tw.yPu) fun v8=>Option.some (v8.fst,()))else (Option.bind (Go.Tw.zk_M b) fun v2=>(bif !v2.fst then (Option.bind (Go.Tw.yPu) fun v9=>Option.some (v9.fst,()))else (Option.bind (Go.Tw.yJI a) fun v10=>(Option.bind (Go.Tw.yJI b) fun v11=>(Option.bind (Go.Tw.yFj v10.fst v11.fst) fun v12=>(Option.bind (Go.Tw.yGp year) fun v13=>(Option.bind (Go.Tw.yJI a) fun v14=>(Option.bind (Go.Tw.yJT v14.fst year) fun v15=>(Option.bind (Go.Tw.yJI a) fun v16=>(Option.bind (Go.Tw.yHB v16.fst) fun v17=>(Option.bind (Go.Tw.zh_M a) fun v18=>(Option.bind (Go.Tw.zh_M b) fun v19=>(Option.bind (Go.Tw.y9o [v18.fst,v19.fst]) fun v20=>(Option.bind (Go.Tw.y9o [v18.fst,(Go.Tw.zZ year (0:Int) (9999:Int)).fst]) fun v21=>(bif v20.fst==(0:Int)then (Option.bind (Go.Tw.y86 a b) fun v22=>(y4E n a year v12 v13 v15 v17 v18 v21 (v22.fst.fst) (v22.fst.snd.fst) (v22.fst.snd.snd.fst) (v22.snd.fst)))else (y4E n a year v12 v13 v15 v17 v18 v21 ([]) ([]) ((0:Int)) (v20.fst)))))))))))))))))))))

theorem yaC(n:Nat)(x:zn_a.den):runF zn_g (yS8 n) Tryz.f5 zn_a zn_r x=zn_m n x.1 x.2.1 x.2.2.1:=by kernel_rfl

noncomputable def zn_M(a:Q2)(b:Q2)(year:Int):Option (Bool×Unit):=zn_m 0 a b year

theorem yV9(a:Q2)(b:Q2)(year:Int)(y:Bool×Unit)(h:zn_M a b year=some y):∃ n,zn_m n a b year=some y:=⟨0,h⟩
noncomputable def zn_e:Entry:={ f:=5,args:=zn_a,ress:=zn_r,m:=fun x=>zn_M x.1 x.2.1 x.2.2.1 }
theorem yb3:FnOK Tryz.prog zn_e:=yJ (g:=zn_g) (fn:=Tryz.f5) yA yI (y6 yX6 (y6 yYO (y6 yTl (y6 yTO (y6 yMl (y6 yXi (y6 yNE (y6 yYl (y6 yKn (y6 yGr (y6 yRh (y6 yMc (y6 yME (y6 yU3 (y6 yWN (y6 yVM (y6 ySG (y6 ySW (y6 yVz eNil))))))))))))))))))) (by kernel_rfl) (by kernel_rfl) (by kernel_rfl) (fun x y h=>let ⟨n,hn⟩:=yV9 x.1 x.2.1 x.2.2.1 y h;⟨yS8 n,iNil,(yaC n x).trans hn⟩)

end Go.Tw
