import Derived.Test.YtemgjgkbgkeknaaGreatDoorBT
import Derived.Test.YtemgjgkbgkeknaaGreatDoorB0
import Derived.Test.YtemgjgkbgkeknaaGreatDoorSB
import Derived.Test.YtemgjgkbgkeknaaGreatDoorLZ
import Derived.Test.YtemgjgkbgkeknaaGreatDoorBA
import Derived.Test.YtemgjgkbgkeknaaGreatDoorBC
import Derived.Test.YtemgjgkbgkeknaaGreatDoorBD
import Derived.Test.YtemgjgkbgkeknaaGreatDoorBE
set_option linter.all false
set_option maxRecDepth 1000000
namespace Go.Tw
open Go.Vx Go.Vx.B Go.Proofs
noncomputable section
def il59:Inl:={ f:=59,fn:=Tryz.f59,keep:=[],mU:=[2,3],fz:=[2,3] }
theorem yLT:yl Tryz.prog il59:=⟨by kernel_rfl,by kernel_rfl,λ e0 h=>by cases (show (none:Option LibK)=some e0 from h)⟩
def il60:Inl:={ f:=60,fn:=Tryz.f60,keep:=[[0,11,12,13]],mU:=[],fz:=[] }
theorem yMA:yl Tryz.prog il60:=⟨by kernel_rfl,by kernel_rfl,λ e0 h=>by cases (show (none:Option LibK)=some e0 from h)⟩
def il45:Inl:={ f:=45,fn:=Tryz.f45,keep:=[],mU:=[],fz:=[] }
theorem yNK:yl Tryz.prog il45:=⟨by kernel_rfl,by kernel_rfl,λ e0 h=>by cases (show (none:Option LibK)=some e0 from h)⟩
def il16:Inl:={ f:=16,fn:=Tryz.f16,keep:=[[1,2,8,12,37,38,39]],mU:=[12],fz:=[] }
theorem yMx:yl Tryz.prog il16:=⟨by kernel_rfl,by kernel_rfl,λ e0 h=>by cases (show (none:Option LibK)=some e0 from h)⟩
def il17:Inl:={ f:=17,fn:=Tryz.f17,keep:=[],mU:=[],fz:=[] }
theorem yMo:yl Tryz.prog il17:=⟨by kernel_rfl,by kernel_rfl,λ e0 h=>by cases (show (none:Option LibK)=some e0 from h)⟩
def il18:Inl:={ f:=18,fn:=Tryz.f18,keep:=[[8,21,22,23]],mU:=[8],fz:=[] }
theorem yMm:yl Tryz.prog il18:=⟨by kernel_rfl,by kernel_rfl,λ e0 h=>by cases (show (none:Option LibK)=some e0 from h)⟩
def il46:Inl:={ f:=46,fn:=Tryz.f46,keep:=[],mU:=[],fz:=[] }
theorem yMN:yl Tryz.prog il46:=⟨by kernel_rfl,by kernel_rfl,λ e0 h=>by cases (show (none:Option LibK)=some e0 from h)⟩
def il27:Inl:={ f:=27,fn:=Tryz.f27,keep:=[[3,6,7,8]],mU:=[3],fz:=[] }
theorem yLl:yl Tryz.prog il27:=⟨by kernel_rfl,by kernel_rfl,λ e0 h=>by cases (show (none:Option LibK)=some e0 from h)⟩
def il26:Inl:={ f:=26,fn:=Tryz.f26,keep:=[[0,1,5]],mU:=[],fz:=[] }
theorem yME:yl Tryz.prog il26:=⟨by kernel_rfl,by kernel_rfl,λ e0 h=>by cases (show (none:Option LibK)=some e0 from h)⟩
def il28:Inl:={ f:=28,fn:=Tryz.f28,keep:=[[0,1,5]],mU:=[],fz:=[] }
theorem yLU:yl Tryz.prog il28:=⟨by kernel_rfl,by kernel_rfl,λ e0 h=>by cases (show (none:Option LibK)=some e0 from h)⟩
def il61:Inl:={ f:=61,fn:=Tryz.f61,keep:=[[0,3,4],[5]],mU:=[],fz:=[] }
theorem yMV:yl Tryz.prog il61:=⟨by kernel_rfl,by kernel_rfl,λ e0 h=>by cases (show (none:Option LibK)=some e0 from h)⟩
def il133:Inl:={ f:=133,fn:=Tryz.f133,keep:=[],mU:=[],fz:=[] }
theorem yK4:yl Tryz.prog il133:=⟨by kernel_rfl,by kernel_rfl,λ e0 h=>by cases (show (none:Option LibK)=some e0 from h)⟩
def il134:Inl:={ f:=134,fn:=Tryz.f134,keep:=[],mU:=[],fz:=[] }
theorem yK8:yl Tryz.prog il134:=⟨by kernel_rfl,by kernel_rfl,λ e0 h=>by cases (show (none:Option LibK)=some e0 from h)⟩
def il136:Inl:={ f:=136,fn:=Tryz.f136,keep:=[],mU:=[],fz:=[] }
theorem yJI:yl Tryz.prog il136:=⟨by kernel_rfl,by kernel_rfl,λ e0 h=>by cases (show (none:Option LibK)=some e0 from h)⟩
def il139:Inl:={ f:=139,fn:=Tryz.f139,keep:=[],mU:=[],fz:=[] }
theorem yKB:yl Tryz.prog il139:=⟨by kernel_rfl,by kernel_rfl,λ e0 h=>by cases (show (none:Option LibK)=some e0 from h)⟩
def il140:Inl:={ f:=140,fn:=Tryz.f140,keep:=[],mU:=[],fz:=[] }
theorem yJW:yl Tryz.prog il140:=⟨by kernel_rfl,by kernel_rfl,λ e0 h=>by cases (show (none:Option LibK)=some e0 from h)⟩
def il142:Inl:={ f:=142,fn:=Tryz.f142,keep:=[],mU:=[],fz:=[] }
theorem yKU:yl Tryz.prog il142:=⟨by kernel_rfl,by kernel_rfl,λ e0 h=>by cases (show (none:Option LibK)=some e0 from h)⟩
def il144:Inl:={ f:=144,fn:=Tryz.f144,keep:=[],mU:=[],fz:=[] }
theorem yJl:yl Tryz.prog il144:=⟨by kernel_rfl,by kernel_rfl,λ e0 h=>by cases (show (none:Option LibK)=some e0 from h)⟩
def il145:Inl:={ f:=145,fn:=Tryz.f145,keep:=[],mU:=[],fz:=[] }
theorem yJ2:yl Tryz.prog il145:=⟨by kernel_rfl,by kernel_rfl,λ e0 h=>by cases (show (none:Option LibK)=some e0 from h)⟩
def il89:Inl:={ f:=89,fn:=Tryz.f89,keep:=[],mU:=[],fz:=[] }
theorem yLX:yl Tryz.prog il89:=⟨by kernel_rfl,by kernel_rfl,λ e0 h=>by cases (show (none:Option LibK)=some e0 from h)⟩
def il44:Inl:={ f:=44,fn:=Tryz.f44,keep:=[],mU:=[],fz:=[] }
theorem yLa:yl Tryz.prog il44:=⟨by kernel_rfl,by kernel_rfl,λ e0 h=>by cases (show (none:Option LibK)=some e0 from h)⟩
def il91:Inl:={ f:=91,fn:=Tryz.f91,keep:=[],mU:=[],fz:=[],sep:=[1000025] }
theorem yLn:yl Tryz.prog il91:=⟨by kernel_rfl,by kernel_rfl,λ e0 h=>by cases (show (none:Option LibK)=some e0 from h)⟩
abbrev yM2:Ty:=.unit
abbrev yNu:Ty:=.pair t4 .unit
def yOz:G:={ T:=T,E:=[z00_e,z8_e,z0K_e,z0B_e,z0b_e,z0I_e,z02_e,zM_e,zo_e,zB_e,z09_e,z0W_e,z0V_e,z0a_e,zR_e,zO_e,zb_e,z04_e,z0N_e,zL_e,zT_e,zr_e,z0l_e,zm_e,zU_e,zd_e,zP_e,z0G_e,zt_e,z0J_e,z0M_e,zD_e],mU:=[],fz:=[],cand:=[133,134,136,139,140,142,144,145] }
def yPV:List (List Nat):=[]
def yLE(n:Nat):Ann:={ keep:=yPV,fuel:=n,inl:=[il59,il60,il45,il16,il17,il18,il46,il27,il26,il28,il61,il133,il134,il136,il139,il140,il142,il144,il145,il89,il62,il69,il115,il113,il94,il44,il91],deep:=12 }
abbrev z0c_M:Option (Bool×Unit):=some (true,())
theorem yMJ(x:yM2.den):runF yOz (yLE 64) Tryz.f15 yM2 yNu x=z0c_M:=by kernel_rfl
def z0c_e:Entry:={ f:=15,args:=yM2,rS:=yNu,m:=λ x=>z0c_M }
theorem yOv:FnOK Tryz.prog z0c_e:=yD7 (g:=yOz) (fn:=Tryz.f15) y1c y74 (y8 yOT (y8 yQ0 (y8 yLO (y8 yEs (y8 y2z (y8 y5L (y8 yO1 (y8 yKi (y8 yOP (y8 yQS (y8 yNx (y8 yGc (y8 y9d (y8 y9v (y8 yJp (y8 yMX (y8 yPJ (y8 yGI (y8 yEr (y8 yMj (y8 yJc (y8 yNm (y8 yOi (y8 yLo (y8 yP0 (y8 yMZ (y8 yO0 (y8 yKx (y8 yQJ (y8 yEI (y8 yKo (y8 yNY eNil)))))))))))))))))))))))))))))))) (by kernel_rfl) (by kernel_rfl) (by kernel_rfl) (λ x y h=>⟨yLE 64,(yy yLT (yy yMA (yy yNK (yy yMx (yy yMo (yy yMm (yy yMN (yy yLl (yy yME (yy yLU (yy yMV (yy yK4 (yy yK8 (yy yJI (yy yKB (yy yJW (yy yKU (yy yJl (yy yJ2 (yy yLX (yy yN9 (yy yN5 (yy yEc (yy yEl (yy yHW (yy yLa (yy yLn iNil))))))))))))))))))))))))))),(yMJ x).trans h⟩)
end
end Go.Tw
