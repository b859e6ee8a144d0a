import Derived.Test.YtemgjgkbgkeknaaGreatDoorBT
import Derived.Test.YtemgjgkbgkeknaaGreatDoorB0
import Derived.Test.YtemgjgkbgkeknaaGreatDoorSB
import Derived.Test.YtemgjgkbgkeknaaGreatDoorLZ
import Derived.Test.YtemgjgkbgkeknaaGreatDoorBA
import Derived.Test.YtemgjgkbgkeknaaGreatDoorBC
import Derived.Test.YtemgjgkbgkeknaaGreatDoorBD
import Derived.Test.YtemgjgkbgkeknaaGreatDoorBE
set_option linter.all false
set_option maxRecDepth 1000000
namespace Go.Tw
open Go.Vx Go.Vx.B Go.Proofs
noncomputable section
def il59:Inl:={ f:=59,fn:=Tryz.f59,keep:=[],mU:=[2,3],fz:=[2,3] }
theorem yMW:yn Tryz.prog il59:=⟨by kernel_rfl,by kernel_rfl,λ e0 h=>by cases (show (none:Option LibK)=some e0 from h)⟩
def il60:Inl:={ f:=60,fn:=Tryz.f60,keep:=[[0,11,12,13]],mU:=[],fz:=[] }
theorem yMj:yn Tryz.prog il60:=⟨by kernel_rfl,by kernel_rfl,λ e0 h=>by cases (show (none:Option LibK)=some e0 from h)⟩
def il45:Inl:={ f:=45,fn:=Tryz.f45,keep:=[],mU:=[],fz:=[] }
theorem yNV:yn Tryz.prog il45:=⟨by kernel_rfl,by kernel_rfl,λ e0 h=>by cases (show (none:Option LibK)=some e0 from h)⟩
def il16:Inl:={ f:=16,fn:=Tryz.f16,keep:=[[1,2,8,12,37,38,39]],mU:=[12],fz:=[] }
theorem yMU:yn Tryz.prog il16:=⟨by kernel_rfl,by kernel_rfl,λ e0 h=>by cases (show (none:Option LibK)=some e0 from h)⟩
def il17:Inl:={ f:=17,fn:=Tryz.f17,keep:=[],mU:=[],fz:=[] }
theorem yMG:yn Tryz.prog il17:=⟨by kernel_rfl,by kernel_rfl,λ e0 h=>by cases (show (none:Option LibK)=some e0 from h)⟩
def il18:Inl:={ f:=18,fn:=Tryz.f18,keep:=[[8,21,22,23]],mU:=[8],fz:=[] }
theorem yNf:yn Tryz.prog il18:=⟨by kernel_rfl,by kernel_rfl,λ e0 h=>by cases (show (none:Option LibK)=some e0 from h)⟩
def il46:Inl:={ f:=46,fn:=Tryz.f46,keep:=[],mU:=[],fz:=[] }
theorem yMo:yn Tryz.prog il46:=⟨by kernel_rfl,by kernel_rfl,λ e0 h=>by cases (show (none:Option LibK)=some e0 from h)⟩
def il27:Inl:={ f:=27,fn:=Tryz.f27,keep:=[[3,6,7,8]],mU:=[3],fz:=[] }
theorem yNg:yn Tryz.prog il27:=⟨by kernel_rfl,by kernel_rfl,λ e0 h=>by cases (show (none:Option LibK)=some e0 from h)⟩
def il26:Inl:={ f:=26,fn:=Tryz.f26,keep:=[[0,1,5]],mU:=[],fz:=[] }
theorem yNn:yn Tryz.prog il26:=⟨by kernel_rfl,by kernel_rfl,λ e0 h=>by cases (show (none:Option LibK)=some e0 from h)⟩
def il28:Inl:={ f:=28,fn:=Tryz.f28,keep:=[[0,1,5]],mU:=[],fz:=[] }
theorem yNr:yn Tryz.prog il28:=⟨by kernel_rfl,by kernel_rfl,λ e0 h=>by cases (show (none:Option LibK)=some e0 from h)⟩
def il61:Inl:={ f:=61,fn:=Tryz.f61,keep:=[[0,3,4],[5]],mU:=[],fz:=[] }
theorem yNl:yn Tryz.prog il61:=⟨by kernel_rfl,by kernel_rfl,λ e0 h=>by cases (show (none:Option LibK)=some e0 from h)⟩
def il133:Inl:={ f:=133,fn:=Tryz.f133,keep:=[],mU:=[],fz:=[] }
theorem yLM:yn Tryz.prog il133:=⟨by kernel_rfl,by kernel_rfl,λ e0 h=>by cases (show (none:Option LibK)=some e0 from h)⟩
def il134:Inl:={ f:=134,fn:=Tryz.f134,keep:=[],mU:=[],fz:=[] }
theorem yKz:yn Tryz.prog il134:=⟨by kernel_rfl,by kernel_rfl,λ e0 h=>by cases (show (none:Option LibK)=some e0 from h)⟩
def il136:Inl:={ f:=136,fn:=Tryz.f136,keep:=[],mU:=[],fz:=[] }
theorem yKq:yn Tryz.prog il136:=⟨by kernel_rfl,by kernel_rfl,λ e0 h=>by cases (show (none:Option LibK)=some e0 from h)⟩
def il139:Inl:={ f:=139,fn:=Tryz.f139,keep:=[],mU:=[],fz:=[] }
theorem yJz:yn Tryz.prog il139:=⟨by kernel_rfl,by kernel_rfl,λ e0 h=>by cases (show (none:Option LibK)=some e0 from h)⟩
def il140:Inl:={ f:=140,fn:=Tryz.f140,keep:=[],mU:=[],fz:=[] }
theorem yKX:yn Tryz.prog il140:=⟨by kernel_rfl,by kernel_rfl,λ e0 h=>by cases (show (none:Option LibK)=some e0 from h)⟩
def il142:Inl:={ f:=142,fn:=Tryz.f142,keep:=[],mU:=[],fz:=[] }
theorem yKw:yn Tryz.prog il142:=⟨by kernel_rfl,by kernel_rfl,λ e0 h=>by cases (show (none:Option LibK)=some e0 from h)⟩
def il144:Inl:={ f:=144,fn:=Tryz.f144,keep:=[],mU:=[],fz:=[] }
theorem yKt:yn Tryz.prog il144:=⟨by kernel_rfl,by kernel_rfl,λ e0 h=>by cases (show (none:Option LibK)=some e0 from h)⟩
def il145:Inl:={ f:=145,fn:=Tryz.f145,keep:=[],mU:=[],fz:=[] }
theorem yLJ:yn Tryz.prog il145:=⟨by kernel_rfl,by kernel_rfl,λ e0 h=>by cases (show (none:Option LibK)=some e0 from h)⟩
def il89:Inl:={ f:=89,fn:=Tryz.f89,keep:=[],mU:=[],fz:=[] }
theorem yMS:yn Tryz.prog il89:=⟨by kernel_rfl,by kernel_rfl,λ e0 h=>by cases (show (none:Option LibK)=some e0 from h)⟩
def il44:Inl:={ f:=44,fn:=Tryz.f44,keep:=[],mU:=[],fz:=[] }
theorem yO7:yn Tryz.prog il44:=⟨by kernel_rfl,by kernel_rfl,λ e0 h=>by cases (show (none:Option LibK)=some e0 from h)⟩
def il91:Inl:={ f:=91,fn:=Tryz.f91,keep:=[],mU:=[],fz:=[],sep:=[1000025] }
theorem yO6:yn Tryz.prog il91:=⟨by kernel_rfl,by kernel_rfl,λ e0 h=>by cases (show (none:Option LibK)=some e0 from h)⟩
abbrev yNS:Ty:=.unit
abbrev yP7:Ty:=.pair t4 .unit
def yOz:G:={ T:=T,E:=[z02_e,z8_e,z0K_e,z0D_e,z0b_e,z0I_e,z03_e,zM_e,zp_e,zB_e,z0B_e,z0W_e,z0V_e,z0a_e,zR_e,zO_e,zc_e,z05_e,z0N_e,zL_e,zT_e,zr_e,z0h_e,zn_e,zU_e,ze_e,zP_e,z0H_e,zt_e,z0J_e,z0M_e,zD_e],mU:=[],fz:=[],cand:=[133,134,136,139,140,142,144,145] }
def yRH:List (List Nat):=[]
def yM6(n:Nat):Ann:={ keep:=yRH,fuel:=n,inl:=[il59,il60,il45,il16,il17,il18,il46,il27,il26,il28,il61,il133,il134,il136,il139,il140,il142,il144,il145,il89,il62,il69,il115,il113,il94,il44,il91],deep:=12 }
abbrev z0c_M:Option (Bool×Unit):=some (true,())
theorem yNx(x:yNS.den):runF yOz (yM6 64) Tryz.f15 yNS yP7 x=z0c_M:=by kernel_rfl
def z0c_e:Entry:={ f:=15,args:=yNS,rS:=yP7,m:=λ x=>z0c_M }
theorem yP3:FnOK Tryz.prog z0c_e:=yE8 (g:=yOz) (fn:=Tryz.f15) y1f y72 (yE yPR (yE yQS (yE yM3 (yE yFG (yE y4C (yE y7X (yE yPH (yE yMy (yE yOu (yE yQj (yE yPm (yE yJ4 (yE y9O (yE y9U (yE yKh (yE yOA (yE yOe (yE yIX (yE yIh (yE yPu (yE yN7 (yE yOa (yE yP8 (yE yNT (yE yPi (yE yMH (yE yPj (yE yLv (yE yQp (yE yFO (yE yLx (yE yPB eNil)))))))))))))))))))))))))))))))) (by kernel_rfl) (by kernel_rfl) (by kernel_rfl) (λ x y h=>⟨yM6 64,(y00 yMW (y00 yMj (y00 yNV (y00 yMU (y00 yMG (y00 yNf (y00 yMo (y00 yNg (y00 yNn (y00 yNr (y00 yNl (y00 yLM (y00 yKz (y00 yKq (y00 yJz (y00 yKX (y00 yKw (y00 yKt (y00 yLJ (y00 yMS (y00 yN1 (y00 yNj (y00 yFM (y00 yFI (y00 yJO (y00 yO7 (y00 yO6 iNil))))))))))))))))))))))))))),(yNx x).trans h⟩)
end
end Go.Tw
