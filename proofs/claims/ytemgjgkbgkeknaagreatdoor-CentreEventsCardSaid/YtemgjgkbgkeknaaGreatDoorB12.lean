import Derived.Test.YtemgjgkbgkeknaaGreatDoorBT
import Derived.Test.YtemgjgkbgkeknaaGreatDoorB0
import Derived.Test.YtemgjgkbgkeknaaGreatDoorSB
import Derived.Test.YtemgjgkbgkeknaaGreatDoorLZ
import Derived.Test.YtemgjgkbgkeknaaGreatDoorBA
import Derived.Test.YtemgjgkbgkeknaaGreatDoorBC
import Derived.Test.YtemgjgkbgkeknaaGreatDoorBD
import Derived.Test.YtemgjgkbgkeknaaGreatDoorBE
set_option linter.all false
set_option maxRecDepth 1000000
namespace Go.Tw
open Go.Vx Go.Vx.B Go.Proofs
noncomputable section
def il59:Inl:={ f:=59,fn:=Tryz.f59,keep:=[],mU:=[2,3],fz:=[2,3] }
theorem yNK:yn Tryz.prog il59:=⟨by kernel_rfl,by kernel_rfl,λ e0 h=>by cases (show (none:Option LibK)=some e0 from h)⟩
def il60:Inl:={ f:=60,fn:=Tryz.f60,keep:=[[0,11,12,13]],mU:=[],fz:=[] }
theorem yLs:yn Tryz.prog il60:=⟨by kernel_rfl,by kernel_rfl,λ e0 h=>by cases (show (none:Option LibK)=some e0 from h)⟩
def il45:Inl:={ f:=45,fn:=Tryz.f45,keep:=[],mU:=[],fz:=[] }
theorem yMK:yn Tryz.prog il45:=⟨by kernel_rfl,by kernel_rfl,λ e0 h=>by cases (show (none:Option LibK)=some e0 from h)⟩
def il16:Inl:={ f:=16,fn:=Tryz.f16,keep:=[[1,2,8,12,37,38,39]],mU:=[12],fz:=[] }
theorem yMX:yn Tryz.prog il16:=⟨by kernel_rfl,by kernel_rfl,λ e0 h=>by cases (show (none:Option LibK)=some e0 from h)⟩
def il17:Inl:={ f:=17,fn:=Tryz.f17,keep:=[],mU:=[],fz:=[] }
theorem yLp:yn Tryz.prog il17:=⟨by kernel_rfl,by kernel_rfl,λ e0 h=>by cases (show (none:Option LibK)=some e0 from h)⟩
def il18:Inl:={ f:=18,fn:=Tryz.f18,keep:=[[8,21,22,23]],mU:=[8],fz:=[] }
theorem yNH:yn Tryz.prog il18:=⟨by kernel_rfl,by kernel_rfl,λ e0 h=>by cases (show (none:Option LibK)=some e0 from h)⟩
def il46:Inl:={ f:=46,fn:=Tryz.f46,keep:=[],mU:=[],fz:=[] }
theorem yNc:yn Tryz.prog il46:=⟨by kernel_rfl,by kernel_rfl,λ e0 h=>by cases (show (none:Option LibK)=some e0 from h)⟩
def il27:Inl:={ f:=27,fn:=Tryz.f27,keep:=[[3,6,7,8]],mU:=[3],fz:=[] }
theorem yN1:yn Tryz.prog il27:=⟨by kernel_rfl,by kernel_rfl,λ e0 h=>by cases (show (none:Option LibK)=some e0 from h)⟩
def il26:Inl:={ f:=26,fn:=Tryz.f26,keep:=[[0,1,5]],mU:=[],fz:=[] }
theorem yNJ:yn Tryz.prog il26:=⟨by kernel_rfl,by kernel_rfl,λ e0 h=>by cases (show (none:Option LibK)=some e0 from h)⟩
def il28:Inl:={ f:=28,fn:=Tryz.f28,keep:=[[0,1,5]],mU:=[],fz:=[] }
theorem yMk:yn Tryz.prog il28:=⟨by kernel_rfl,by kernel_rfl,λ e0 h=>by cases (show (none:Option LibK)=some e0 from h)⟩
def il61:Inl:={ f:=61,fn:=Tryz.f61,keep:=[[0,3,4],[5]],mU:=[],fz:=[] }
theorem yMJ:yn Tryz.prog il61:=⟨by kernel_rfl,by kernel_rfl,λ e0 h=>by cases (show (none:Option LibK)=some e0 from h)⟩
def il133:Inl:={ f:=133,fn:=Tryz.f133,keep:=[],mU:=[],fz:=[] }
theorem yKv:yn Tryz.prog il133:=⟨by kernel_rfl,by kernel_rfl,λ e0 h=>by cases (show (none:Option LibK)=some e0 from h)⟩
def il134:Inl:={ f:=134,fn:=Tryz.f134,keep:=[],mU:=[],fz:=[] }
theorem yKQ:yn Tryz.prog il134:=⟨by kernel_rfl,by kernel_rfl,λ e0 h=>by cases (show (none:Option LibK)=some e0 from h)⟩
def il136:Inl:={ f:=136,fn:=Tryz.f136,keep:=[],mU:=[],fz:=[] }
theorem yKB:yn Tryz.prog il136:=⟨by kernel_rfl,by kernel_rfl,λ e0 h=>by cases (show (none:Option LibK)=some e0 from h)⟩
def il139:Inl:={ f:=139,fn:=Tryz.f139,keep:=[],mU:=[],fz:=[] }
theorem yJy:yn Tryz.prog il139:=⟨by kernel_rfl,by kernel_rfl,λ e0 h=>by cases (show (none:Option LibK)=some e0 from h)⟩
def il140:Inl:={ f:=140,fn:=Tryz.f140,keep:=[],mU:=[],fz:=[] }
theorem yKH:yn Tryz.prog il140:=⟨by kernel_rfl,by kernel_rfl,λ e0 h=>by cases (show (none:Option LibK)=some e0 from h)⟩
def il142:Inl:={ f:=142,fn:=Tryz.f142,keep:=[],mU:=[],fz:=[] }
theorem yJd:yn Tryz.prog il142:=⟨by kernel_rfl,by kernel_rfl,λ e0 h=>by cases (show (none:Option LibK)=some e0 from h)⟩
def il144:Inl:={ f:=144,fn:=Tryz.f144,keep:=[],mU:=[],fz:=[] }
theorem yK9:yn Tryz.prog il144:=⟨by kernel_rfl,by kernel_rfl,λ e0 h=>by cases (show (none:Option LibK)=some e0 from h)⟩
def il145:Inl:={ f:=145,fn:=Tryz.f145,keep:=[],mU:=[],fz:=[] }
theorem yKD:yn Tryz.prog il145:=⟨by kernel_rfl,by kernel_rfl,λ e0 h=>by cases (show (none:Option LibK)=some e0 from h)⟩
def il89:Inl:={ f:=89,fn:=Tryz.f89,keep:=[],mU:=[],fz:=[] }
theorem yNZ:yn Tryz.prog il89:=⟨by kernel_rfl,by kernel_rfl,λ e0 h=>by cases (show (none:Option LibK)=some e0 from h)⟩
def il44:Inl:={ f:=44,fn:=Tryz.f44,keep:=[],mU:=[],fz:=[] }
theorem yME:yn Tryz.prog il44:=⟨by kernel_rfl,by kernel_rfl,λ e0 h=>by cases (show (none:Option LibK)=some e0 from h)⟩
def il91:Inl:={ f:=91,fn:=Tryz.f91,keep:=[],mU:=[],fz:=[],sep:=[1000025] }
theorem yMB:yn Tryz.prog il91:=⟨by kernel_rfl,by kernel_rfl,λ e0 h=>by cases (show (none:Option LibK)=some e0 from h)⟩
abbrev yN4:Ty:=.unit
abbrev yPB:Ty:=.pair t4 .unit
def yPX:G:={ T:=T,E:=[z03_e,z8_e,z0L_e,z0D_e,z0c_e,z0J_e,z04_e,zM_e,zq_e,zB_e,z0B_e,z0X_e,z0W_e,z0b_e,zR_e,zO_e,zc_e,z06_e,z0O_e,zL_e,zT_e,zt_e,z0i_e,zo_e,zU_e,ze_e,zP_e,z0I_e,zu_e,z0K_e,z0N_e,zD_e],mU:=[],fz:=[],cand:=[133,134,136,139,140,142,144,145] }
def yPn:List (List Nat):=[]
def yLM(n:Nat):Ann:={ keep:=yPn,fuel:=n,inl:=[il59,il60,il45,il16,il17,il18,il46,il27,il26,il28,il61,il133,il134,il136,il139,il140,il142,il144,il145,il89,il62,il69,il115,il113,il94,il44,il91],deep:=12 }
abbrev z0d_M:Option (Bool×Unit):=some (true,())
theorem yM0(x:yN4.den):runF yPX (yLM 64) Tryz.f15 yN4 yPB x=z0d_M:=by kernel_rfl
def z0d_e:Entry:={ f:=15,args:=yN4,rS:=yPB,m:=λ x=>z0d_M }
theorem yOl:FnOK Tryz.prog z0d_e:=yD4 (g:=yPX) (fn:=Tryz.f15) y1Z y75 (yC yOZ (yC yPm (yC yIq (yC yEI (yC y3Z (yC y6s (yC yOe (yC yMT (yC yPE (yC yQn (yC yOP (yC yHP (yC y9I (yC y9a (yC yKR (yC yNW (yC yPO (yC yId (yC yHU (yC yPa (yC yN2 (yC yP9 (yC yPF (yC yHs (yC yOF (yC yJE (yC yMH (yC yLI (yC yQQ (yC yEd (yC yLF (yC yON eNil)))))))))))))))))))))))))))))))) (by kernel_rfl) (by kernel_rfl) (by kernel_rfl) (λ x y h=>⟨yLM 64,(yv yNK (yv yLs (yv yMK (yv yMX (yv yLp (yv yNH (yv yNc (yv yN1 (yv yNJ (yv yMk (yv yMJ (yv yKv (yv yKQ (yv yKB (yv yJy (yv yKH (yv yJd (yv yK9 (yv yKD (yv yNZ (yv yGY (yv yMn (yv yEb (yv yAS (yv yDd (yv yME (yv yMB iNil))))))))))))))))))))))))))),(yM0 x).trans h⟩)
end
end Go.Tw
