import Derived.Test.YtemgjgkbgkeknaaGreatDoorBT
import Derived.Test.YtemgjgkbgkeknaaGreatDoorB0
import Derived.Test.YtemgjgkbgkeknaaGreatDoorSB
import Derived.Test.YtemgjgkbgkeknaaGreatDoorLZ
import Derived.Test.YtemgjgkbgkeknaaGreatDoorBA
import Derived.Test.YtemgjgkbgkeknaaGreatDoorBC
import Derived.Test.YtemgjgkbgkeknaaGreatDoorBD
import Derived.Test.YtemgjgkbgkeknaaGreatDoorBE
set_option linter.all false
set_option maxRecDepth 1000000
namespace Go.Tw
open Go.Vx Go.Vx.B Go.Proofs
noncomputable section
def il59:Inl:={ f:=59,fn:=Tryz.f59,keep:=[],mU:=[2,3],fz:=[2,3] }
theorem yNn:yo Tryz.prog il59:=⟨by kernel_rfl,by kernel_rfl,λ e0 h=>by cases (show (none:Option LibK)=some e0 from h)⟩
def il60:Inl:={ f:=60,fn:=Tryz.f60,keep:=[[0,11,12,13]],mU:=[],fz:=[] }
theorem yMm:yo Tryz.prog il60:=⟨by kernel_rfl,by kernel_rfl,λ e0 h=>by cases (show (none:Option LibK)=some e0 from h)⟩
def il45:Inl:={ f:=45,fn:=Tryz.f45,keep:=[],mU:=[],fz:=[] }
theorem yMU:yo Tryz.prog il45:=⟨by kernel_rfl,by kernel_rfl,λ e0 h=>by cases (show (none:Option LibK)=some e0 from h)⟩
def il16:Inl:={ f:=16,fn:=Tryz.f16,keep:=[[1,2,8,12,37,38,39]],mU:=[12],fz:=[] }
theorem yN2:yo Tryz.prog il16:=⟨by kernel_rfl,by kernel_rfl,λ e0 h=>by cases (show (none:Option LibK)=some e0 from h)⟩
def il17:Inl:={ f:=17,fn:=Tryz.f17,keep:=[],mU:=[],fz:=[] }
theorem yMe:yo Tryz.prog il17:=⟨by kernel_rfl,by kernel_rfl,λ e0 h=>by cases (show (none:Option LibK)=some e0 from h)⟩
def il18:Inl:={ f:=18,fn:=Tryz.f18,keep:=[[8,21,22,23]],mU:=[8],fz:=[] }
theorem yOE:yo Tryz.prog il18:=⟨by kernel_rfl,by kernel_rfl,λ e0 h=>by cases (show (none:Option LibK)=some e0 from h)⟩
def il46:Inl:={ f:=46,fn:=Tryz.f46,keep:=[],mU:=[],fz:=[] }
theorem yNx:yo Tryz.prog il46:=⟨by kernel_rfl,by kernel_rfl,λ e0 h=>by cases (show (none:Option LibK)=some e0 from h)⟩
def il27:Inl:={ f:=27,fn:=Tryz.f27,keep:=[[3,6,7,8]],mU:=[3],fz:=[] }
theorem yNT:yo Tryz.prog il27:=⟨by kernel_rfl,by kernel_rfl,λ e0 h=>by cases (show (none:Option LibK)=some e0 from h)⟩
def il26:Inl:={ f:=26,fn:=Tryz.f26,keep:=[[0,1,5]],mU:=[],fz:=[] }
theorem yMN:yo Tryz.prog il26:=⟨by kernel_rfl,by kernel_rfl,λ e0 h=>by cases (show (none:Option LibK)=some e0 from h)⟩
def il28:Inl:={ f:=28,fn:=Tryz.f28,keep:=[[0,1,5]],mU:=[],fz:=[] }
theorem yNd:yo Tryz.prog il28:=⟨by kernel_rfl,by kernel_rfl,λ e0 h=>by cases (show (none:Option LibK)=some e0 from h)⟩
def il61:Inl:={ f:=61,fn:=Tryz.f61,keep:=[[0,3,4],[5]],mU:=[],fz:=[] }
theorem yNo:yo Tryz.prog il61:=⟨by kernel_rfl,by kernel_rfl,λ e0 h=>by cases (show (none:Option LibK)=some e0 from h)⟩
def il133:Inl:={ f:=133,fn:=Tryz.f133,keep:=[],mU:=[],fz:=[] }
theorem yLA:yo Tryz.prog il133:=⟨by kernel_rfl,by kernel_rfl,λ e0 h=>by cases (show (none:Option LibK)=some e0 from h)⟩
def il134:Inl:={ f:=134,fn:=Tryz.f134,keep:=[],mU:=[],fz:=[] }
theorem yKg:yo Tryz.prog il134:=⟨by kernel_rfl,by kernel_rfl,λ e0 h=>by cases (show (none:Option LibK)=some e0 from h)⟩
def il136:Inl:={ f:=136,fn:=Tryz.f136,keep:=[],mU:=[],fz:=[] }
theorem yKz:yo Tryz.prog il136:=⟨by kernel_rfl,by kernel_rfl,λ e0 h=>by cases (show (none:Option LibK)=some e0 from h)⟩
def il139:Inl:={ f:=139,fn:=Tryz.f139,keep:=[],mU:=[],fz:=[] }
theorem yLF:yo Tryz.prog il139:=⟨by kernel_rfl,by kernel_rfl,λ e0 h=>by cases (show (none:Option LibK)=some e0 from h)⟩
def il140:Inl:={ f:=140,fn:=Tryz.f140,keep:=[],mU:=[],fz:=[] }
theorem yJu:yo Tryz.prog il140:=⟨by kernel_rfl,by kernel_rfl,λ e0 h=>by cases (show (none:Option LibK)=some e0 from h)⟩
def il142:Inl:={ f:=142,fn:=Tryz.f142,keep:=[],mU:=[],fz:=[] }
theorem yKl:yo Tryz.prog il142:=⟨by kernel_rfl,by kernel_rfl,λ e0 h=>by cases (show (none:Option LibK)=some e0 from h)⟩
def il144:Inl:={ f:=144,fn:=Tryz.f144,keep:=[],mU:=[],fz:=[] }
theorem yK9:yo Tryz.prog il144:=⟨by kernel_rfl,by kernel_rfl,λ e0 h=>by cases (show (none:Option LibK)=some e0 from h)⟩
def il145:Inl:={ f:=145,fn:=Tryz.f145,keep:=[],mU:=[],fz:=[] }
theorem yJr:yo Tryz.prog il145:=⟨by kernel_rfl,by kernel_rfl,λ e0 h=>by cases (show (none:Option LibK)=some e0 from h)⟩
def il89:Inl:={ f:=89,fn:=Tryz.f89,keep:=[],mU:=[],fz:=[] }
theorem yNG:yo Tryz.prog il89:=⟨by kernel_rfl,by kernel_rfl,λ e0 h=>by cases (show (none:Option LibK)=some e0 from h)⟩
def il44:Inl:={ f:=44,fn:=Tryz.f44,keep:=[],mU:=[],fz:=[] }
theorem yMj:yo Tryz.prog il44:=⟨by kernel_rfl,by kernel_rfl,λ e0 h=>by cases (show (none:Option LibK)=some e0 from h)⟩
def il91:Inl:={ f:=91,fn:=Tryz.f91,keep:=[],mU:=[],fz:=[],sep:=[1000025] }
theorem yNF:yo Tryz.prog il91:=⟨by kernel_rfl,by kernel_rfl,λ e0 h=>by cases (show (none:Option LibK)=some e0 from h)⟩
abbrev yNS:Ty:=.unit
abbrev yPX:Ty:=.pair t4 .unit
def yPW:G:={ T:=T,E:=[z02_e,z8_e,z0K_e,z0D_e,z0c_e,z0I_e,z03_e,zM_e,zp_e,zB_e,z0B_e,z0W_e,z0V_e,z0b_e,zR_e,zO_e,zc_e,z05_e,z0N_e,zL_e,zT_e,zr_e,z0i_e,zn_e,zU_e,ze_e,zP_e,z0H_e,zt_e,z0J_e,z0M_e,zD_e],mU:=[],fz:=[],cand:=[133,134,136,139,140,142,144,145] }
def yQy:List (List Nat):=[]
def yLw(n:Nat):Ann:={ keep:=yQy,fuel:=n,inl:=[il59,il60,il45,il16,il17,il18,il46,il27,il26,il28,il61,il133,il134,il136,il139,il140,il142,il144,il145,il89,il62,il69,il115,il113,il94,il44,il91],deep:=12 }
abbrev z0d_M:Option (Bool×Unit):=some (true,())
theorem yMi(x:yNS.den):runF yPW (yLw 64) Tryz.f15 yNS yPX x=z0d_M:=by kernel_rfl
def z0d_e:Entry:={ f:=15,args:=yNS,rS:=yPX,m:=λ x=>z0d_M }
theorem yOg:FnOK Tryz.prog z0d_e:=yD8 (g:=yPW) (fn:=Tryz.f15) y1d y76 (yE yOo (yE yRI (yE yMF (yE yCI (yE y4N (yE y6j (yE yPE (yE yMd (yE yQN (yE yR8 (yE yPY (yE yIv (yE yA5 (yE y9Z (yE yLS (yE yMk (yE yPG (yE yIU (yE yHw (yE yPN (yE yN8 (yE yPs (yE yPm (yE yMn (yE yOs (yE yMf (yE yQB (yE yLp (yE yQt (yE yEt (yE yLr (yE yOi eNil)))))))))))))))))))))))))))))))) (by kernel_rfl) (by kernel_rfl) (by kernel_rfl) (λ x y h=>⟨yLw 64,(y01 yNn (y01 yMm (y01 yMU (y01 yN2 (y01 yMe (y01 yOE (y01 yNx (y01 yNT (y01 yMN (y01 yNd (y01 yNo (y01 yLA (y01 yKg (y01 yKz (y01 yLF (y01 yJu (y01 yKl (y01 yK9 (y01 yJr (y01 yNG (y01 yOC (y01 yOK (y01 yFO (y01 yFJ (y01 yJn (y01 yMj (y01 yNF iNil))))))))))))))))))))))))))),(yMi x).trans h⟩)
end
end Go.Tw
