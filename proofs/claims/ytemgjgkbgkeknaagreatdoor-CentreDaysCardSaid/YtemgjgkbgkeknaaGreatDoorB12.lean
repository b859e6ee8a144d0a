import Derived.Test.YtemgjgkbgkeknaaGreatDoorBT
import Derived.Test.YtemgjgkbgkeknaaGreatDoorB0
import Derived.Test.YtemgjgkbgkeknaaGreatDoorSB
import Derived.Test.YtemgjgkbgkeknaaGreatDoorLZ
import Derived.Test.YtemgjgkbgkeknaaGreatDoorBA
import Derived.Test.YtemgjgkbgkeknaaGreatDoorBC
import Derived.Test.YtemgjgkbgkeknaaGreatDoorBD
import Derived.Test.YtemgjgkbgkeknaaGreatDoorBE
set_option linter.all false
set_option maxRecDepth 1000000
namespace Go.Tw
open Go.Vx Go.Vx.B Go.Proofs
noncomputable section
def il59:Inl:={ f:=59,fn:=Tryz.f59,keep:=[],mU:=[2,3],fz:=[2,3] }
theorem yM4:ym Tryz.prog il59:=⟨by kernel_rfl,by kernel_rfl,λ e0 h=>by cases (show (none:Option LibK)=some e0 from h)⟩
def il60:Inl:={ f:=60,fn:=Tryz.f60,keep:=[[0,11,12,13]],mU:=[],fz:=[] }
theorem yNK:ym Tryz.prog il60:=⟨by kernel_rfl,by kernel_rfl,λ e0 h=>by cases (show (none:Option LibK)=some e0 from h)⟩
def il45:Inl:={ f:=45,fn:=Tryz.f45,keep:=[],mU:=[],fz:=[] }
theorem yMp:ym Tryz.prog il45:=⟨by kernel_rfl,by kernel_rfl,λ e0 h=>by cases (show (none:Option LibK)=some e0 from h)⟩
def il16:Inl:={ f:=16,fn:=Tryz.f16,keep:=[[1,2,8,12,37,38,39]],mU:=[12],fz:=[] }
theorem yMo:ym Tryz.prog il16:=⟨by kernel_rfl,by kernel_rfl,λ e0 h=>by cases (show (none:Option LibK)=some e0 from h)⟩
def il17:Inl:={ f:=17,fn:=Tryz.f17,keep:=[],mU:=[],fz:=[] }
theorem yN8:ym Tryz.prog il17:=⟨by kernel_rfl,by kernel_rfl,λ e0 h=>by cases (show (none:Option LibK)=some e0 from h)⟩
def il18:Inl:={ f:=18,fn:=Tryz.f18,keep:=[[8,21,22,23]],mU:=[8],fz:=[] }
theorem yMj:ym Tryz.prog il18:=⟨by kernel_rfl,by kernel_rfl,λ e0 h=>by cases (show (none:Option LibK)=some e0 from h)⟩
def il46:Inl:={ f:=46,fn:=Tryz.f46,keep:=[],mU:=[],fz:=[] }
theorem yNJ:ym Tryz.prog il46:=⟨by kernel_rfl,by kernel_rfl,λ e0 h=>by cases (show (none:Option LibK)=some e0 from h)⟩
def il27:Inl:={ f:=27,fn:=Tryz.f27,keep:=[[3,6,7,8]],mU:=[3],fz:=[] }
theorem yLu:ym Tryz.prog il27:=⟨by kernel_rfl,by kernel_rfl,λ e0 h=>by cases (show (none:Option LibK)=some e0 from h)⟩
def il26:Inl:={ f:=26,fn:=Tryz.f26,keep:=[[0,1,5]],mU:=[],fz:=[] }
theorem yNM:ym Tryz.prog il26:=⟨by kernel_rfl,by kernel_rfl,λ e0 h=>by cases (show (none:Option LibK)=some e0 from h)⟩
def il28:Inl:={ f:=28,fn:=Tryz.f28,keep:=[[0,1,5]],mU:=[],fz:=[] }
theorem yMk:ym Tryz.prog il28:=⟨by kernel_rfl,by kernel_rfl,λ e0 h=>by cases (show (none:Option LibK)=some e0 from h)⟩
def il61:Inl:={ f:=61,fn:=Tryz.f61,keep:=[[0,3,4],[5]],mU:=[],fz:=[] }
theorem yM1:ym Tryz.prog il61:=⟨by kernel_rfl,by kernel_rfl,λ e0 h=>by cases (show (none:Option LibK)=some e0 from h)⟩
def il133:Inl:={ f:=133,fn:=Tryz.f133,keep:=[],mU:=[],fz:=[] }
theorem yJg:ym Tryz.prog il133:=⟨by kernel_rfl,by kernel_rfl,λ e0 h=>by cases (show (none:Option LibK)=some e0 from h)⟩
def il134:Inl:={ f:=134,fn:=Tryz.f134,keep:=[],mU:=[],fz:=[] }
theorem yKo:ym Tryz.prog il134:=⟨by kernel_rfl,by kernel_rfl,λ e0 h=>by cases (show (none:Option LibK)=some e0 from h)⟩
def il136:Inl:={ f:=136,fn:=Tryz.f136,keep:=[],mU:=[],fz:=[] }
theorem yL3:ym Tryz.prog il136:=⟨by kernel_rfl,by kernel_rfl,λ e0 h=>by cases (show (none:Option LibK)=some e0 from h)⟩
def il139:Inl:={ f:=139,fn:=Tryz.f139,keep:=[],mU:=[],fz:=[] }
theorem yJX:ym Tryz.prog il139:=⟨by kernel_rfl,by kernel_rfl,λ e0 h=>by cases (show (none:Option LibK)=some e0 from h)⟩
def il140:Inl:={ f:=140,fn:=Tryz.f140,keep:=[],mU:=[],fz:=[] }
theorem yKQ:ym Tryz.prog il140:=⟨by kernel_rfl,by kernel_rfl,λ e0 h=>by cases (show (none:Option LibK)=some e0 from h)⟩
def il142:Inl:={ f:=142,fn:=Tryz.f142,keep:=[],mU:=[],fz:=[] }
theorem yJQ:ym Tryz.prog il142:=⟨by kernel_rfl,by kernel_rfl,λ e0 h=>by cases (show (none:Option LibK)=some e0 from h)⟩
def il144:Inl:={ f:=144,fn:=Tryz.f144,keep:=[],mU:=[],fz:=[] }
theorem yKp:ym Tryz.prog il144:=⟨by kernel_rfl,by kernel_rfl,λ e0 h=>by cases (show (none:Option LibK)=some e0 from h)⟩
def il145:Inl:={ f:=145,fn:=Tryz.f145,keep:=[],mU:=[],fz:=[] }
theorem yL7:ym Tryz.prog il145:=⟨by kernel_rfl,by kernel_rfl,λ e0 h=>by cases (show (none:Option LibK)=some e0 from h)⟩
def il89:Inl:={ f:=89,fn:=Tryz.f89,keep:=[],mU:=[],fz:=[] }
theorem yMa:ym Tryz.prog il89:=⟨by kernel_rfl,by kernel_rfl,λ e0 h=>by cases (show (none:Option LibK)=some e0 from h)⟩
def il44:Inl:={ f:=44,fn:=Tryz.f44,keep:=[],mU:=[],fz:=[] }
theorem yM6:ym Tryz.prog il44:=⟨by kernel_rfl,by kernel_rfl,λ e0 h=>by cases (show (none:Option LibK)=some e0 from h)⟩
def il91:Inl:={ f:=91,fn:=Tryz.f91,keep:=[],mU:=[],fz:=[],sep:=[1000025] }
theorem yNR:ym Tryz.prog il91:=⟨by kernel_rfl,by kernel_rfl,λ e0 h=>by cases (show (none:Option LibK)=some e0 from h)⟩
abbrev yMu:Ty:=.unit
abbrev yP7:Ty:=.pair t4 .unit
def yOY:G:={ T:=T,E:=[z02_e,z8_e,z0I_e,z0B_e,z0Z_e,z0G_e,z03_e,zM_e,zp_e,zB_e,z09_e,z0T_e,z0S_e,z0Y_e,zR_e,zO_e,zc_e,z05_e,z0L_e,zL_e,zT_e,zr_e,z0f_e,zn_e,zU_e,ze_e,zP_e,z0F_e,zt_e,z0H_e,z0K_e,zD_e],mU:=[],fz:=[],cand:=[133,134,136,139,140,142,144,145] }
def yQ3:List (List Nat):=[]
def yLi(n:Nat):Ann:={ keep:=yQ3,fuel:=n,inl:=[il59,il60,il45,il16,il17,il18,il46,il27,il26,il28,il61,il133,il134,il136,il139,il140,il142,il144,il145,il89,il62,il69,il115,il113,il94,il44,il91],deep:=12 }
abbrev z0a_M:Option (Bool×Unit):=some (true,())
theorem yM0(x:yMu.den):runF yOY (yLi 64) Tryz.f15 yMu yP7 x=z0a_M:=by kernel_rfl
def z0a_e:Entry:={ f:=15,args:=yMu,rS:=yP7,m:=λ x=>z0a_M }
theorem yPX:FnOK Tryz.prog z0a_e:=yD7 (g:=yOY) (fn:=Tryz.f15) y1a y6w (yC yP5 (yC yPr (yC yLh (yC yBO (yC y47 (yC y6S (yC yNz (yC yMf (yC yPR (yC yQM (yC yO7 (yC yIK (yC y9v (yC yA2 (yC yL0 (yC yMT (yC yO1 (yC yJ9 (yC yJ8 (yC yON (yC yMG (yC yOD (yC yPT (yC yM3 (yC yPN (yC yPK (yC yNh (yC yLg (yC yQh (yC yF2 (yC yLP (yC yPG eNil)))))))))))))))))))))))))))))))) (by kernel_rfl) (by kernel_rfl) (by kernel_rfl) (λ x y h=>⟨yLi 64,(yx yM4 (yx yNK (yx yMp (yx yMo (yx yN8 (yx yMj (yx yNJ (yx yLu (yx yNM (yx yMk (yx yM1 (yx yJg (yx yKo (yx yL3 (yx yJX (yx yKQ (yx yJQ (yx yKp (yx yL7 (yx yMa (yx yMQ (yx yNY (yx yEq (yx yF4 (yx yIO (yx yM6 (yx yNR iNil))))))))))))))))))))))))))),(yM0 x).trans h⟩)
end
end Go.Tw
