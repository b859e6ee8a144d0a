import Derived.Test.YtemgjgkbgkeknaaGreatDoorBT
import Derived.Test.YtemgjgkbgkeknaaGreatDoorB0
import Derived.Test.YtemgjgkbgkeknaaGreatDoorSB
import Derived.Test.YtemgjgkbgkeknaaGreatDoorLZ
import Derived.Test.YtemgjgkbgkeknaaGreatDoorBA
import Derived.Test.YtemgjgkbgkeknaaGreatDoorBC
import Derived.Test.YtemgjgkbgkeknaaGreatDoorBD
import Derived.Test.YtemgjgkbgkeknaaGreatDoorBE
set_option linter.all false
set_option maxRecDepth 1000000
namespace Go.Tw
open Go.Vx Go.Vx.B Go.Proofs
noncomputable section
def il59:Inl:={ f:=59,fn:=Tryz.f59,keep:=[],mU:=[2,3],fz:=[2,3] }
theorem yN7:y0B Tryz.prog il59:=⟨by kernel_rfl,by kernel_rfl,λ e0 h=>by cases (show (none:Option LibK)=some e0 from h)⟩
def il60:Inl:={ f:=60,fn:=Tryz.f60,keep:=[[0,11,12,13]],mU:=[],fz:=[] }
theorem yNZ:y0B Tryz.prog il60:=⟨by kernel_rfl,by kernel_rfl,λ e0 h=>by cases (show (none:Option LibK)=some e0 from h)⟩
def il45:Inl:={ f:=45,fn:=Tryz.f45,keep:=[],mU:=[],fz:=[] }
theorem yOt:y0B Tryz.prog il45:=⟨by kernel_rfl,by kernel_rfl,λ e0 h=>by cases (show (none:Option LibK)=some e0 from h)⟩
def il46:Inl:={ f:=46,fn:=Tryz.f46,keep:=[],mU:=[],fz:=[] }
theorem yOo:y0B Tryz.prog il46:=⟨by kernel_rfl,by kernel_rfl,λ e0 h=>by cases (show (none:Option LibK)=some e0 from h)⟩
def il36:Inl:={ f:=36,fn:=Tryz.f36,keep:=[[0,5,6]],mU:=[5],fz:=[] }
theorem yNL:y0B Tryz.prog il36:=⟨by kernel_rfl,by kernel_rfl,λ e0 h=>by cases (show (none:Option LibK)=some e0 from h)⟩
def il81:Inl:={ f:=81,fn:=Tryz.f81,keep:=[],mU:=[],fz:=[] }
theorem yOe:y0B Tryz.prog il81:=⟨by kernel_rfl,by kernel_rfl,λ e0 h=>by cases (show (none:Option LibK)=some e0 from h)⟩
def il127:Inl:={ f:=127,fn:=Tryz.f127,keep:=[],mU:=[],fz:=[] }
theorem yM1:y0B Tryz.prog il127:=⟨by kernel_rfl,by kernel_rfl,λ e0 h=>by cases (show (none:Option LibK)=some e0 from h)⟩
def il93:Inl:={ f:=93,fn:=Tryz.f93,keep:=[],mU:=[],fz:=[],sep:=[9,10] }
theorem yNa:y0B Tryz.prog il93:=⟨by kernel_rfl,by kernel_rfl,λ e0 h=>by cases (show (none:Option LibK)=some e0 from h)⟩
def il44:Inl:={ f:=44,fn:=Tryz.f44,keep:=[],mU:=[],fz:=[] }
theorem yOk:y0B Tryz.prog il44:=⟨by kernel_rfl,by kernel_rfl,λ e0 h=>by cases (show (none:Option LibK)=some e0 from h)⟩
def il91:Inl:={ f:=91,fn:=Tryz.f91,keep:=[],mU:=[],fz:=[],sep:=[1000025] }
theorem yNe:y0B Tryz.prog il91:=⟨by kernel_rfl,by kernel_rfl,λ e0 h=>by cases (show (none:Option LibK)=some e0 from h)⟩
abbrev yNy:Ty:=.unit
abbrev yQ8:Ty:=.pair t4 .unit
def yQV:G:={ T:=T,E:=[z0J_e,z0B_e,zb_e,z0c_e,z00_e,z06_e,z0m_e,zf_e,zg_e,zh_e,zi_e,zj_e,zk_e,zl_e,zm_e,z8_e,z0M_e,zB_e,z0C_e,z0W_e,z0g_e,zX_e,zx_e,z0a_e,z0K_e,z03_e,z0I_e,zo_e,z0L_e,zD_e,zF_e,zu_e,z0V_e,ze_e,zP_e],mU:=[],fz:=[],cand:=[133,134,136,139,140,142,144,145] }
def yS6:List (List Nat):=[]
def yMy(n:Nat):Ann:={ keep:=yS6,fuel:=n,inl:=[il59,il60,il45,il46,il36,il81,il127,il93,il162,il161,il44,il91,il94,il113],deep:=12 }
abbrev z0b_M:Option (Bool×Unit):=some (true,())
theorem yON(x:yNy.den):runF yQV (yMy 64) Tryz.f15 yNy yQ8 x=z0b_M:=by kernel_rfl
def z0b_e:Entry:={ f:=15,args:=yNy,rS:=yQ8,m:=λ x=>z0b_M }
theorem yP1:FnOK Tryz.prog z0b_e:=yEQ (g:=yQV) (fn:=Tryz.f15) y1i y7D (yE yMw (yE yIW (yE yPN (yE yMp (yE yMU (yE yQ5 (yE yQ1 (yE yPa (yE yQA (yE yQQ (yE yPW (yE yPd (yE yPk (yE yPo (yE yQX (yE yRI (yE yMr (yE yRK (yE yQ3 (yE yJP (yE yQR (yE yRE (yE yQm (yE y4I (yE y73 (yE yQa (yE yPP (yE yPI (yE yHd (yE yR6 (yE yOT (yE yRQ (yE yA6 (yE yNW (yE yPn eNil))))))))))))))))))))))))))))))))))) (by kernel_rfl) (by kernel_rfl) (by kernel_rfl) (λ x y h=>⟨yMy 64,(y0V yN7 (y0V yNZ (y0V yOt (y0V yOo (y0V yNL (y0V yOe (y0V yM1 (y0V yNa (y0V yLa (y0V yKp (y0V yOk (y0V yNe (y0V yJ1 (y0V yFM iNil)))))))))))))),(yON x).trans h⟩)
end
end Go.Tw
