import Derived.Test.YtemgjgkbgkeknaaGreatDoorBT
import Derived.Test.YtemgjgkbgkeknaaGreatDoorVF
import Derived.Test.YtemgjgkbgkeknaaGreatDoorLP
import Derived.Test.YtemgjgkbgkeknaaGreatDoorProg
import Derived.KernelRfl
set_option maxRecDepth 1000000
namespace Go.Tw
open Go.Vx Go.Vx.B Go.Proofs
abbrev Q6 := List UInt8 × Int × Unit
abbrev Q5 := Int × List UInt8 × List UInt8 × Unit
abbrev Q4 := List UInt8 × Q6
abbrev Q3 := List UInt8 × Bool × Q5
abbrev Q2 := Int × List UInt8 × List (List UInt8) × List Int × List UInt8 × Unit
abbrev Q1 := Int × (Int × Int × Unit) × Int × Int × Int × Int × List UInt8 × Int × List (Q3) × List (List UInt8) × List (Q6) × Unit
noncomputable section
instance theGT:GT:={ gl:=[(1,t278,[.int .u64 1,.int .u64 10,.int .u64 100,.int .u64 1000,.int .u64 10000,.int .u64 100000,.int .u64 1000000,.int .u64 10000000,.int .u64 100000000,.int .u64 1000000000,.int .u64 10000000000,.int .u64 100000000000,.int .u64 1000000000000,.int .u64 10000000000000,.int .u64 100000000000000,.int .u64 1000000000000000,.int .u64 10000000000000000,.int .u64 100000000000000000,.int .u64 1000000000000000000,.int .u64 10000000000000000000]),
  (4,t287,[.int .u8 0,.int .u8 1,.int .u8 28,.int .u8 2,.int .u8 29,.int .u8 14,.int .u8 24,.int .u8 3,.int .u8 30,.int .u8 22,.int .u8 20,.int .u8 15,.int .u8 25,.int .u8 17,.int .u8 4,.int .u8 8,.int .u8 31,.int .u8 27,.int .u8 13,.int .u8 23,.int .u8 21,.int .u8 19,.int .u8 16,.int .u8 7,.int .u8 26,.int .u8 12,.int .u8 18,.int .u8 6,.int .u8 11,.int .u8 5,.int .u8 10,.int .u8 9]),
  (5,t288,[.int .u8 0,.int .u8 1,.int .u8 56,.int .u8 2,.int .u8 57,.int .u8 49,.int .u8 28,.int .u8 3,.int .u8 61,.int .u8 58,.int .u8 42,.int .u8 50,.int .u8 38,.int .u8 29,.int .u8 17,.int .u8 4,.int .u8 62,.int .u8 47,.int .u8 59,.int .u8 36,.int .u8 45,.int .u8 43,.int .u8 51,.int .u8 22,.int .u8 53,.int .u8 39,.int .u8 33,.int .u8 30,.int .u8 24,.int .u8 18,.int .u8 12,.int .u8 5,.int .u8 63,.int .u8 55,.int .u8 48,.int .u8 27,.int .u8 60,.int .u8 41,.int .u8 37,.int .u8 16,.int .u8 46,.int .u8 35,.int .u8 44,.int .u8 21,.int .u8 52,.int .u8 32,.int .u8 23,.int .u8 11,.int .u8 54,.int .u8 26,.int .u8 40,.int .u8 15,.int .u8 34,.int .u8 20,.int .u8 31,.int .u8 10,.int .u8 25,.int .u8 14,.int .u8 19,.int .u8 9,.int .u8 13,.int .u8 8,.int .u8 7,.int .u8 6])],ints:=[0],ifs:=[] }
theorem y1i:Tryz.prog.follows .mixedOrders=true:=by kernel_rfl
theorem y7D:yc Tryz.prog T:=by unfold yc;kernel_rfl
theorem eNil{P:Program}:∀ e∈([]:List Entry),FnOK P e:=λ e h=>by cases h
theorem yE{P:Program}{e:Entry}{l:List Entry}(h:FnOK P e)(hl:∀ e∈l,FnOK P e):∀ f∈e::l,FnOK P f:=λ f hf=>by
  rcases List.mem_cons.1 hf with rfl|hf
  · exact h
  · exact hl f hf
theorem iNil{P:Program}:∀ e∈([]:List Inl),y0B P e:=λ e h=>by cases h
theorem y0V{P:Program}{e:Inl}{l:List Inl}(h:y0B P e)(hl:∀ e∈l,y0B P e):∀ f∈e::l,y0B P f:=λ f hf=>by
  rcases List.mem_cons.1 hf with rfl|hf
  · exact h
  · exact hl f hf
theorem yH{α:Type}(c:Bool)(x y:α):(bif c then some x else some y)=some (bif c then x else y):=by cases c<;>rfl
theorem yMl{g:G}{fn:Func}{e:Entry}{an:Nat->Ann}{m:Nat->e.args.den->Option e.rS.den}(hE:∀ q∈g.E,FnOK Tryz.prog q)(hI:∀ n,∀ i∈(an n).inl,y0B Tryz.prog i)(heq:∀ n x,runF g (an n) fn e.args e.rS x=m n x)(hle:∀ n,big<=n->∀ x,LeF some (e.m x) (m n x))
    (hT:g.T=T:=by rfl) (hf:Tryz.prog.funcs[e.f]?=some fn:=by kernel_rfl) (hname:(fn.name=="runtime.NumGoroutine")=false:=by kernel_rfl) (hbody:fn.body.isNone=false:=by kernel_rfl) (hown:e.own=none:=by rfl) (hex:e.ex=none:=by rfl):FnOK Tryz.prog e:=
  yEQ (g:=g) (fn:=fn) y1i (by rw[hT];exact y7D) hE hf hname hbody (λ x y h=>⟨an big,hI big,(heq big x).trans (LeF.top (hle big (Nat.le_refl _) x) h)⟩) hown (λ q h=>by rw[hex]at h;cases h)
theorem yIV(k:Nat){g:G}{fn:Func}{e:Entry}{an:Nat->Ann}{m:Nat->e.args.den->Option e.rS.den}(hE:∀ q∈g.E,FnOK Tryz.prog q)(hI:∀ n,∀ i∈(an n).inl,y0B Tryz.prog i)(heq:∀ n x,runF g (an n) fn e.args e.rS x=m n x)(hm:∀ x,e.m x=m k x:=by intro x;rfl)
    (hT:g.T=T:=by rfl) (hf:Tryz.prog.funcs[e.f]?=some fn:=by kernel_rfl) (hname:(fn.name=="runtime.NumGoroutine")=false:=by kernel_rfl) (hbody:fn.body.isNone=false:=by kernel_rfl) (hown:e.own=none:=by rfl) (hex:e.ex=none:=by rfl):FnOK Tryz.prog e:=
  yEQ (g:=g) (fn:=fn) y1i (by rw[hT];exact y7D) hE hf hname hbody (λ x y h=>⟨an k,hI k,(heq k x).trans ((hm x).symm.trans h)⟩) hown (λ q h=>by rw[hex]at h;cases h)
theorem fBI(fn:Func){e:Entry}{E:List Entry}(m:Nat->e.args.den->Option e.rS.den)(keep:List (List Nat))(il:List Inl)(dp:Nat)(hE:∀ q∈E,FnOK Tryz.prog q)(hI:∀ i∈il,y0B Tryz.prog i)(hle:∀ n,big<=n->∀ x,LeF some (e.m x) (m n x))(mu:List Nat:=[])(fz:List Nat:=[])
    (heq:∀ n x,runF { T:=T,E:=E,mU:=mu,fz:=fz } { keep:=keep,fuel:=n,inl:=il,deep:=dp } fn e.args e.rS x=m n x:=by intro n x;kernel_rfl) (hf:Tryz.prog.funcs[e.f]?=some fn:=by kernel_rfl) (hname:(fn.name=="runtime.NumGoroutine")=false:=by kernel_rfl) (hbody:fn.body.isNone=false:=by kernel_rfl) (hown:e.own=none:=by rfl) (hex:e.ex=none:=by rfl):FnOK Tryz.prog e:=
  yMl (g:={ T:=T,E:=E,mU:=mu,fz:=fz }) (an:=λ n=>{ keep:=keep,fuel:=n,inl:=il,deep:=dp }) hE (λ _=>hI) heq hle rfl hf hname hbody hown hex
theorem fB(fn:Func){e:Entry}{E:List Entry}(m:Nat->e.args.den->Option e.rS.den)(keep:List (List Nat))(hE:∀ q∈E,FnOK Tryz.prog q)(hle:∀ n,big<=n->∀ x,LeF some (e.m x) (m n x))(mu:List Nat:=[])(fz:List Nat:=[])
    (heq:∀ n x,runF { T:=T,E:=E,mU:=mu,fz:=fz } { keep:=keep,fuel:=n,inl:=[],deep:=0 } fn e.args e.rS x=m n x:=by intro n x;kernel_rfl) (hf:Tryz.prog.funcs[e.f]?=some fn:=by kernel_rfl) (hname:(fn.name=="runtime.NumGoroutine")=false:=by kernel_rfl) (hbody:fn.body.isNone=false:=by kernel_rfl) (hown:e.own=none:=by rfl) (hex:e.ex=none:=by rfl):FnOK Tryz.prog e:=
  fBI fn m keep [] 0 hE iNil hle mu fz heq hf hname hbody hown hex
theorem fFI(k:Nat)(fn:Func){e:Entry}{E:List Entry}(m:Nat->e.args.den->Option e.rS.den)(keep:List (List Nat))(il:List Inl)(dp:Nat)(hE:∀ q∈E,FnOK Tryz.prog q)(hI:∀ i∈il,y0B Tryz.prog i)(mu:List Nat:=[])(fz:List Nat:=[])(hm:∀ x,e.m x=m k x:=by intro x;rfl)
    (heq:∀ n x,runF { T:=T,E:=E,mU:=mu,fz:=fz } { keep:=keep,fuel:=n,inl:=il,deep:=dp } fn e.args e.rS x=m n x:=by intro n x;kernel_rfl) (hf:Tryz.prog.funcs[e.f]?=some fn:=by kernel_rfl) (hname:(fn.name=="runtime.NumGoroutine")=false:=by kernel_rfl) (hbody:fn.body.isNone=false:=by kernel_rfl) (hown:e.own=none:=by rfl) (hex:e.ex=none:=by rfl):FnOK Tryz.prog e:=
  yIV k (g:={ T:=T,E:=E,mU:=mu,fz:=fz }) (an:=λ n=>{ keep:=keep,fuel:=n,inl:=il,deep:=dp }) hE (λ _=>hI) heq hm rfl hf hname hbody hown hex
theorem fF(k:Nat)(fn:Func){e:Entry}{E:List Entry}(m:Nat->e.args.den->Option e.rS.den)(keep:List (List Nat))(hE:∀ q∈E,FnOK Tryz.prog q)(mu:List Nat:=[])(fz:List Nat:=[])(hm:∀ x,e.m x=m k x:=by intro x;rfl)
    (heq:∀ n x,runF { T:=T,E:=E,mU:=mu,fz:=fz } { keep:=keep,fuel:=n,inl:=[],deep:=0 } fn e.args e.rS x=m n x:=by intro n x;kernel_rfl) (hf:Tryz.prog.funcs[e.f]?=some fn:=by kernel_rfl) (hname:(fn.name=="runtime.NumGoroutine")=false:=by kernel_rfl) (hbody:fn.body.isNone=false:=by kernel_rfl) (hown:e.own=none:=by rfl) (hex:e.ex=none:=by rfl):FnOK Tryz.prog e:=
  fFI k fn m keep [] 0 hE iNil mu fz hm heq hf hname hbody hown hex
end
end Go.Tw
