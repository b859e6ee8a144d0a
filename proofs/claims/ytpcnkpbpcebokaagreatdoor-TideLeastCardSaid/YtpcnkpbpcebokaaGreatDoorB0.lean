import Derived.Test.YtpcnkpbpcebokaaGreatDoorBT
import Derived.Test.YtpcnkpbpcebokaaGreatDoorVD
import Derived.Test.YtpcnkpbpcebokaaGreatDoorLP
import Derived.Test.YtpcnkpbpcebokaaGreatDoorProg
import Derived.KernelRfl
set_option maxRecDepth 1000000
namespace Go.Tw
open Go.Vx Go.Vx.B Go.Proofs
abbrev Q4 := Int × Int × Unit
abbrev Q3 := List UInt8 × Q4
abbrev Q2 := List (Q3) × List (Q4) × Int × Unit
abbrev Q1 := List UInt8 × Int × List Nat × List (Q4) × Unit
noncomputable section
instance theGT:GT:=⟨[(0,t57,[.int .i64 0,.int .i64 0]),
  (1,t267,[.int .i64 1,.int .i64 0,.int .i64 0,.int .i64 1,.int .i64 (-1),.int .i64 0,.int .i64 0,.int .i64 (-1)]),
  (4,t302,[.int .u64 1,.int .u64 10,.int .u64 100,.int .u64 1000,.int .u64 10000,.int .u64 100000,.int .u64 1000000,.int .u64 10000000,.int .u64 100000000,.int .u64 1000000000,.int .u64 10000000000,.int .u64 100000000000,.int .u64 1000000000000,.int .u64 10000000000000,.int .u64 100000000000000,.int .u64 1000000000000000,.int .u64 10000000000000000,.int .u64 100000000000000000,.int .u64 1000000000000000000,.int .u64 10000000000000000000])]⟩
theorem y91:Tryz.prog.follows .mixedOrders=true:=by kernel_rfl
theorem yMb:yw Tryz.prog T:=by unfold yw;kernel_rfl
theorem eNil{P:Program}:∀ e∈([]:List Entry),FnOK P e:=λ e h=>by cases h
theorem yC{P:Program}{e:Entry}{l:List Entry}(h:FnOK P e)(hl:∀ e∈l,FnOK P e):∀ f∈e::l,FnOK P f:=λ f hf=>by
  rcases List.mem_cons.1 hf with rfl|hf
  · exact h
  · exact hl f hf
theorem iNil{P:Program}:∀ e∈([]:List Inl),y4p P e:=λ e h=>by cases h
theorem y5t{P:Program}{e:Inl}{l:List Inl}(h:y4p P e)(hl:∀ e∈l,y4p P e):∀ f∈e::l,y4p P f:=λ f hf=>by
  rcases List.mem_cons.1 hf with rfl|hf
  · exact h
  · exact hl f hf
theorem ym{α:Type}(c:Bool)(x y:α):(bif c then some x else some y)=some (bif c then x else y):=by cases c<;>rfl
theorem yRS{g:G}{fn:Func}{e:Entry}{an:Nat->Ann}{m:Nat->e.args.den->Option e.rS.den}(hE:∀ q∈g.E,FnOK Tryz.prog q)(hI:∀ n,∀ i∈(an n).inl,y4p Tryz.prog i)(heq:∀ n x,runF g (an n) fn e.args e.rS x=m n x)(hle:∀ n,big<=n->∀ x,LeF some (e.m x) (m n x))
    (hT:g.T=T:=by rfl) (hf:Tryz.prog.funcs[e.f]?=some fn:=by kernel_rfl) (hname:(fn.name=="runtime.NumGoroutine")=false:=by kernel_rfl) (hbody:fn.body.isNone=false:=by kernel_rfl) (hown:e.own=none:=by rfl) (hex:e.ex=none:=by rfl):FnOK Tryz.prog e:=
  yPW (g:=g) (fn:=fn) y91 (by rw[hT];exact yMb) hE hf hname hbody (λ x y h=>⟨an big,hI big,(heq big x).trans (LeF.top (hle big (Nat.le_refl _) x) h)⟩) hown (λ q h=>by rw[hex]at h;cases h)
theorem ySO(k:Nat){g:G}{fn:Func}{e:Entry}{an:Nat->Ann}{m:Nat->e.args.den->Option e.rS.den}(hE:∀ q∈g.E,FnOK Tryz.prog q)(hI:∀ n,∀ i∈(an n).inl,y4p Tryz.prog i)(heq:∀ n x,runF g (an n) fn e.args e.rS x=m n x)(hm:∀ x,e.m x=m k x:=by intro x;rfl)
    (hT:g.T=T:=by rfl) (hf:Tryz.prog.funcs[e.f]?=some fn:=by kernel_rfl) (hname:(fn.name=="runtime.NumGoroutine")=false:=by kernel_rfl) (hbody:fn.body.isNone=false:=by kernel_rfl) (hown:e.own=none:=by rfl) (hex:e.ex=none:=by rfl):FnOK Tryz.prog e:=
  yPW (g:=g) (fn:=fn) y91 (by rw[hT];exact yMb) hE hf hname hbody (λ x y h=>⟨an k,hI k,(heq k x).trans ((hm x).symm.trans h)⟩) hown (λ q h=>by rw[hex]at h;cases h)
theorem fBI(fn:Func){e:Entry}{E:List Entry}(m:Nat->e.args.den->Option e.rS.den)(keep:List (List Nat))(il:List Inl)(dp:Nat)(hE:∀ q∈E,FnOK Tryz.prog q)(hI:∀ i∈il,y4p Tryz.prog i)(hle:∀ n,big<=n->∀ x,LeF some (e.m x) (m n x))(mu:List Nat:=[])(fz:List Nat:=[])
    (heq:∀ n x,runF { T:=T,E:=E,mU:=mu,fz:=fz } { keep:=keep,fuel:=n,inl:=il,deep:=dp } fn e.args e.rS x=m n x:=by intro n x;kernel_rfl) (hf:Tryz.prog.funcs[e.f]?=some fn:=by kernel_rfl) (hname:(fn.name=="runtime.NumGoroutine")=false:=by kernel_rfl) (hbody:fn.body.isNone=false:=by kernel_rfl) (hown:e.own=none:=by rfl) (hex:e.ex=none:=by rfl):FnOK Tryz.prog e:=
  yRS (g:={ T:=T,E:=E,mU:=mu,fz:=fz }) (an:=λ n=>{ keep:=keep,fuel:=n,inl:=il,deep:=dp }) hE (λ _=>hI) heq hle rfl hf hname hbody hown hex
theorem fB(fn:Func){e:Entry}{E:List Entry}(m:Nat->e.args.den->Option e.rS.den)(keep:List (List Nat))(hE:∀ q∈E,FnOK Tryz.prog q)(hle:∀ n,big<=n->∀ x,LeF some (e.m x) (m n x))(mu:List Nat:=[])(fz:List Nat:=[])
    (heq:∀ n x,runF { T:=T,E:=E,mU:=mu,fz:=fz } { keep:=keep,fuel:=n,inl:=[],deep:=0 } fn e.args e.rS x=m n x:=by intro n x;kernel_rfl) (hf:Tryz.prog.funcs[e.f]?=some fn:=by kernel_rfl) (hname:(fn.name=="runtime.NumGoroutine")=false:=by kernel_rfl) (hbody:fn.body.isNone=false:=by kernel_rfl) (hown:e.own=none:=by rfl) (hex:e.ex=none:=by rfl):FnOK Tryz.prog e:=
  fBI fn m keep [] 0 hE iNil hle mu fz heq hf hname hbody hown hex
theorem fFI(k:Nat)(fn:Func){e:Entry}{E:List Entry}(m:Nat->e.args.den->Option e.rS.den)(keep:List (List Nat))(il:List Inl)(dp:Nat)(hE:∀ q∈E,FnOK Tryz.prog q)(hI:∀ i∈il,y4p Tryz.prog i)(mu:List Nat:=[])(fz:List Nat:=[])(hm:∀ x,e.m x=m k x:=by intro x;rfl)
    (heq:∀ n x,runF { T:=T,E:=E,mU:=mu,fz:=fz } { keep:=keep,fuel:=n,inl:=il,deep:=dp } fn e.args e.rS x=m n x:=by intro n x;kernel_rfl) (hf:Tryz.prog.funcs[e.f]?=some fn:=by kernel_rfl) (hname:(fn.name=="runtime.NumGoroutine")=false:=by kernel_rfl) (hbody:fn.body.isNone=false:=by kernel_rfl) (hown:e.own=none:=by rfl) (hex:e.ex=none:=by rfl):FnOK Tryz.prog e:=
  ySO k (g:={ T:=T,E:=E,mU:=mu,fz:=fz }) (an:=λ n=>{ keep:=keep,fuel:=n,inl:=il,deep:=dp }) hE (λ _=>hI) heq hm rfl hf hname hbody hown hex
theorem fF(k:Nat)(fn:Func){e:Entry}{E:List Entry}(m:Nat->e.args.den->Option e.rS.den)(keep:List (List Nat))(hE:∀ q∈E,FnOK Tryz.prog q)(mu:List Nat:=[])(fz:List Nat:=[])(hm:∀ x,e.m x=m k x:=by intro x;rfl)
    (heq:∀ n x,runF { T:=T,E:=E,mU:=mu,fz:=fz } { keep:=keep,fuel:=n,inl:=[],deep:=0 } fn e.args e.rS x=m n x:=by intro n x;kernel_rfl) (hf:Tryz.prog.funcs[e.f]?=some fn:=by kernel_rfl) (hname:(fn.name=="runtime.NumGoroutine")=false:=by kernel_rfl) (hbody:fn.body.isNone=false:=by kernel_rfl) (hown:e.own=none:=by rfl) (hex:e.ex=none:=by rfl):FnOK Tryz.prog e:=
  fFI k fn m keep [] 0 hE iNil mu fz hm heq hf hname hbody hown hex
end
end Go.Tw
