import Derived.Test.YtpcnkpbpcebokaaGreatDoorBT
import Derived.Test.YtpcnkpbpcebokaaGreatDoorVD
import Derived.Test.YtpcnkpbpcebokaaGreatDoorLP
import Derived.Test.YtpcnkpbpcebokaaGreatDoorProg
import Derived.KernelRfl
set_option maxRecDepth 1000000
namespace Go.Tw
open Go.Vx Go.Vx.B Go.Proofs
abbrev Q4 := Int × Int × Unit
abbrev Q3 := List UInt8 × Q4
abbrev Q2 := List (Q3) × List (Q4) × Int × Unit
abbrev Q1 := List UInt8 × Int × List Nat × List (Q4) × Unit
noncomputable section
instance theGT:GT:=⟨[(0,t57,[.int .i64 0,.int .i64 0]),
  (1,t267,[.int .i64 1,.int .i64 0,.int .i64 0,.int .i64 1,.int .i64 (-1),.int .i64 0,.int .i64 0,.int .i64 (-1)]),
  (4,t302,[.int .u64 1,.int .u64 10,.int .u64 100,.int .u64 1000,.int .u64 10000,.int .u64 100000,.int .u64 1000000,.int .u64 10000000,.int .u64 100000000,.int .u64 1000000000,.int .u64 10000000000,.int .u64 100000000000,.int .u64 1000000000000,.int .u64 10000000000000,.int .u64 100000000000000,.int .u64 1000000000000000,.int .u64 10000000000000000,.int .u64 100000000000000000,.int .u64 1000000000000000000,.int .u64 10000000000000000000])]⟩
theorem yC:Tryz.prog.follows .mixedOrders=true:=by kernel_rfl
theorem yK:yv Tryz.prog T:=by unfold yv;kernel_rfl
theorem eNil{P:Program}:∀ e∈([]:List Entry),FnOK P e:=λ e h=>by cases h
theorem yA{P:Program}{e:Entry}{l:List Entry}(h:FnOK P e)(hl:∀ e∈l,FnOK P e):∀ f∈e::l,FnOK P f:=λ f hf=>by
  rcases List.mem_cons.1 hf with rfl|hf
  · exact h
  · exact hl f hf
theorem iNil{P:Program}:∀ e∈([]:List Inl),y6d P e:=λ e h=>by cases h
theorem y58{P:Program}{e:Inl}{l:List Inl}(h:y6d P e)(hl:∀ e∈l,y6d P e):∀ f∈e::l,y6d P f:=λ f hf=>by
  rcases List.mem_cons.1 hf with rfl|hf
  · exact h
  · exact hl f hf
theorem yG{α:Type}(c:Bool)(x y:α):(bif c then some x else some y)=some (bif c then x else y):=by cases c<;>rfl
end
end Go.Tw
