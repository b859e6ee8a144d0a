import Derived.Test.YtpcnkpbpcebokaaGreatDoorPC
import Derived.Test.YtpcnkpbpcebokaaGreatDoorBWa
import Derived.Test.YtpcnkpbpcebokaaGreatDoorPA
set_option linter.all false
set_option maxRecDepth 100000
open Int (mul_assoc)
namespace Go.Tw
open Go.Vx Go.Vx.B Go.Proofs Ieee
structure Sgn (d:Nat) (σ:Int):Prop where
 num:Num F32 d (σ * U)
 one:σ=1\/σ=-1
variable {d:Nat} {σ:Int} {x y:Nat} {n k:Int}
theorem Sgn.mul(h:Sgn d σ)(hx:Six x n):Num F32 (yu .mul .f32 d x) (σ * n * P16):=by
 refine yFp (k:=.f32) h.num hx.num ?_ (yEy .f32 ?_)
 ·rw[mul_assoc σ U,Int.mul_comm U,mul_assoc,mul_assoc,mul_assoc]
 ·have:=hx.low;rcases h.one with h|h<;>subst h<;>omega
theorem yQP(hx:Six x n)(hy:Six y k):Num F32 (yu .sub .f32 x y) ((n - k) * P16):=by
 rw[Int.sub_mul];refine yO7 (k:=.f32) hx.num hy.num ?_
 rw[<- Int.sub_mul];refine yEy .f32 ?_
 have:=hx.low;have:=hy.low;omega
theorem Sgn.step(h:Sgn d σ)(hx:Six x n)(hy:Six y k):Num F32 (yu .mul .f32 d (yu .sub .f32 x y)) (σ * (n - k) * P16):=by
 refine yFp (k:=.f32) h.num (yQP hx hy) ?_ (yEy .f32 ?_)
 ·rw[mul_assoc σ U,Int.mul_comm U,mul_assoc,mul_assoc,mul_assoc]
 ·have:=hx.low;have:=hy.low;rcases h.one with h|h<;>subst h<;>omega
theorem yO8:(0:Int)=0 * P16:=by rw[Int.zero_mul]
theorem Sgn.up(h:Sgn d σ)(hx:Six x n)(hy:Six y k):yT .gtr .f32 (yu .mul .f32 d (yu .sub .f32 x y)) 0=decide (σ * k < σ * n):=by
 rw[y8X (h.step hx hy) n0];apply decide_eq_decide.2;show (0:Int) < _ ↔ _
 rw[yO8,y4b];rcases h.one with h|h<;>subst h<;>omega
theorem Sgn.down(h:Sgn d σ)(hx:Six x n)(hy:Six y k):yT .lss .f32 (yu .mul .f32 d (yu .sub .f32 x y)) 0=decide (σ * n < σ * k):=by
 rw[yAQ (h.step hx hy) n0];apply decide_eq_decide.2;rw[yO8,y4b];rcases h.one with h|h<;>subst h<;>omega
theorem Sgn.same(h:Sgn d σ)(hx:Six x n)(hy:Six y k):yT .eql .f32 x y=decide (σ * n=σ * k):=by
 rw[yLw hx.num hy.num];refine decide_eq_decide.2 (yT1.trans ?_);rcases h.one with h|h<;>subst h<;>omega
end Go.Tw
