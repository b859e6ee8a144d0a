import Derived.Test.YtlaebedgpkiodaaGreatDoorPL
import Derived.Test.YtlaebedgpkiodaaGreatDoorPA
set_option linter.all false
set_option maxRecDepth 100000
open Int (mul_assoc)
namespace Go.Tw
open Go.Vx Go.Vx.B Go.Proofs Ieee
structure Sgn (d:Nat) (σ:Int):Prop where
 num:Num F32 d (σ * U)
 one:σ=1\/σ=-1
variable {d:Nat} {σ:Int} {x y:Nat} {n k:Int}
theorem Sgn.mul(h:Sgn d σ)(hx:Six x n):Num F32 (yv .mul .f32 d x) (σ * n * P16):=by
 refine yKq (k:=.f32) h.num hx.num ?_ (yEY .f32 ?_)
 ·rw[mul_assoc σ U,Int.mul_comm U,mul_assoc,mul_assoc,mul_assoc]
 ·have:=hx.low;rcases h.one with h|h<;>subst h<;>omega
theorem yQI(hx:Six x n)(hy:Six y k):Num F32 (yv .sub .f32 x y) ((n - k) * P16):=by
 rw[Int.sub_mul];refine yOS (k:=.f32) hx.num hy.num ?_
 rw[<- Int.sub_mul];refine yEY .f32 ?_
 have:=hx.low;have:=hy.low;omega
theorem Sgn.step(h:Sgn d σ)(hx:Six x n)(hy:Six y k):Num F32 (yv .mul .f32 d (yv .sub .f32 x y)) (σ * (n - k) * P16):=by
 refine yKq (k:=.f32) h.num (yQI hx hy) ?_ (yEY .f32 ?_)
 ·rw[mul_assoc σ U,Int.mul_comm U,mul_assoc,mul_assoc,mul_assoc]
 ·have:=hx.low;have:=hy.low;rcases h.one with h|h<;>subst h<;>omega
theorem yRb:(0:Int)=0 * P16:=by rw[Int.zero_mul]
theorem Sgn.up(h:Sgn d σ)(hx:Six x n)(hy:Six y k):y03 .gtr .f32 (yv .mul .f32 d (yv .sub .f32 x y)) 0=decide (σ * k < σ * n):=by
 rw[yKw (h.step hx hy) n0];apply decide_eq_decide.2;show (0:Int) < _ ↔ _
 rw[yRb,yA6];rcases h.one with h|h<;>subst h<;>omega
theorem Sgn.less(h:Sgn d σ)(hx:Six x n)(hy:Six y k):y03 .lss .f32 (yv .mul .f32 d x) (yv .mul .f32 d y)=decide (σ * n < σ * k):=by
 rw[yLp (h.mul hx) (h.mul hy)];exact decide_eq_decide.2 yA6
theorem Sgn.same(h:Sgn d σ)(hx:Six x n)(hy:Six y k):y03 .eql .f32 x y=decide (σ * n=σ * k):=by
 rw[yIp hx.num hy.num];refine decide_eq_decide.2 (yO9.trans ?_);rcases h.one with h|h<;>subst h<;>omega
end Go.Tw
