import Derived.Test.YtpcnkpbpcebokaaGreatDoorPL
import Derived.Test.YtpcnkpbpcebokaaGreatDoorBWa
import Derived.Test.YtpcnkpbpcebokaaGreatDoorPA
set_option linter.all false
set_option maxRecDepth 100000
namespace Go.Tw
open Go.Vx Go.Vx.B Go.Proofs Ieee
structure Sgn (d:Nat) (σ:Int):Prop where
 num:Num F32 d (σ * U)
 one:σ=1∨σ=-1
variable {d:Nat} {σ:Int} {x y:Nat} {n k:Int}
theorem Sgn.mul(h:Sgn d σ)(hx:Six x n):Num F32 (y01 .mul .f32 d x) (σ * n * P16):=by
 refine yFK (k:=.f32) h.num hx.num ?_ (yDh .f32 ?_)
 ·rw[Int.mul_assoc σ U,Int.mul_comm U,Int.mul_assoc,Int.mul_assoc,Int.mul_assoc]
 ·have:=hx.low;rcases h.one with h|h<;>subst h<;>omega
theorem yRF(hx:Six x n)(hy:Six y k):Num F32 (y01 .sub .f32 x y) ((n - k) * P16):=by
 rw[Int.sub_mul];refine yOD (k:=.f32) hx.num hy.num ?_
 rw[← Int.sub_mul];refine yDh .f32 ?_
 have:=hx.low;have:=hy.low;omega
theorem Sgn.step(h:Sgn d σ)(hx:Six x n)(hy:Six y k):Num F32 (y01 .mul .f32 d (y01 .sub .f32 x y)) (σ * (n - k) * P16):=by
 refine yFK (k:=.f32) h.num (yRF hx hy) ?_ (yDh .f32 ?_)
 ·rw[Int.mul_assoc σ U,Int.mul_comm U,Int.mul_assoc,Int.mul_assoc,Int.mul_assoc]
 ·have:=hx.low;have:=hy.low;rcases h.one with h|h<;>subst h<;>omega
theorem yNb:(0:Int)=0 * P16:=by rw[Int.zero_mul]
theorem Sgn.up(h:Sgn d σ)(hx:Six x n)(hy:Six y k):ym .gtr .f32 (y01 .mul .f32 d (y01 .sub .f32 x y)) 0=decide (σ * k < σ * n):=by
 rw[y9j (h.step hx hy) n0];apply decide_eq_decide.2;show (0:Int) < _ ↔ _
 rw[yNb,y99];rcases h.one with h|h<;>subst h<;>omega
theorem Sgn.down(h:Sgn d σ)(hx:Six x n)(hy:Six y k):ym .lss .f32 (y01 .mul .f32 d (y01 .sub .f32 x y)) 0=decide (σ * n < σ * k):=by
 rw[yDO (h.step hx hy) n0];apply decide_eq_decide.2;rw[yNb,y99];rcases h.one with h|h<;>subst h<;>omega
theorem Sgn.same(h:Sgn d σ)(hx:Six x n)(hy:Six y k):ym .eql .f32 x y=decide (σ * n=σ * k):=by
 rw[yJ0 hx.num hy.num];refine decide_eq_decide.2 (yTi.trans ?_);rcases h.one with h|h<;>subst h<;>omega
end Go.Tw
