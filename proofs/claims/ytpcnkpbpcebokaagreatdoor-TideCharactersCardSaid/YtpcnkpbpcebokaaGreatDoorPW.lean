import Derived.Test.YtpcnkpbpcebokaaGreatDoorPL
import Derived.Test.YtpcnkpbpcebokaaGreatDoorBWa
import Derived.Test.YtpcnkpbpcebokaaGreatDoorPA
set_option linter.all false
set_option maxRecDepth 100000
namespace Go.Tw
open Go.Vx Go.Vx.B Go.Proofs Ieee
structure Sgn (d:Nat) (σ:Int):Prop where
 num:Num F32 d (σ * U)
 one:σ=1∨σ=-1
variable {d:Nat} {σ:Int} {x y:Nat} {n k:Int}
theorem Sgn.mul(h:Sgn d σ)(hx:Six x n):Num F32 (yx .mul .f32 d x) (σ * n * P16):=by
 refine yCq (k:=.f32) h.num hx.num ?_ (yCK .f32 ?_)
 ·rw[Int.mul_assoc σ U,Int.mul_comm U,Int.mul_assoc,Int.mul_assoc,Int.mul_assoc]
 ·have:=hx.low;rcases h.one with h|h<;>subst h<;>omega
theorem yO8(hx:Six x n)(hy:Six y k):Num F32 (yx .sub .f32 x y) ((n - k) * P16):=by
 rw[Int.sub_mul];refine yLG (k:=.f32) hx.num hy.num ?_
 rw[← Int.sub_mul];refine yCK .f32 ?_
 have:=hx.low;have:=hy.low;omega
theorem Sgn.step(h:Sgn d σ)(hx:Six x n)(hy:Six y k):Num F32 (yx .mul .f32 d (yx .sub .f32 x y)) (σ * (n - k) * P16):=by
 refine yCq (k:=.f32) h.num (yO8 hx hy) ?_ (yCK .f32 ?_)
 ·rw[Int.mul_assoc σ U,Int.mul_comm U,Int.mul_assoc,Int.mul_assoc,Int.mul_assoc]
 ·have:=hx.low;have:=hy.low;rcases h.one with h|h<;>subst h<;>omega
theorem yLE:(0:Int)=0 * P16:=by rw[Int.zero_mul]
theorem Sgn.up(h:Sgn d σ)(hx:Six x n)(hy:Six y k):ye .gtr .f32 (yx .mul .f32 d (yx .sub .f32 x y)) 0=decide (σ * k < σ * n):=by
 rw[y9G (h.step hx hy) n0];apply decide_eq_decide.2;show (0:Int) < _ ↔ _
 rw[yLE,y8l];rcases h.one with h|h<;>subst h<;>omega
theorem Sgn.down(h:Sgn d σ)(hx:Six x n)(hy:Six y k):ye .lss .f32 (yx .mul .f32 d (yx .sub .f32 x y)) 0=decide (σ * n < σ * k):=by
 rw[yC7 (h.step hx hy) n0];apply decide_eq_decide.2;rw[yLE,y8l];rcases h.one with h|h<;>subst h<;>omega
theorem Sgn.same(h:Sgn d σ)(hx:Six x n)(hy:Six y k):ye .eql .f32 x y=decide (σ * n=σ * k):=by
 rw[yHl hx.num hy.num];refine decide_eq_decide.2 (yS0.trans ?_);rcases h.one with h|h<;>subst h<;>omega
theorem y4k(l:List Int)(h:l.length < lenMax):zu_M l l=some (true,()):=by
 unfold zu_M;rw[bifF (show ((l.length:Int) != (l.length:Int))=false by simp),bifT (y9 h),y8M l (fun p x r e=>by
  unfold yJZ;rw[e,yNf p x r _ rfl];simp only[Option.bind_some];rw[bifF (by simp)]) l [] 0 rfl rfl]
 rfl
end Go.Tw
