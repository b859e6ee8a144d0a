import Derived.Test.YtlaebedgpkiodaaGreatDoorPE1
import Derived.Test.YtlaebedgpkiodaaGreatDoorPE2
set_option linter.all false
set_option maxRecDepth 100000
namespace Go.Tw
open Go.Vx Go.Vx.B Go.Proofs
theorem yKO{M:Int}(hM:0<=M)(t:Int):∀ (l:List Con) (v:List Gau) (acc:Gau) (B:Int),v.length=l.length->(∀ z∈v,bd M z)->bd B acc->0<=B->B+l.length * (2 * M) < 9223372036854775807->sumV l v t acc=addX acc (lc v (l.map chr) t)
 |[],v,acc,B,_,_,_,_,_=>by
  rw[List.map_nil,yJt,y0N];unfold sumV;rfl
 |c::l,[],acc,B,h,_,_,_,_=>by simp at h
 |c::l,z::v,acc,B,h,hv,ha,hB,hb=>by
  simp only[List.length_cons,Nat.add_right_cancel_iff]at h;simp only[List.length_cons]at hb;have hz:=hv z (by simp)
  have hl0:(0:Int)<=(l.length:Int) * (2 * M):=Int.mul_nonneg (by omega) (by omega)
  have hx:((l.length+1:Nat):Int) * (2 * M)=(l.length:Int) * (2 * M)+2 * M:=by
   rw[Int.natCast_add,Int.add_mul];simp
  rw[hx]at hb;have hp:(z0h z (chr c t)).1=mulX z (chr c t):=yEs hz (yFr c t) (by omega)
  have hpb:bd (2 * M) (mulX z (chr c t)):=by
   have:=yM1 hz (yFr c t);exact y6Z this (by omega)
  have hq:(z0m acc (mulX z (chr c t))).1=addX acc (mulX z (chr c t)):=yFP ha hpb (by omega)
  show sumV l v t (z0m acc (z0h z (chr c t)).1).1=addX acc (addX (mulX z (chr c t)) (lc v (l.map chr) t))
  rw[hp,hq,yKO hM t l v (addX acc (mulX z (chr c t))) (B+2 * M) h (λ y hy=>hv y (by simp[hy])) (y5n ha hpb) (by omega) (by omega),y4g]
end Go.Tw
