import Derived.Test.YtpcnkpbpcebokaaGreatDoorPN2
import Derived.Test.YtpcnkpbpcebokaaGreatDoorPN1
import Derived.Test.YtpcnkpbpcebokaaGreatDoorPN
set_option linter.all false
section
set_option maxRecDepth 100000
namespace Go.Tw
open Go.Vx Go.Vx.B Go.Proofs
theorem Dep.sub{T T':List Int}{v:List (Int->Gau)}(h:Dep T v)(hs:∀ t∈T',t∈T):Dep T' v:=by
 obtain ⟨c,h1,h2,h3⟩:=h;exact ⟨c,h1,h2,λ t ht=>h3 t (hs t ht)⟩
theorem yOk(n:Int):mulX (conX (y1J n)) (y1J n)=(1,0,()):=by
 unfold y1J;split
 ·rfl
 ·split
  ·rfl
  ·split<;>rfl
theorem yNp(c:Con):∀ T:List Int,ip T (chr c) (chr c)=((T.length:Int),0,())
 |[]=>rfl
 |t::T=>by
  show addX (mulX (conX (chr c t)) (chr c t)) (ip T (chr c) (chr c))=_
  rw[yNp c T,show mulX (conX (chr c t)) (chr c t)=(1,0,())from yOk _]
  exact yA (by simp only[addX,List.length_cons];omega) rfl
end Go.Tw
end
section
set_option maxRecDepth 100000
namespace Go.Tw
open Go.Vx Go.Vx.B Go.Proofs
theorem yO6{M:Int}(hM:0<=M)(t:Int):∀ (l:List Con) (v:List Gau) (acc:Gau) (B:Int),v.length=l.length->(∀ z∈v,bd M z)->bd B acc->0<=B->B+l.length * (2 * M) < 9223372036854775807->sumV l v t acc=addX acc (lc v (l.map chr) t)
 |[],v,acc,B,_,_,_,_,_=>by
  rw[List.map_nil,y9Z,y08];unfold sumV;rfl
 |c::l,[],acc,B,h,_,_,_,_=>by simp at h
 |c::l,z::v,acc,B,h,hv,ha,hB,hb=>by
  simp only[List.length_cons,Nat.add_right_cancel_iff]at h;simp only[List.length_cons]at hb;have hz:=hv z (by simp)
  have hl0:(0:Int)<=(l.length:Int) * (2 * M):=Int.mul_nonneg (by omega) (by omega)
  have hx:((l.length+1:Nat):Int) * (2 * M)=(l.length:Int) * (2 * M)+2 * M:=by
   rw[Int.natCast_add,Int.add_mul];simp
  rw[hx]at hb;have hp:(z0z z (chr c t)).1=mulX z (chr c t):=y7v hz (y8d c t) (by omega)
  have hpb:bd (2 * M) (mulX z (chr c t)):=by
   have:=y2a hz (y8d c t);exact y25 this (by omega)
  have hq:(z17 acc (mulX z (chr c t))).1=addX acc (mulX z (chr c t)):=yDu ha hpb (by omega)
  show sumV l v t (z17 acc (z0z z (chr c t)).1).1=addX acc (addX (mulX z (chr c t)) (lc v (l.map chr) t))
  rw[hp,hq,yO6 hM t l v (addX acc (mulX z (chr c t))) (B+2 * M) h (λ y hy=>hv y (by simp[hy])) (y1p ha hpb) (by omega) (by omega),y30]
end Go.Tw
end
section
set_option maxRecDepth 100000
namespace Go.Tw
open Go.Vx Go.Vx.B Go.Proofs
theorem yJa{z:Gau}(h:bd 8796093022208 z):y1t z=0:=by
 unfold bd at h;unfold y1t ckR;rw[yM,yM,y0Q];simp only[yP];have h1:¬ z.1 < -8796093022208:=by omega
 have h2:¬ z.1 > 8796093022208:=by omega
 have h3:¬ z.2.1 < -8796093022208:=by omega
 have h4:¬ z.2.1 > 8796093022208:=by omega
 simp[h1,h2,h3,h4]
end Go.Tw
end
section
set_option maxRecDepth 100000
namespace Go.Tw
open Go.Vx Go.Vx.B Go.Proofs
end Go.Tw
end
