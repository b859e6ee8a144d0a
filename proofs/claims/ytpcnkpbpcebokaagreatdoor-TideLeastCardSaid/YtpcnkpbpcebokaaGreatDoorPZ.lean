import Derived.Test.YtpcnkpbpcebokaaGreatDoorPY
import Derived.Test.YtpcnkpbpcebokaaGreatDoorP5
import Derived.Test.YtpcnkpbpcebokaaGreatDoorPC
import Derived.Test.YtpcnkpbpcebokaaGreatDoorBAd
import Derived.Test.YtpcnkpbpcebokaaGreatDoorVD
import Derived.Test.YtpcnkpbpcebokaaGreatDoorPA
set_option linter.all false
set_option maxRecDepth 100000
set_option exponentiation.threshold 4000
namespace Go.Tw
open Go.Vx Go.Vx.B Go.Proofs
theorem yEE(z:Gau)(m:Int)(h:fits z):imax (imax (imax z.1 (IntKind.i64.wrap (0 - z.1))) z.2.1) (IntKind.i64.wrap (0 - z.2.1)) > m ↔ ¬ y0g m z=true:=by
 unfold y0g imax;obtain ⟨⟨h1,h2⟩,h3,h4⟩:=h;rw[y04 (i:=0 - z.1) (by omega) (by omega),y04 (i:=0 - z.2.1) (by omega) (by omega),decide_eq_true_eq]
 split<;>split<;>split<;>omega
structure tameT (t:Tid):Prop where
 ok:y2t t=0
 den:t.2.2.1<=64
 part:∀ z∈t.2.1,y0g 10000 z=true
structure SumV (a b:Tid) (t:Int):Prop where
 err:y1Y (sumS a b).1=0\/y1Y (sumS a b).1=5\/y1Y (sumS a b).1=9
 good:y1Y (sumS a b).1=0->y2t (yAg a b).1=0/\(1<=(yAg a b).1.2.2.1/\(yAg a b).1.2.2.1<=4096)/\y0g 268435456 (valT (yAg a b).1 t)=true/\(yAg a b).2.1=0 /\
  (valT (yAg a b).1 t).1 * (a.2.2.1 * b.2.2.1)=(b.2.2.1 * (valT a t).1+a.2.2.1 * (valT b t).1) * (yAg a b).1.2.2.1 /\
  (valT (yAg a b).1 t).2.1 * (a.2.2.1 * b.2.2.1)=(b.2.2.1 * (valT a t).2.1+a.2.2.1 * (valT b t).2.1) * (yAg a b).1.2.2.1
end Go.Tw
