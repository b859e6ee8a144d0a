import Derived.Test.YtlaebedgpkiodaaGreatDoorPB
set_option linter.all false
set_option maxRecDepth 100000
open Int (dvd_trans)
namespace Go.Tw
open Go.Vx Go.Vx.B Go.Proofs
theorem yOL(a b:Int):gI a b ∣ a/\gI a b ∣ b:=by
 unfold gI;exact ⟨Int.ofNat_dvd_left.2 (Nat.gcd_dvd_left _ _),Int.ofNat_dvd_left.2 (Nat.gcd_dvd_right _ _)⟩
theorem yG1:∀ (l:List Gau) (d:Int),comG l d ∣ d/\∀ z∈l,comG l d ∣ z.1/\comG l d ∣ z.2.1
 |[],d=>⟨Int.dvd_refl _,λ z hz=>by cases hz⟩
 |z::l,d=>by
  unfold comG;obtain ⟨h1,h2⟩:=yG1 l (gI (gI d z.1) z.2.1);obtain ⟨a1,a2⟩:=yOL (gI d z.1) z.2.1;obtain ⟨b1,b2⟩:=yOL d z.1;have h3:=dvd_trans h1 a1;refine ⟨dvd_trans h3 b1,λ y hy=>?_⟩
  rcases List.mem_cons.1 hy with rfl|hy
  ·exact ⟨dvd_trans h3 b2,dvd_trans h1 a2⟩
  ·exact h2 y hy
end Go.Tw
