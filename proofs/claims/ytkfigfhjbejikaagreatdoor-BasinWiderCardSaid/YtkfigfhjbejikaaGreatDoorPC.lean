import Derived.Test.YtkfigfhjbejikaaGreatDoorPB
import Derived.Test.YtkfigfhjbejikaaGreatDoorBF
import Derived.Test.YtkfigfhjbejikaaGreatDoorB23
set_option linter.all false
open Option (bind_some)
section
set_option maxRecDepth 100000
namespace Go.Tw
open Go.Vx Go.Vx.B Go.Proofs
abbrev Itv:=Int×Int×Unit
def ckIv(x:Itv)(lo hi:Int):Int:=yQ (ckR x.1 lo hi) (yQ (ckR x.2.1 lo hi) (bif decide (x.1 > x.2.1)then 11 else 0))
def y9n(l:List Itv)(n:Int)(most:Int):Int:=yQ (bif (l.length:Int) != n then 2 else 0) (y0d (l.map λ x=>ckIv x 0 most))
def y2K(b:Bas)(r:Rng):Int:=yQ (ckIv r.1 (-1024) 1024) (y9n r.2.2.1 b.1.length 100000)
def y4j(b:Bas)(l:List Rng):Int:=yQ (bif decide ((l.length:Int) > 96)then 5 else 0) (y0d (l.map (y2K b)))
theorem y6Q(a b c:Int):yQ (yQ a b) c=yQ a (yQ b c):=by
 unfold yQ;cases ha:(a != 0)<;>simp_all
theorem yNN(x:Itv)(lo hi:Int):zW_M x lo hi=some (ckIv x lo hi,()):=by
 unfold zW_M zW_m ckIv;simp only[y0b];rw[y65 _ (by simp[lenMax]),yh,yh,y2b,y1Q,<- y6Q]
 simp only[bind_some];generalize yQ (ckR x.1 lo hi) (ckR x.2.1 lo hi)=e;unfold yQ;cases he:(e != 0)with
 |true=>rfl
 |false =>
  simp only[cond_false];rw[if_neg (by simp)]
  cases decide (x.1 > x.2.1)<;>rfl
theorem yOc(b:Bas)(l:List Itv)(most:Int)(hl:l.length < lenMax):zQ_M b l most=some (y9n l b.1.length most,()):=by
 unfold zQ_M y9n yQ;cases ((l.length:Int) != (b.1.length:Int))with
 |true=>rfl
 |false =>
  simp only[cond_false];rw[if_neg (by simp),bifT (yA hl),y9S (λ x=>ckIv x 0 most) l 0 (λ i e he=>by
   unfold yNO;rw[yNN];simp only[bind_some];cases (ckIv e 0 most != 0)<;>rfl) rfl]
theorem yOa(b:Bas)(r:Rng)(hl:r.2.2.1.length < lenMax):zy_M b r=some (y2K b r,()):=by
 unfold zy_M zy_m y2K;rw[yNN,yOc b _ _ hl];simp only[bind_some];rw[y65 _ (by simp[lenMax])]
 simp only[bind_some,yh,y2b,y1Q]
theorem yMJ(b:Bas)(l:List Rng)(hl:l.length < lenMax)(hr:∀ r∈l,r.2.2.1.length < lenMax):zr_M b l=some (y4j b l,()):=by
 unfold zr_M y4j yQ;cases decide ((l.length:Int) > 96)with
 |true=>rfl
 |false =>
  simp only[cond_false];rw[if_neg (by simp),bifT (yA hl),y9S (y2K b) l 0 (λ i e he=>by
   unfold yNh;rw[yOa b e (hr e he)];simp only[bind_some];cases (y2K b e != 0)<;>rfl) rfl]
theorem yJH(x:Itv)(check:Int×Unit->Option (Int×Unit))(lo hi:Int)(h:∀ n,check (n,())=some (ckR n lo hi,())):zS_M x check=some (ckIv x lo hi,()):=by
 unfold zS_M zS_m ckIv;rw[h,h];simp only[bind_some,y1u];rw[y0z _ (by simp[lenMax])]
 simp only[bind_some,yh,y2b,y1Q]
theorem yFh(l:List Itv)(of:Itv×Unit->Option (Int×Unit))(g:Itv->Int)(h:∀ e∈l,of (e,())=some (g e,()))(hl:l.length<=memMax):z8_M l of=some (l.map g,()):=by
 have hm:=y0h;unfold z8_M;rw[bifT (yA (show l.length < lenMax by omega)),y0g g l 0 [] (by simpa using hl) (λ i e s he hs=>by
  unfold yO8;rw[show (e.fst,e.snd.fst,())=e from rfl,h e he]
  simp only[bind_some];rw[bifT (yA hs)])]
 rfl
theorem yNX(b:Bas)(r:Rng)(hl:r.2.2.1.length<=memMax):zN_M b r=some (y2K b r,()):=by
 have hm:=y0h;unfold zN_M zN_m y2K y9n;rw[yJH r.1 _ (-1024) 1024 (λ n=>by show some (zv n)=_;unfold zv;rw[y1g]),
  yFh r.2.2.1 _ (λ x=>ckIv x 0 100000) (λ e _=>by
   show zI_M e=_
   unfold zI_M zI_m;rw[yJH e _ 0 100000 (λ n=>by show some (zf n)=_;unfold zf;rw[y1g])]
   rfl) hl]
 simp only[bind_some,y1u];rw[y0z _ (by simp;omega)]
 simp only[bind_some];rw[y0z _ (by simp[lenMax])]
 simp only[bind_some,yh,y2b,y1Q]
theorem yIo(l:List Rng)(of:Rng×Unit->Option (Int×Unit))(g:Rng->Int)(h:∀ e∈l,of (e,())=some (g e,()))(hl:l.length<=memMax):zA_M l of=some (l.map g,()):=by
 have hm:=y0h;unfold zA_M;rw[bifT (yA (show l.length < lenMax by omega)),y0g g l 0 [] (by simpa using hl) (λ i e s he hs=>by
  unfold yNa;rw[show ((e.fst.fst,e.fst.snd.fst,()),e.snd.fst,e.snd.snd.fst,())=e from rfl,h e he]
  simp only[bind_some];rw[bifT (yA hs)])]
 rfl
theorem yLl(b:Bas)(l:List Rng)(hl:l.length<=memMax)(hr:∀ r∈l,r.2.2.1.length<=memMax):zL_M b l=some (y4j b l,()):=by
 have hm:=y0h;unfold zL_M zL_m y4j;rw[yIo l _ (y2K b) (λ e he=>yNX b e (hr e he)) hl]
 simp only[bind_some,y1u];rw[y0z _ (by simp;omega)]
 simp only[bind_some];rw[y0z _ (by simp[lenMax])]
 simp only[bind_some,yh,y2b,y1Q]
end Go.Tw
end
section
set_option maxRecDepth 100000
namespace Go.Tw
open Go.Vx Go.Vx.B Go.Proofs
def endI(up:Bool)(x:Itv):Int:=bif up then x.2.1 else x.1
def y2p(up:Bool)(r:Rng):Cnd:=(endI up r.1,r.2.1,r.2.2.1.map (endI up),())
def upI(up:Bool):Int:=bif up then 1 else 0
theorem yG1(x:Itv)(up:Bool):idx (z0d x).1 (upI up)=some (endI up x):=by
 unfold z0d;cases up<;>rfl
theorem y7p(l:List Itv)(up:Bool)(hl:l.length<=memMax):yC9 l (upI up)=some (l.map (endI up),()):=by
 have hm:=y0h;unfold yC9 yOG zD_M;rw[bifT (yA (show l.length < lenMax by omega)),y0g (endI up) l 0 [] (by simpa using hl) (λ i e s he hs=>by
  unfold yNm;show (Option.bind (yMl e (upI up)) _)=_
  unfold yMl yNk;rw[yG1];simp only[bind_some];rw[bifT (yA hs)])]
 rfl
theorem y8x(r:Rng)(up:Bool)(hl:r.2.2.1.length<=memMax):zb_M r (upI up)=some (y2p up r,()):=by
 unfold zb_M zb_m;rw[yG1,y7p _ up hl];rfl
theorem yLp(l:List Rng)(of:Rng×Unit->Option (Cnd×Unit))(g:Rng->Cnd)(h:∀ e∈l,of (e,())=some (g e,()))(hl:l.length<=memMax):z6_M l of=some (l.map g,()):=by
 have hm:=y0h;unfold z6_M;rw[bifT (yA (show l.length < lenMax by omega)),y0g g l 0 [] (by simpa using hl) (λ i e s he hs=>by
  unfold yOP;rw[show ((e.fst.fst,e.fst.snd.fst,()),e.snd.fst,e.snd.snd.fst,())=e from rfl,h e he]
  simp only[bind_some];rw[bifT (yA hs)])]
 rfl
end Go.Tw
end
section
set_option maxRecDepth 100000
namespace Go.Tw
open Go.Vx Go.Vx.B Go.Proofs
theorem yGv{b:Bas}{r:Rng}(h:y2K b r=0):r.2.2.1.length=b.1.length:=by
  obtain ⟨_,h2⟩:=yY h;obtain ⟨h3,_⟩:=yY h2;cases he:((r.2.2.1.length:Int) != (b.1.length:Int))with
  |true=>rw[he]at h3;cases h3
  |false=>have h11:(r.2.2.1.length:Int)=(b.1.length:Int):=by simpa using he
             omega
end Go.Tw
end
section
set_option maxRecDepth 100000
namespace Go.Tw
open Go.Vx Go.Vx.B Go.Proofs
theorem yPg(r:Rng)(h:r.2.2.1.length<=memMax):yKI r=some (r,()):=by
 unfold yKI yNt zx_M zx_m;rw[bifT (yA (show 0+r.2.2.1.length<=memMax by omega))]
 rfl
theorem y8u(l:List Rng)(hl:l.length<=memMax)(hr:∀ r∈l,r.2.2.1.length<=memMax):yBn l=some (l,()):=by
 have hm:=y0h;unfold yBn;rw[bifT (yA (show l.length < lenMax by omega)),y0g (λ c=>c) l 0 [] (by simpa using hl) (λ i e s he hs=>by
  unfold yKW;rw[show ((e.fst.fst,e.fst.snd.fst,()),e.snd.fst,e.snd.snd.fst,())=e from rfl,yPg e (hr e he)]
  simp only[bind_some];rw[bifT (yA hs)])]
 simp only[List.map_id_fun',id_eq,List.nil_append];rfl
section
variable (b:Bas) (r:Rng) (c:Cnd) (hn:∀ n∈b.1,n.1.length < lenMax) (h1:b.1.length<=memMax) (h2:b.2.1.length<=memMax) (hr:r.2.2.1.length<=memMax) (hc:c.2.2.1.length<=memMax) (both:Int) (hb:both=0->c.2.2.1.length=r.2.2.1.length)
include hn h1 h2 hr hc hb
end
end Go.Tw
end
