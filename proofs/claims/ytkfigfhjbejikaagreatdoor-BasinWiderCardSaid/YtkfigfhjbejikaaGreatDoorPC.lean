import Derived.Test.YtkfigfhjbejikaaGreatDoorPB
import Derived.Test.YtkfigfhjbejikaaGreatDoorBF
import Derived.Test.YtkfigfhjbejikaaGreatDoorB23
set_option linter.all false
open Option (bind_some)
section
set_option maxRecDepth 100000
namespace Go.Tw
open Go.Vx Go.Vx.B Go.Proofs
abbrev Itv:=Int×Int×Unit
def ckIv(x:Itv)(lo hi:Int):Int:=yS (ckR x.1 lo hi) (yS (ckR x.2.1 lo hi) (bif decide (x.1 > x.2.1)then 11 else 0))
def y9t(l:List Itv)(n:Int)(most:Int):Int:=yS (bif (l.length:Int) != n then 2 else 0) (y0l (l.map λ x=>ckIv x 0 most))
def y2P(b:Bas)(r:Rng):Int:=yS (ckIv r.1 (-1024) 1024) (y9t r.2.2.1 b.1.length 100000)
def y4I(b:Bas)(l:List Rng):Int:=yS (bif decide ((l.length:Int) > 96)then 5 else 0) (y0l (l.map (y2P b)))
theorem y5r(a b c:Int):yS (yS a b) c=yS a (yS b c):=by
 unfold yS;cases ha:(a != 0)<;>simp_all
theorem yNW(x:Itv)(lo hi:Int):zW_M x lo hi=some (ckIv x lo hi,()):=by
 unfold zW_M zW_m ckIv;simp only[y0f];rw[y6I _ (by simp[lenMax]),yk,yk,y2e,y1f,<- y5r]
 simp only[bind_some];generalize yS (ckR x.1 lo hi) (ckR x.2.1 lo hi)=e;unfold yS;cases he:(e != 0)with
 |true=>rfl
 |false =>
  simp only[cond_false];rw[if_neg (by simp)]
  cases decide (x.1 > x.2.1)<;>rfl
theorem yOV(b:Bas)(l:List Itv)(most:Int)(hl:l.length < lenMax):zQ_M b l most=some (y9t l b.1.length most,()):=by
 unfold zQ_M y9t yS;cases ((l.length:Int) != (b.1.length:Int))with
 |true=>rfl
 |false =>
  simp only[cond_false];rw[if_neg (by simp),bifT (yA hl),y8i (λ x=>ckIv x 0 most) l 0 (λ i e he=>by
   unfold yOm;rw[yNW];simp only[bind_some];cases (ckIv e 0 most != 0)<;>rfl) rfl]
theorem yOk(b:Bas)(r:Rng)(hl:r.2.2.1.length < lenMax):zy_M b r=some (y2P b r,()):=by
 unfold zy_M zy_m y2P;rw[yNW,yOV b _ _ hl];simp only[bind_some];rw[y6I _ (by simp[lenMax])]
 simp only[bind_some,yk,y2e,y1f]
theorem yME(b:Bas)(l:List Rng)(hl:l.length < lenMax)(hr:∀ r∈l,r.2.2.1.length < lenMax):zr_M b l=some (y4I b l,()):=by
 unfold zr_M y4I yS;cases decide ((l.length:Int) > 96)with
 |true=>rfl
 |false =>
  simp only[cond_false];rw[if_neg (by simp),bifT (yA hl),y8i (y2P b) l 0 (λ i e he=>by
   unfold yOW;rw[yOk b e (hr e he)];simp only[bind_some];cases (y2P b e != 0)<;>rfl) rfl]
theorem yJc(x:Itv)(check:Int×Unit->Option (Int×Unit))(lo hi:Int)(h:∀ n,check (n,())=some (ckR n lo hi,())):zS_M x check=some (ckIv x lo hi,()):=by
 unfold zS_M zS_m ckIv;rw[h,h];simp only[bind_some,y2E];rw[y12 _ (by simp[lenMax])]
 simp only[bind_some,yk,y2e,y1f]
theorem yGb(l:List Itv)(of:Itv×Unit->Option (Int×Unit))(g:Itv->Int)(h:∀ e∈l,of (e,())=some (g e,()))(hl:l.length<=memMax):z8_M l of=some (l.map g,()):=by
 have hm:=y0i;unfold z8_M;rw[bifT (yA (show l.length < lenMax by omega)),y0k g l 0 [] (by simpa using hl) (λ i e s he hs=>by
  unfold yOs;rw[show (e.fst,e.snd.fst,())=e from rfl,h e he]
  simp only[bind_some];rw[bifT (yA hs)])]
 rfl
theorem yOu(b:Bas)(r:Rng)(hl:r.2.2.1.length<=memMax):zN_M b r=some (y2P b r,()):=by
 have hm:=y0i;unfold zN_M zN_m y2P y9t;rw[yJc r.1 _ (-1024) 1024 (λ n=>by show some (zv n)=_;unfold zv;rw[y1y]),
  yGb r.2.2.1 _ (λ x=>ckIv x 0 100000) (λ e _=>by
   show zI_M e=_
   unfold zI_M zI_m;rw[yJc e _ 0 100000 (λ n=>by show some (zf n)=_;unfold zf;rw[y1y])]
   rfl) hl]
 simp only[bind_some,y2E];rw[y12 _ (by simp;omega)]
 simp only[bind_some];rw[y12 _ (by simp[lenMax])]
 simp only[bind_some,yk,y2e,y1f]
theorem yL9(l:List Rng)(of:Rng×Unit->Option (Int×Unit))(g:Rng->Int)(h:∀ e∈l,of (e,())=some (g e,()))(hl:l.length<=memMax):zA_M l of=some (l.map g,()):=by
 have hm:=y0i;unfold zA_M;rw[bifT (yA (show l.length < lenMax by omega)),y0k g l 0 [] (by simpa using hl) (λ i e s he hs=>by
  unfold yOI;rw[show ((e.fst.fst,e.fst.snd.fst,()),e.snd.fst,e.snd.snd.fst,())=e from rfl,h e he]
  simp only[bind_some];rw[bifT (yA hs)])]
 rfl
theorem yMN(b:Bas)(l:List Rng)(hl:l.length<=memMax)(hr:∀ r∈l,r.2.2.1.length<=memMax):zL_M b l=some (y4I b l,()):=by
 have hm:=y0i;unfold zL_M zL_m y4I;rw[yL9 l _ (y2P b) (λ e he=>yOu b e (hr e he)) hl]
 simp only[bind_some,y2E];rw[y12 _ (by simp;omega)]
 simp only[bind_some];rw[y12 _ (by simp[lenMax])]
 simp only[bind_some,yk,y2e,y1f]
end Go.Tw
end
section
set_option maxRecDepth 100000
namespace Go.Tw
open Go.Vx Go.Vx.B Go.Proofs
def endI(up:Bool)(x:Itv):Int:=bif up then x.2.1 else x.1
def y2l(up:Bool)(r:Rng):Cnd:=(endI up r.1,r.2.1,r.2.2.1.map (endI up),())
def upI(up:Bool):Int:=bif up then 1 else 0
theorem yG8(x:Itv)(up:Bool):idx (z0d x).1 (upI up)=some (endI up x):=by
 unfold z0d;cases up<;>rfl
theorem y8F(l:List Itv)(up:Bool)(hl:l.length<=memMax):yBJ l (upI up)=some (l.map (endI up),()):=by
 have hm:=y0i;unfold yBJ yOw zD_M;rw[bifT (yA (show l.length < lenMax by omega)),y0k (endI up) l 0 [] (by simpa using hl) (λ i e s he hs=>by
  unfold yOX;show (Option.bind (yMx e (upI up)) _)=_
  unfold yMx yOn;rw[yG8];simp only[bind_some];rw[bifT (yA hs)])]
 rfl
theorem y9V(r:Rng)(up:Bool)(hl:r.2.2.1.length<=memMax):zb_M r (upI up)=some (y2l up r,()):=by
 unfold zb_M zb_m;rw[yG8,y8F _ up hl];rfl
theorem yLk(l:List Rng)(of:Rng×Unit->Option (Cnd×Unit))(g:Rng->Cnd)(h:∀ e∈l,of (e,())=some (g e,()))(hl:l.length<=memMax):z6_M l of=some (l.map g,()):=by
 have hm:=y0i;unfold z6_M;rw[bifT (yA (show l.length < lenMax by omega)),y0k g l 0 [] (by simpa using hl) (λ i e s he hs=>by
  unfold yNe;rw[show ((e.fst.fst,e.fst.snd.fst,()),e.snd.fst,e.snd.snd.fst,())=e from rfl,h e he]
  simp only[bind_some];rw[bifT (yA hs)])]
 rfl
end Go.Tw
end
section
set_option maxRecDepth 100000
namespace Go.Tw
open Go.Vx Go.Vx.B Go.Proofs
theorem yHQ{b:Bas}{r:Rng}(h:y2P b r=0):r.2.2.1.length=b.1.length:=by
 obtain ⟨_,h2⟩:=ya h;obtain ⟨h3,_⟩:=ya h2;cases he:((r.2.2.1.length:Int) != (b.1.length:Int))with
 |true=>rw[he]at h3;cases h3
 |false =>
  have h11:(r.2.2.1.length:Int)=(b.1.length:Int):=by simpa using he
  omega
end Go.Tw
end
section
set_option maxRecDepth 100000
namespace Go.Tw
open Go.Vx Go.Vx.B Go.Proofs
theorem yQw(r:Rng)(h:r.2.2.1.length<=memMax):yJA r=some (r,()):=by
 unfold yJA yOE zx_M zx_m;rw[bifT (yA (show 0+r.2.2.1.length<=memMax by omega))]
 rfl
theorem y9b(l:List Rng)(hl:l.length<=memMax)(hr:∀ r∈l,r.2.2.1.length<=memMax):yCI l=some (l,()):=by
 have hm:=y0i;unfold yCI;rw[bifT (yA (show l.length < lenMax by omega)),y0k (λ c=>c) l 0 [] (by simpa using hl) (λ i e s he hs=>by
  unfold yJK;rw[show ((e.fst.fst,e.fst.snd.fst,()),e.snd.fst,e.snd.snd.fst,())=e from rfl,yQw e (hr e he)]
  simp only[bind_some];rw[bifT (yA hs)])]
 simp only[List.map_id_fun',id_eq,List.nil_append];rfl
section
variable (b:Bas) (r:Rng) (c:Cnd) (hn:∀ n∈b.1,n.1.length < lenMax) (h1:b.1.length<=memMax) (h2:b.2.1.length<=memMax) (hr:r.2.2.1.length<=memMax) (hc:c.2.2.1.length<=memMax) (both:Int) (hb:both=0->c.2.2.1.length=r.2.2.1.length)
include hn h1 h2 hr hc hb
end
end Go.Tw
end
