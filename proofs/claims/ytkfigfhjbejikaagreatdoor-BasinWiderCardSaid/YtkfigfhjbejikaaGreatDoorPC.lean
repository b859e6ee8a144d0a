import Derived.Test.YtkfigfhjbejikaaGreatDoorPB
import Derived.Test.YtkfigfhjbejikaaGreatDoorBF
import Derived.Test.YtkfigfhjbejikaaGreatDoorB23
set_option linter.all false
open Option (bind_some)
section
set_option maxRecDepth 100000
namespace Go.Tw
open Go.Vx Go.Vx.B Go.Proofs
abbrev Itv:=Int×Int×Unit
def ckIv(x:Itv)(lo hi:Int):Int:=yR (ckR x.1 lo hi) (yR (ckR x.2.1 lo hi) (bif decide (x.1 > x.2.1)then 11 else 0))
def y9s(l:List Itv)(n:Int)(most:Int):Int:=yR (bif (l.length:Int) != n then 2 else 0) (y0j (l.map λ x=>ckIv x 0 most))
def y2P(b:Bas)(r:Rng):Int:=yR (ckIv r.1 (-1024) 1024) (y9s r.2.2.1 b.1.length 100000)
def y4l(b:Bas)(l:List Rng):Int:=yR (bif decide ((l.length:Int) > 96)then 5 else 0) (y0j (l.map (y2P b)))
theorem y6S(a b c:Int):yR (yR a b) c=yR a (yR b c):=by
 unfold yR;cases ha:(a != 0)<;>simp_all
theorem yN1(x:Itv)(lo hi:Int):zW_M x lo hi=some (ckIv x lo hi,()):=by
 unfold zW_M zW_m ckIv;simp only[y0f];rw[y6R _ (by simp[lenMax]),yk,yk,y2d,y1Z,<- y6S]
 simp only[bind_some];generalize yR (ckR x.1 lo hi) (ckR x.2.1 lo hi)=e;unfold yR;cases he:(e != 0)with
 |true=>rfl
 |false =>
  simp only[cond_false];rw[if_neg (by simp)]
  cases decide (x.1 > x.2.1)<;>rfl
theorem yNw(b:Bas)(l:List Itv)(most:Int)(hl:l.length < lenMax):zQ_M b l most=some (y9s l b.1.length most,()):=by
 unfold zQ_M y9s yR;cases ((l.length:Int) != (b.1.length:Int))with
 |true=>rfl
 |false =>
  simp only[cond_false];rw[if_neg (by simp),bifT (yA hl),y90 (λ x=>ckIv x 0 most) l 0 (λ i e he=>by
   unfold yNu;rw[yN1];simp only[bind_some];cases (ckIv e 0 most != 0)<;>rfl) rfl]
theorem yOv(b:Bas)(r:Rng)(hl:r.2.2.1.length < lenMax):zy_M b r=some (y2P b r,()):=by
 unfold zy_M zy_m y2P;rw[yN1,yNw b _ _ hl];simp only[bind_some];rw[y6R _ (by simp[lenMax])]
 simp only[bind_some,yk,y2d,y1Z]
theorem yLl(b:Bas)(l:List Rng)(hl:l.length < lenMax)(hr:∀ r∈l,r.2.2.1.length < lenMax):zr_M b l=some (y4l b l,()):=by
 unfold zr_M y4l yR;cases decide ((l.length:Int) > 96)with
 |true=>rfl
 |false =>
  simp only[cond_false];rw[if_neg (by simp),bifT (yA hl),y90 (y2P b) l 0 (λ i e he=>by
   unfold yOU;rw[yOv b e (hr e he)];simp only[bind_some];cases (y2P b e != 0)<;>rfl) rfl]
theorem yIg(x:Itv)(check:Int×Unit->Option (Int×Unit))(lo hi:Int)(h:∀ n,check (n,())=some (ckR n lo hi,())):zS_M x check=some (ckIv x lo hi,()):=by
 unfold zS_M zS_m ckIv;rw[h,h];simp only[bind_some,y29];rw[y0w _ (by simp[lenMax])]
 simp only[bind_some,yk,y2d,y1Z]
theorem yGx(l:List Itv)(of:Itv×Unit->Option (Int×Unit))(g:Itv->Int)(h:∀ e∈l,of (e,())=some (g e,()))(hl:l.length<=memMax):z8_M l of=some (l.map g,()):=by
 have hm:=y0l;unfold z8_M;rw[bifT (yA (show l.length < lenMax by omega)),y0k g l 0 [] (by simpa using hl) (λ i e s he hs=>by
  unfold yNk;rw[show (e.fst,e.snd.fst,())=e from rfl,h e he]
  simp only[bind_some];rw[bifT (yA hs)])]
 rfl
theorem yO1(b:Bas)(r:Rng)(hl:r.2.2.1.length<=memMax):zN_M b r=some (y2P b r,()):=by
 have hm:=y0l;unfold zN_M zN_m y2P y9s;rw[yIg r.1 _ (-1024) 1024 (λ n=>by show some (zv n)=_;unfold zv;rw[y1j]),
  yGx r.2.2.1 _ (λ x=>ckIv x 0 100000) (λ e _=>by
   show zI_M e=_
   unfold zI_M zI_m;rw[yIg e _ 0 100000 (λ n=>by show some (zf n)=_;unfold zf;rw[y1j])]
   rfl) hl]
 simp only[bind_some,y29];rw[y0w _ (by simp;omega)]
 simp only[bind_some];rw[y0w _ (by simp[lenMax])]
 simp only[bind_some,yk,y2d,y1Z]
theorem yJ3(l:List Rng)(of:Rng×Unit->Option (Int×Unit))(g:Rng->Int)(h:∀ e∈l,of (e,())=some (g e,()))(hl:l.length<=memMax):zA_M l of=some (l.map g,()):=by
 have hm:=y0l;unfold zA_M;rw[bifT (yA (show l.length < lenMax by omega)),y0k g l 0 [] (by simpa using hl) (λ i e s he hs=>by
  unfold yOd;rw[show ((e.fst.fst,e.fst.snd.fst,()),e.snd.fst,e.snd.snd.fst,())=e from rfl,h e he]
  simp only[bind_some];rw[bifT (yA hs)])]
 rfl
theorem yLs(b:Bas)(l:List Rng)(hl:l.length<=memMax)(hr:∀ r∈l,r.2.2.1.length<=memMax):zL_M b l=some (y4l b l,()):=by
 have hm:=y0l;unfold zL_M zL_m y4l;rw[yJ3 l _ (y2P b) (λ e he=>yO1 b e (hr e he)) hl]
 simp only[bind_some,y29];rw[y0w _ (by simp;omega)]
 simp only[bind_some];rw[y0w _ (by simp[lenMax])]
 simp only[bind_some,yk,y2d,y1Z]
end Go.Tw
end
section
set_option maxRecDepth 100000
namespace Go.Tw
open Go.Vx Go.Vx.B Go.Proofs
def endI(up:Bool)(x:Itv):Int:=bif up then x.2.1 else x.1
def y2l(up:Bool)(r:Rng):Cnd:=(endI up r.1,r.2.1,r.2.2.1.map (endI up),())
def upI(up:Bool):Int:=bif up then 1 else 0
theorem yGj(x:Itv)(up:Bool):idx (z0d x).1 (upI up)=some (endI up x):=by
 unfold z0d;cases up<;>rfl
theorem y86(l:List Itv)(up:Bool)(hl:l.length<=memMax):yC4 l (upI up)=some (l.map (endI up),()):=by
 have hm:=y0l;unfold yC4 yOE zD_M;rw[bifT (yA (show l.length < lenMax by omega)),y0k (endI up) l 0 [] (by simpa using hl) (λ i e s he hs=>by
  unfold yOr;show (Option.bind (yM2 e (upI up)) _)=_
  unfold yM2 yO6;rw[yGj];simp only[bind_some];rw[bifT (yA hs)])]
 rfl
theorem y8b(r:Rng)(up:Bool)(hl:r.2.2.1.length<=memMax):zb_M r (upI up)=some (y2l up r,()):=by
 unfold zb_M zb_m;rw[yGj,y86 _ up hl];rfl
theorem yMw(l:List Rng)(of:Rng×Unit->Option (Cnd×Unit))(g:Rng->Cnd)(h:∀ e∈l,of (e,())=some (g e,()))(hl:l.length<=memMax):z6_M l of=some (l.map g,()):=by
 have hm:=y0l;unfold z6_M;rw[bifT (yA (show l.length < lenMax by omega)),y0k g l 0 [] (by simpa using hl) (λ i e s he hs=>by
  unfold yNh;rw[show ((e.fst.fst,e.fst.snd.fst,()),e.snd.fst,e.snd.snd.fst,())=e from rfl,h e he]
  simp only[bind_some];rw[bifT (yA hs)])]
 rfl
end Go.Tw
end
section
set_option maxRecDepth 100000
namespace Go.Tw
open Go.Vx Go.Vx.B Go.Proofs
theorem yIA{b:Bas}{r:Rng}(h:y2P b r=0):r.2.2.1.length=b.1.length:=by
  obtain ⟨_,h2⟩:=ya h;obtain ⟨h3,_⟩:=ya h2;cases he:((r.2.2.1.length:Int) != (b.1.length:Int))with
  |true=>rw[he]at h3;cases h3
  |false=>have h11:(r.2.2.1.length:Int)=(b.1.length:Int):=by simpa using he
             omega
end Go.Tw
end
section
set_option maxRecDepth 100000
namespace Go.Tw
open Go.Vx Go.Vx.B Go.Proofs
theorem yQn(r:Rng)(h:r.2.2.1.length<=memMax):yJM r=some (r,()):=by
 unfold yJM yOP zx_M zx_m;rw[bifT (yA (show 0+r.2.2.1.length<=memMax by omega))]
 rfl
theorem y8P(l:List Rng)(hl:l.length<=memMax)(hr:∀ r∈l,r.2.2.1.length<=memMax):yCD l=some (l,()):=by
 have hm:=y0l;unfold yCD;rw[bifT (yA (show l.length < lenMax by omega)),y0k (λ c=>c) l 0 [] (by simpa using hl) (λ i e s he hs=>by
  unfold yLN;rw[show ((e.fst.fst,e.fst.snd.fst,()),e.snd.fst,e.snd.snd.fst,())=e from rfl,yQn e (hr e he)]
  simp only[bind_some];rw[bifT (yA hs)])]
 simp only[List.map_id_fun',id_eq,List.nil_append];rfl
section
variable (b:Bas) (r:Rng) (c:Cnd) (hn:∀ n∈b.1,n.1.length < lenMax) (h1:b.1.length<=memMax) (h2:b.2.1.length<=memMax) (hr:r.2.2.1.length<=memMax) (hc:c.2.2.1.length<=memMax) (both:Int) (hb:both=0->c.2.2.1.length=r.2.2.1.length)
include hn h1 h2 hr hc hb
end
end Go.Tw
end
