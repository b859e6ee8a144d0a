import Derived.Test.YtlaebedgpkiodaaGreatDoorPH3
import Derived.Test.YtlaebedgpkiodaaGreatDoorPB
import Derived.Test.YtlaebedgpkiodaaGreatDoorPA
import Derived.Test.YtlaebedgpkiodaaGreatDoorVF
set_option linter.all false
set_option maxRecDepth 100000
open List (length_map mem_map)
open Option (bind_some)
open Go.IntKind (i64)
namespace Go.Tw
open Go.Vx Go.Vx.B Go.Proofs Ieee
def evC(c:Con):Con:=(c.1,c.2.1,c.2.2.1 / 2 * 2,())
def amG(y:Int):Gau:=(y % 201 - 100,0,())
theorem yQh(y:Int):(amG y).2.1=0/\-100<=(amG y).1/\(amG y).1<=100:=by
 refine ⟨rfl,?_,?_⟩
 ·show -100<=y % 201 - 100
  omega
 ·show y % 201 - 100<=100
  omega
theorem yDp{n lo hi:Int}(h:lo<=n/\n<=hi):ckR n lo hi=0:=by
 unfold ckR;rw[if_neg (by omega)]
theorem yPM{c:Con}(h:y6d c=0):y6d (evC c)=0:=by
 obtain ⟨h1,h2⟩:=yGP h;unfold y45 at h1;unfold y6d evC;simp only;rw[h2,yDp h1.1,yDp (n:=c.2.2.1 / 2 * 2) (by omega)]
 rfl
theorem yJO:∀ (l done:List Con),y9k done l=0->y9k (done.map evC) (l.map evC)=0
 |[],_,_=>rfl
 |n::l,done,h=>by
  obtain ⟨h1,h2⟩:=yI h;obtain ⟨h3,h4⟩:=yI h1;have ih:=yJO l (done++[n]) h2;have hany:((done.map evC).any λ d=>d.1 == (evC n).1)=done.any λ d=>d.1 == n.1:=by
   rw[List.any_map];rfl
  rw[List.map_append]at ih;show yQ (yQ (y6d (evC n)) (bif (done.map evC).any (λ d=>d.1 == (evC n).1)then 9 else 0)) (y9k (done.map evC++[evC n]) (l.map evC))=0
  rw[yPM h3,yX,hany,h4,yX];exact ih
theorem yKK{l:List Con}(h:y26 l=0):y26 (l.map evC)=0:=by
 obtain ⟨h1,h2,_⟩:=y3N h;unfold y26 at h ⊢;rw[if_neg (by omega),if_neg (by omega)]at h
 rw[length_map,if_neg (by omega),if_neg (by omega)]
 exact yJO l [] h
theorem yRE{c:Con}(hc:y45 c)(t:Int):chr (evC c) t=(1,0,())\/chr (evC c) t=(-1,0,()):=by
 have h:=hc.2;show y1E (c.2.2.1 / 2 * 2 * (t / c.2.1) % 4)=_\/y1E (c.2.2.1 / 2 * 2 * (t / c.2.1) % 4)=_
 generalize t / c.2.1=q;rcases (show c.2.2.1 / 2=0\/c.2.2.1 / 2=1 by omega)with e|e
 ·rw[e];left
  rw[show (0:Int) * 2 * q % 4=0 by omega]
  rfl
 ·rw[e];rcases (show (1:Int) * 2 * q % 4=0\/(1:Int) * 2 * q % 4=2 by omega)with g|g
  ·left;rw[g];rfl
  ·right;rw[g];rfl
theorem ySF(t:Int):∀ (l:List Con) (A:List Gau),A.length=l.length->(∀ c∈l,y45 c)->(∀ z∈A,z.2.1=0/\-100<=z.1/\z.1<=100) ->
  (lc A ((l.map evC).map chr) t).2.1=0/\-(100 * (l.length:Int))<=(lc A ((l.map evC).map chr) t).1/\(lc A ((l.map evC).map chr) t).1<=100 * (l.length:Int)
 |[],A,_,_,_=>by
  rw[List.map_nil,List.map_nil,yJt];exact ⟨rfl,by decide,by decide⟩
 |c::l,[],h,_,_=>by simp at h
 |c::l,z::A,h,hc,hz=>by
  obtain ⟨i1,i2,i3⟩:=ySF t l A (by simpa using h) (λ x hx=>hc x (by simp[hx])) λ x hx=>hz x (by simp[hx])
  obtain ⟨z1,z2,z3⟩:=hz z (by simp)
  have e:lc (z::A) (((c::l).map evC).map chr) t=addX (mulX z (chr (evC c) t)) (lc A ((l.map evC).map chr) t):=rfl;rw[e];generalize lc A ((l.map evC).map chr) t=w at *;simp only[List.length_cons];rcases yRE (hc c (by simp)) t with g|g<;>rw[g]<;>simp only[addX,mulX]<;>refine ⟨by omega,by omega,by omega⟩
theorem yMl{a:Int}(h0:-400<=a)(h1:a<=400):yE5 a 1=some (a,()):=by
 rw[yIH (by decide) (by decide)]
 have e:nrI (i64.wrap (i64.wrap (2 * a)+1)) (i64.wrap (2 * 1))=a:=by
  rw[yw (i:=2 * a) (by omega) (by omega),yw (i:=2 * a+1) (by omega) (by omega),show i64.wrap (2 * 1)=2 from yw (by decide) (by decide)]
  unfold nrI;rcases (show 0<=a\/a < 0 by omega)with h|h
  ·rw[Int.tdiv_eq_ediv_of_nonneg (by omega),Int.tmod_eq_emod_of_nonneg (by omega),bifF (yK (by omega)),yw (by omega) (by omega)]
   omega
  ·have e1:(2 * a+1).tdiv 2=-((-(2 * a+1)) / 2):=by
    conv=>lhs;rw[show 2 * a+1=-(-(2 * a+1)) by omega]
    rw[Int.neg_tdiv,Int.tdiv_eq_ediv_of_nonneg (by omega)]
   have e2:(2 * a+1).tmod 2=-((-(2 * a+1)) % 2):=by
    conv=>lhs;rw[show 2 * a+1=-(-(2 * a+1)) by omega]
    rw[Int.neg_tmod,Int.tmod_eq_emod_of_nonneg (by omega)]
   rw[e1,e2,bifT (yB (by omega)),yw (i:=-((-(2 * a+1)) / 2)) (by omega) (by omega),yw (by omega) (by omega)]
   omega
 rw[e]
section
variable {l:List Con} (hck:y26 l=0) (hnl:∀ c∈l,c.1.length < lenMax) {st:Int} (hst:0<=st/\st<=65535) {xp:List Int} (hx6:xp.length=6) (hx:∀ y∈xp,0<=y/\y<=255)
include hck hnl hst hx6 hx
theorem yMz{A:List Gau}(hA:A.length=l.length)(hz:∀ z∈A,z.2.1=0/\-100<=z.1/\z.1<=100):y5v st xp (l.length:Int) 1 (l.length:Int) (l.map evC) A=some (.inl (true,())):=by
 have hmem:memMax=68719476736:=rfl;have hlm:lenMax=9223372036854775808:=rfl;obtain ⟨c1,c2,c3⟩:=y3N hck;have hckE:=yKK hck;have hAE:A.length=(l.map evC).length:=by rw[length_map];exact hA
 have hb:∀ z∈A,bd 100 z:=λ z hzm=>by
  obtain ⟨z1,z2,z3⟩:=hz z hzm;unfold bd;omega
 have hnlE:∀ c∈l.map evC,c.1.length < lenMax:=λ c hc=>by
  obtain ⟨x,hxm,rfl⟩:=mem_map.1 hc;exact hnl x hxm
 have h4:idx xp 4=some xp[4]:=by unfold idx;rw[if_pos (by omega)];exact List.getElem?_eq_getElem (by omega)
 have h5:idx xp 5=some xp[5]:=by unfold idx;rw[if_pos (by omega)];exact List.getElem?_eq_getElem (by omega)
 have y4:=hx xp[4] (List.getElem_mem _);generalize xp[4]=y at h4 y4;generalize xp[5]=y5 at h5;obtain ⟨n,hn,hn16⟩:∃ n:Nat,(i64.wrap y).tmod 17=(n:Int)/\n<=16:=by
  rw[yw (by omega) (by omega),Int.tmod_eq_emod_of_nonneg (by omega)]
  exact ⟨(y % 17).toNat,by omega,by omega⟩
 have hw:i64.wrap st=st:=yw (by omega) (by omega)
 have hck0:y3F (l.map evC,A,1,())=0:=yKu hckE hAE hb;have hF:yQ (y3F (l.map evC,A,1,())) (y73 st (n:Int))=0:=by
  rw[hck0,yX];unfold y73;rw[yw (i:=st+(n:Int)) (by omega) (by omega),yDp (n:=st) (by omega),yDp (n:=(n:Int)) (by omega),yDp (n:=st+(n:Int)) (by omega)]
  rfl
 have hval:∀ t,valT (l.map evC,A,1,()) t=lc A ((l.map evC).map chr) t:=λ t=>by
  unfold valT;rw[yKO (M:=100) (by decide) t (l.map evC) A (0,0,()) 0 hAE hb (by unfold bd;simp) (by decide) (by rw[length_map];omega)]
  exact y2d _
 have hlc:=λ t=>ySF t l A hA c3 hz
 have hVb:∀ t,-400<=(lc A ((l.map evC).map chr) t).1/\(lc A ((l.map evC).map chr) t).1<=400:=λ t=>by
  have:=hlc t;omega
 unfold y5v;rw[bifF (yK (by omega)),h4]
 simp only[bind_some];rw[hn,hw,yNS (t:=(l.map evC,A,1,())) hnlE (by simp only[length_map];omega) (by simp only;omega) st (n:Int),if_pos hF]
 simp only[bind_some];have hpl:(yHb (l.map evC,A,1,()) st (n:Int)).length=n:=by rw[yKQ,Int.toNat_natCast]
 rw[bifF (by rfl),bifT (yB (by omega)),y0p (λ v=>lvF v.1) _ 0 [] (by simp only[List.length_nil];omega) (λ i v s hv hs=>by
  unfold yGA;obtain ⟨k,_,rfl⟩:=mem_map.1 hv;rw[hval];obtain ⟨v1,v2⟩:=hVb (st+(0+(k:Int)));generalize (lc A ((l.map evC).map chr) (st+(0+(k:Int)))).1=w at *;show Option.bind (yE5 w 1) _=_
  rw[yMl v1 v2];simp only[bind_some];rw[yQv w (by omega) (by omega),bifF (yK (by omega)),bifT (yB hs)]
  rfl)]
 rw[List.nil_append];have hlv:(yHb (l.map evC,A,1,()) st (n:Int)).map (λ v=>lvF v.1)=(List.range n).map λ k:Nat=>lvF (lc A ((l.map evC).map chr) (st+(k:Int))).1:=by
  unfold yHb;rw[Int.toNat_natCast,List.map_map];refine List.map_congr_left λ k _=>?_
  show lvF (valT (l.map evC,A,1,()) (st+(0+(k:Int)))).1=_
  rw[hval,Int.zero_add]
 rw[hlv];unfold yGp;rw[bifF (by simp)]
 have hinv:Inv n (λ k:Nat=>(lc A ((l.map evC).map chr) (st+(k:Int))).1) ((List.range n).map λ k:Nat=>lvF (lc A ((l.map evC).map chr) (st+(k:Int))).1) []:=
  ⟨by simp,λ k hk=>by simp[List.getElem?_range hk],List.Pairwise.nil,λ g hg=>by cases hg⟩
 have hloop:=yGV (n:=n) (V:=λ k:Nat=>(lc A ((l.map evC).map chr) (st+(k:Int))).1) hn16 (λ k _=>hVb _) hst hckE hnlE hAE hb (λ k _=>yC rfl (hlc _).1) h5 wMax 0 _ [] hinv (λ g hg=>by cases hg) (by omega) (by unfold wMax;omega)
 rw[hw];exact hloop
theorem yKI:∀ (r p:List Con) (ys zs:List Int) (m:Nat),l=p++r->xp=ys++zs->ys.length=p.length->r.length+1<=m ->
  y1H (λ s__=>y5v st xp (l.length:Int) 1 s__.1 s__.2.1 s__.2.2) m ((p.length:Int),p.map evC++r,ys.map amG)=some (true,())
 |_,_,_,_,0,_,_,_,h=>by omega
 |[],p,ys,zs,m+1,h1,h2,h3,_=>by
  show (y5v st xp (l.length:Int) 1 (p.length:Int) (p.map evC++[]) (ys.map amG)).bind _=_
  rw[List.append_nil]at h1 ⊢;subst h1;rw[yMz hck hnl hst hx6 hx (A:=ys.map amG) (by rw[length_map];exact h3) λ z hz=>by
   obtain ⟨y,_,rfl⟩:=mem_map.1 hz;exact yQh y]
  rfl
 |x::r,p,ys,zs,m+1,h1,h2,h3,h4=>by
  have hmem:memMax=68719476736:=rfl;obtain ⟨c1,c2,c3⟩:=y3N hck;have hll:l.length=p.length+(r.length+1):=by rw[h1];simp
  match zs,h2 with
  |[],h2 =>
   rw[List.append_nil]at h2;rw[h2]at hx6;omega
  |y::zs,h2 =>
   have hxc:=c3 x (by rw[h1];simp)
   unfold y45 at hxc;have hy:=hx y (by rw[h2];simp)
   have hpl:(p.map evC).length=p.length:=length_map ..;have e1:idx (p.map evC++x::r) (p.length:Int)=some x:=y8f _ x r _ (by rw[hpl])
   have e2:(p.map evC++x::r)[((p.length:Int)).toNat]?=some x:=by
    rw[Int.toNat_natCast,<- hpl,List.getElem?_append_right (Nat.le_refl _)];simp
   have e3:idx xp (p.length:Int)=some y:=by rw[h2];exact y8f _ y zs _ (by rw[h3])
   have e4:(p.map evC++x::r).set ((p.length:Int)).toNat (evC x)=(p++[x]).map evC++r:=by
    rw[Int.toNat_natCast,<- hpl,List.set_append_right _ _ (Nat.le_refl _)];simp
   have e5:i64.wrap (i64.wrap (x.2.2.1.tdiv 2) * 2)=x.2.2.1 / 2 * 2:=by
    rw[Int.tdiv_eq_ediv_of_nonneg (by omega),yw (i:=x.2.2.1 / 2) (by omega) (by omega),yw (by omega) (by omega)]
   have e6:i64.wrap ((i64.wrap y).tmod 201 - 100)=y % 201 - 100:=by
    rw[yw (i:=y) (by omega) (by omega),Int.tmod_eq_emod_of_nonneg (by omega),yw (by omega) (by omega)]
   have hbody:y5v st xp (l.length:Int) 1 (p.length:Int) (p.map evC++x::r) (ys.map amG)=some (.inr (((p++[x]).length:Int),(p++[x]).map evC++r,(ys++[y]).map amG)):=by
    unfold y5v;rw[bifT (yB (by omega)),e1,e2,e3]
    simp only[bind_some];rw[bifT (yB (show (ys.map amG).length+1<=memMax by rw[length_map];omega)),e5,e6,yw (i:=(p.length:Int)+1) (by omega) (by omega)]
    have:((x.1,x.2.1,x.2.2.1 / 2 * 2,x.2.2.2):Con)=evC x:=rfl;have e7:(ys++[y]).map amG=ys.map amG++[(y % 201 - 100,0,())]:=by rw[List.map_append];rfl
    have e8:((p++[x]).length:Int)=(p.length:Int)+1:=by simp
    rw[this,e4,e7,e8]
   show (y5v st xp (l.length:Int) 1 (p.length:Int) (p.map evC++x::r) (ys.map amG)).bind _=_
   rw[hbody];exact yKI r (p++[x]) (ys++[y]) zs m (by rw[h1];simp) (by rw[h2];simp) (by simp[h3]) (by simp only[List.length_cons]at h4;omega)
end
theorem yC4(l:List Con)(st:Int)(xp:List Int)(ll:l.length < lenMax)(hst:0<=st/\st<=65535)(hx6:xp.length=6)(hx:∀ y∈xp,0<=y/\y<=255):zf_M l st xp=some (true,()):=by
 have hmem:memMax=68719476736:=rfl;have hlm:lenMax=9223372036854775808:=rfl;unfold zf_M;rw[yH1];simp only[bind_some,Bool.not_true,cond_false];obtain ⟨s,s1,s2⟩:=yLN l ll;rw[s1];simp only[bind_some];cases s with
 |false=>rfl
 |true =>
  obtain ⟨l60,l5⟩:=s2 rfl;simp only[Bool.not_true,cond_false];rw[yMt];simp only[bind_some];by_cases h0:y26 l=0
  ·rw[bifF (by rw[h0];rfl),bifT (yB ll),y0p (λ n=>n) l 0 [] (by simp only[List.length_nil];omega) (λ i e s _ hs=>by
    unfold yM2;rw[bifT (yB hs)])]
   simp only[List.map_id_fun',id_eq,List.nil_append];unfold yK5;exact yKI h0 (λ c hc=>by have:=l60 c hc;omega) hst hx6 hx l [] [] xp wMax rfl rfl rfl (by unfold wMax;omega)
  ·rw[bifT (by simpa using h0)]
theorem yPP{y:Int}(h:(Lit.int .u16 y).wf=true):0<=y/\y<=65535:=by
 have h1:IntKind.u16.min=0:=by decide
 have h2:IntKind.u16.max=65535:=by decide
 simp only[Lit.wf,h1,h2,Bool.and_eq_true,decide_eq_true_eq]at h;exact h
theorem yRX{y:Int}(h:(Lit.int .u8 y).wf=true):0<=y/\y<=255:=by
 have h1:IntKind.u8.min=0:=by decide
 have h2:IntKind.u8.max=255:=by decide
 simp only[Lit.wf,h1,h2,Bool.and_eq_true,decide_eq_true_eq]at h;exact h
theorem yOH(l:List Con)(st:Int)(xp:List Int)(ll:l.length < lenMax)(hs:Ty.wf (.int .u16) st)(hx:Ty.wf (.arr 6 (.int .u8)) xp):zf_M l st xp=some (true,()):=
 yC4 l st xp ll (yPP hs) hx.1 λ y hy=>yRX (hx.2 y hy)
end Go.Tw
