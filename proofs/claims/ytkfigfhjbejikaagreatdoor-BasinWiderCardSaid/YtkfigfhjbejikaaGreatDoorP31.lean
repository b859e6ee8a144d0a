import Derived.Test.YtkfigfhjbejikaaGreatDoorP28
import Derived.Test.YtkfigfhjbejikaaGreatDoorP27
import Derived.Test.YtkfigfhjbejikaaGreatDoorBG
set_option linter.all false
set_option maxRecDepth 100000
open List (getElem?_eq_getElem getElem?_zipWith getElem_mem map_drop map_map mem_map nil_append)
open Option (bind_some)
open Int (le_refl)
namespace Go.Tw
open Go.Vx Go.Vx.B Go.Proofs
theorem yOj(b:Bas)(l:List Rng)(hl:l.length < lenMax)(hr:∀ r∈l,r.2.2.1.length < lenMax):zg_M b l=some (yS (y0D b) (y4I b l),()):=by
 unfold zg_M zg_m yS;rw[yKV];simp only[bind_some];cases (y0D b != 0)with
 |true=>rfl
 |false =>
  simp only[cond_false];rw[if_neg (by simp),yME b l hl hr]
  rfl
theorem yGG{out:List Int}{i:Nat}(h:i < out.length):out[i]?=some (gv out i):=by
 unfold gv;simp[List.getD,getElem?_eq_getElem h]
theorem yAf{lo hi:List Int}{k:Nat}{u:Itv}(h:(y1E lo hi)[k]?=some u):u=(gv lo k,gv hi k,())/\k < lo.length/\k < hi.length:=by
 unfold y1E at h;rw[getElem?_zipWith]at h;by_cases h1:k < lo.length
 ·by_cases h2:k < hi.length
  ·rw[yGG h1,yGG h2]at h;simp only[Option.some.injEq]at h;exact ⟨h.symm,h1,h2⟩
  ·rw[List.getElem?_eq_none (l:=hi) (by omega)]at h
   cases h':lo[k]?<;>rw[h']at h<;>cases h
 ·rw[List.getElem?_eq_none (l:=lo) (by omega)]at h
  cases h
theorem y5f{lo hi:List Int}{N:Nat}(h1:lo.length=N)(h2:hi.length=N):(y1E lo hi).length=N:=by
 unfold y1E;simp;omega
theorem yJ2{lo hi:List Int}{N k:Nat}(h1:lo.length=N)(h2:hi.length=N)(hk:k < N):(y1E lo hi)[k]?=some (gv lo k,gv hi k,()):=by
 unfold y1E;rw[getElem?_zipWith,yGG (by omega),yGG (by omega)]
theorem yEv{lo hi:List Int}(h:lo.length=hi.length):(y1E lo hi).map (endI false)=lo/\(y1E lo hi).map (endI true)=hi:=by
 induction lo generalizing hi with
 |nil=>cases hi with
  |nil=>exact ⟨rfl,rfl⟩
  |cons=>simp at h
 |cons a lo ih=>cases hi with
  |nil=>simp at h
  |cons c hi =>
   obtain ⟨h1,h2⟩:=ih (hi:=hi) (by simpa using h)
   constructor
   ·show a::(y1E lo hi).map (endI false)=_;rw[h1]
   ·show c::(y1E lo hi).map (endI true)=_;rw[h2]
theorem yNY{b:Bas}{v:List Itv}(hl:v.length=b.1.length)(hr:∀ x∈v,0<=x.1/\x.1<=x.2.1/\x.2.1<=100000000):VolsOK b v (v.map (endI true)):=
 ⟨hl,y32.corn true λ x hx=>(hr x hx).2.1,hr⟩
theorem yKv{b:Bas}{lo hi:List Int}(h1:Fit b.1.length lo)(h2:Fit b.1.length hi)(hle:Le lo hi):VolsOK b (y1E lo hi) ((y1E lo hi).map (endI true)):=
 yNY (y5f h1.1 h2.1) λ x hx=>by
  obtain ⟨k,hk,rfl⟩:=List.getElem_of_mem hx;obtain ⟨e,_,_⟩:=yAf (getElem?_eq_getElem hk);rw[e];exact ⟨(h1.2 k).1,hle k,(h2.2 k).2⟩
theorem y6S{b:Bas}{v:List Itv}{m:List Int}{l:List Rng}(hk0:y0D b=0)(hv:VolsOK b v m)(hl:l.length<=96)(hck:∀ r∈l,y2P b r=0):yCC b v l=0:=by
 unfold yCC y4I;rw[hk0,hv.ck,yH (show ¬ (l.length:Int) > 96 by omega),y30 (by
  intro e he;obtain ⟨r,hr,rfl⟩:=mem_map.1 he;exact hck r hr)]
 rfl
theorem yGz{b:Bas}{v:List Itv}{l:List Rng}(h:runC b v l true=none):encD b v l=([],4,()):=by
 unfold encD;rw[h]
theorem yCG{b:Bas}(hk0:y0D b=0){v:List Itv}{m:List Int}{l:List Rng}(hv:VolsOK b v m)(hck:∀ r∈l,y2P b r=0){hp:List (Cnd×List Int×List Int)}(h:runC b v l true=some hp) :
  ∃ lp,runC b v l false=some lp/\y47 lp hp/\encD b v l=(yq (lp.map (·.2.2)) (hp.map (·.2.2)),0,()):=by
 have hro:∀ r∈l,RngOK b r:=λ r h=>y2Y (hck r h)
 obtain ⟨lp,h1,h2⟩:=yFI hk0 (hv.corn false) hro (InRs.corn (b:=b) false hro) h;refine ⟨lp,h1,h2,?_⟩;unfold encD;rw[h,show runC b v l false=some lp from h1]
theorem y5D{b:Bas}(hk0:y0D b=0){v:List Itv}{m:List Int}{l:List Rng}(hv:VolsOK b v m)(hck:∀ r∈l,y2P b r=0){up:Bool}{ps:List (Cnd×List Int×List Int)}(h:runC b v l up=some ps) :
  ps.length=l.length/\∀ x∈ps,Fit b.1.length x.2.2:=by
 have hb:=y02 hk0;have hro:∀ r∈l,RngOK b r:=λ r h=>y2Y (hck r h)
 have hc:=(InRs.corn (b:=b) up hro).ok hro;obtain ⟨k1,_⟩:=y4Q hb (hv.corn up).fit.1 (λ c h=>(y1M (hc c h)).len) h
 exact ⟨by simpa using k1,yFp hb (y36 hk0) (hv.corn up).fit (λ c h=>y1M (hc c h)) h⟩
def wT(d n:Int):Int:=if wr (n - wr d) > -1024 then wr (n - wr d)else -1024
def wI(d:Int)(x:Itv):Itv:=(x.1,(if wr (x.2.1+wr d) < 100000 then wr (x.2.1+wr d)else 100000),x.2.2)
def wd(d:Int)(r:Rng):Rng:=((wT d r.1.1,r.1.2),r.2.1,r.2.2.1.map (wI d),r.2.2.2)
theorem yQ8{d n:Int}(h0:0<=d)(h1:d<=255)(hn:-1024<=n)(hn2:n<=1024):-1024<=wT d n/\wT d n<=n:=by
 unfold wT;rw[ym (n:=d) (by omega) (by omega),ym (by omega) (by omega)]
 split<;>omega
theorem yOf{d:Int}{x:Itv}(h0:0<=d)(h1:d<=255)(hx:0<=x.1/\x.1<=x.2.1/\x.2.1<=100000):(wI d x).1=x.1/\x.2.1<=(wI d x).2.1/\(wI d x).2.1<=100000:=by
 unfold wI;rw[ym (n:=d) (by omega) (by omega),ym (by omega) (by omega)]
 refine ⟨rfl,?_,?_⟩<;>dsimp only<;>split<;>omega
theorem yPM{b:Bas}{r:Rng}(h:RngOK b r):y2P b r=0:=by
 have ht:=h.tide;unfold y2P y9t;rw[h.len,y30 (by
  intro e he;obtain ⟨x,hx,rfl⟩:=mem_map.1 he;obtain ⟨h1,h2,h3⟩:=h.flow x hx;unfold ckIv;rw[y7L h1 (by omega),y7L (by omega) h3,yH (show ¬ x.1 > x.2.1 by omega)]
  rfl)]
 unfold ckIv;rw[y7L ht.1 (by omega),y7L (by omega) ht.2.2,yH (show ¬ r.1.1 > r.1.2.1 by omega)]
 simp[yS]
theorem yRU{b:Bas}{r:Rng}{d:Int}(h0:0<=d)(h1:d<=255)(h:RngOK b r):RngOK b (wd d r):=by
 have ht:=h.tide;have hw:=yQ8 h0 h1 ht.1 (by omega)
 refine ⟨show -1024<=wT d r.1.1/\wT d r.1.1<=r.1.2.1/\r.1.2.1<=1024 by omega,by show (r.2.2.1.map _).length=_;rw[List.length_map,h.len],λ x hx=>?_⟩
 obtain ⟨y,hy,rfl⟩:=mem_map.1 (show x∈r.2.2.1.map (wI d)from hx)
 have hf:=h.flow y hy;obtain ⟨k1,k2,k3⟩:=yOf h0 h1 hf;omega
theorem yFL{f g:Itv->Int}:∀ (l:List Itv) (i:Nat),(∀ x∈l,f x<=g x)->gv (l.map f) i<=gv (l.map g) i
 |[],i,_=>by simp[gv]
 |x::l,0,h=>h x (by simp)
 |x::l,i+1,h=>yFL l i λ y hy=>h y (by simp[hy])
theorem yQV{b:Bas}{r:Rng}{d:Int}(h0:0<=d)(h1:d<=255)(h:RngOK b r):CLe (y2l false (wd d r)) (y2l false r):=by
 have ht:=h.tide;have hw:=yQ8 h0 h1 ht.1 (by omega)
 refine ⟨hw.2,rfl,λ i=>?_⟩
 show gv ((r.2.2.1.map (wI d)).map (endI false)) i<=gv (r.2.2.1.map (endI false)) i
 rw[map_map];exact yFL _ i λ x hx=>by
  have:=yOf h0 h1 (h.flow x hx);show (wI d x).1<=x.1
  omega
theorem yNl{b:Bas}{r:Rng}{d:Int}(h0:0<=d)(h1:d<=255)(h:RngOK b r):CLe (y2l true r) (y2l true (wd d r)):=by
 refine ⟨le_refl _,rfl,λ i=>?_⟩
 show gv (r.2.2.1.map (endI true)) i<=gv ((r.2.2.1.map (wI d)).map (endI true)) i
 rw[map_map];exact yFL _ i λ x hx=>by
  have:=yOf h0 h1 (h.flow x hx);show x.2.1<=(wI d x).2.1
  omega
theorem y9A{f g:Rng->Cnd}:∀ {l:List Rng},(∀ r∈l,CLe (f r) (g r))->y5j (l.map f) (l.map g)
 |[],_=>trivial
 |r::l,h=>⟨h r (by simp),y9A λ x hx=>h x (by simp[hx])⟩
section
variable (l:List Rng) (b:Bas) (p:List Int) (d:Int) (hp:idx p 1=some d)
include hp
theorem yJB(t58 t59 tn:Int)(V:List Itv)(P R:List Rng)(i:Int)(hi:i=(P.length:Int))(t:Itv)(o:Bool)(u:Unit):∀ (fr dn:List Itv) (k:Int),k=(dn.length:Int) ->
  y0I (λ i__ s__=>yAd l b p i t58 t59 tn V i__ s__) (λ s__=>yGj l b p i t58 t59 tn V s__) fr.length k (P++(t,o,dn++fr,u)::R)=some (.inr (P++(t,o,dn++fr.map (wI d),u)::R))
 |[],dn,k,_=>rfl
 |x::fr,dn,k,hk=>by
  have e1:∀ y,idx (P++y::R) i=some y:=λ y=>y1I P y R i hi
  have e2:∀ y,(P++y::R)[i.toNat]?=some y:=λ y=>y45 P y R i hi
  have e3:∀ y z,(P++y::R).set i.toNat z=P++z::R:=λ y z=>y41 P y z R i hi
  have e4:idx (dn++x::fr) k=some x:=y1I dn x fr k hk;have e5:(dn++x::fr)[k.toNat]?=some x:=y45 dn x fr k hk;have e6:∀ z,(dn++x::fr).set k.toNat z=dn++z::fr:=λ z=>y41 dn x z fr k hk
  have hbody:yAd l b p i t58 t59 tn V k (P++(t,o,dn++x::fr,u)::R)=some (.inr (P++(t,o,dn++wI d x::fr,u)::R)):=by
   unfold yAd;simp only[e1,e2,e3,e4,e5,e6,hp,bind_some];rfl
  show y0I _ _ (fr.length+1) k _=_
  unfold y0I;rw[hbody];have:=yJB t58 t59 tn V P R i hi t o u fr (dn++[wI d x]) (k+1) (by simp[hk])
  simpa using this
theorem yD6(t:Int)(V:List Itv):∀ (R P:List Rng) (i:Int),i=(P.length:Int)->(∀ r∈R,r.2.2.1.length<=8) ->
  y0I (λ i__ s__=>yEF l b p t V i__ s__) (λ s__=>yB9 l b p t V s__) R.length i (P++R)=yB9 l b p t V (P++R.map (wd d))
 |[],P,i,_,_=>rfl
 |r::R,P,i,hi,hr=>by
  have e1:∀ y,idx (P++y::R) i=some y:=λ y=>y1I P y R i hi
  have e2:∀ y,(P++y::R)[i.toNat]?=some y:=λ y=>y45 P y R i hi
  have e3:∀ y z,(P++y::R).set i.toNat z=P++z::R:=λ y z=>y41 P y z R i hi
  have h8:=hr r (by simp)
  have hbody:yEF l b p t V i (P++r::R)=some (.inr (P++wd d r::R)):=by
   unfold yEF;simp only[e1,e2,e3,hp,bind_some];rw[bifT (yA (show (r.2.2.1.length:Int)<=9223372036854775807 by omega)),show ((r.2.2.1.length:Int) - 0).toNat=r.2.2.1.length by omega]
   have:=yJB l b p d hp t i (r.2.2.1.length:Int) V P R i hi (wT d r.1.1,r.1.2) r.2.1 r.2.2.2 r.2.2.1 [] 0 rfl;exact this
  show y0I _ _ (R.length+1) i _=_
  unfold y0I;rw[hbody];have:=yD6 t V R (P++[wd d r]) (i+1) (by simp[hi]) (λ y hy=>hr y (by simp[hy]))
  simpa using this
end
theorem yLb{b:Bas}{l:List Rng}(k:Int)(h:∀ r∈l,y2P b r=0):∀ r∈clD k 0 l,y2P b r=0:=by
 have key:∀ (l:List Rng) (i:Int),(∀ r∈l,y2P b r=0)->∀ r∈clD k i l,y2P b r=0:=by
  intro l;induction l with
  |nil=>intro i _ r hr;simp[clD]at hr
  |cons x l ih =>
   intro i h r hr;rcases List.mem_cons.1 hr with rfl|hr
   ·exact h x (by simp)
   ·exact ih (i+1) (λ y hy=>h y (by simp[hy])) r hr
 exact key l 0 h
theorem yFt(b:Bas)(v:List Itv)(l:List Rng):(y0s b v l).2.1=0\/(y0s b v l).2.1=4:=by
 unfold y0s;cases runC b v l true with
 |none=>exact .inr rfl
 |some ps=>exact .inl rfl
theorem yGa(b:Bas)(v:List Itv)(l:List Rng):∀ m:Nat,(latD b v l m).2.1=4 \/
  ((latD b v l m).2.1=24/\∀ n:Nat,n < m->(y0s b v (clD n 0 l)).2.1=0/\(y0s b v (clD n 0 l)).1=false) \/
  ((latD b v l m).2.1=0/\∃ k:Nat,(latD b v l m).1=(k:Int)/\k < m/\(y0s b v (clD k 0 l)).1=true/\∀ n:Nat,k < n->n < m->(y0s b v (clD n 0 l)).1=false)
 |0=>.inr (.inl ⟨rfl,λ n h=>by omega⟩)
 |m+1=>by
  unfold latD;rcases yFt b v (clD m 0 l)with he|he
  ·rw[he,bifF (show ((0:Int) != 0)=false from rfl)]
   cases hs:(y0s b v (clD m 0 l)).1 with
   |true =>
    rw[cond_true];exact .inr (.inr ⟨rfl,m,rfl,by omega,hs,λ n h1 h2=>by omega⟩)
   |false =>
    rw[cond_false];rcases yGa b v l m with h|⟨h1,h2⟩|⟨h1,k,h2,h3,h4,h5⟩
    ·exact .inl h
    ·refine .inr (.inl ⟨h1,λ n hn=>?_⟩)
     by_cases hnm:n=m
     ·subst hnm;exact ⟨he,hs⟩
     ·exact h2 n (by omega)
    ·refine .inr (.inr ⟨h1,k,h2,by omega,h4,λ n hk hn=>?_⟩)
     by_cases hnm:n=m
     ·subst hnm;exact hs
     ·exact h5 n hk (by omega)
  ·rw[he,bifT (show ((4:Int) != 0)=true from rfl)]
   exact .inl rfl
section
variable (b:Bas) (V:List Itv) (M:List Int) (l:List Rng) (hk0:y0D b=0) (hn:∀ n∈b.1,n.1.length < lenMax) (hv:VolsOK b V M) (hl:l.length<=8) (hck:∀ r∈l,y2P b r=0) (k e4:Int)
include hk0 hn hv hl hck
theorem yGQ(n t1 t2 t3:Int):∀ (r p:List Rng) (i:Int),i=(p.length:Int) ->
  y0I (λ i__ s__=>y6h l b V k e4 n t1 t2 t3 i__ s__) (λ s__=>y5X l b V k e4 n t1 t2 t3 s__) r.length i (p++r)=y5X l b V k e4 n t1 t2 t3 (p++clD n i r)
 |[],p,i,_=>rfl
 |x::r,p,i,hi=>by
  have hbody:y6h l b V k e4 n t1 t2 t3 i (p++x::r)=some (.inr (p++(x.1,decide (i < n),x.2.2.1,())::r)):=by
   unfold y6h;rw[y1I p x r i hi];simp only[bind_some];rw[y45 p x r i hi];simp only[bind_some];rw[y41 p x _ r i hi]
  show y0I _ _ (r.length+1) i _=_
  unfold y0I;rw[hbody];have:=yGQ n t1 t2 t3 r (p++[(x.1,decide (i < n),x.2.2.1,())]) (i+1) (by simp[hi])
  simpa[clD]using this
theorem yKy(n t1 t2 t3:Int)
  (hs:(y0s b V (clD n 0 l)).2.1=0->(e4=0/\(n=k->(y0s b V (clD n 0 l)).1=true)/\(n > k->(y0s b V (clD n 0 l)).1=false))\/(e4=24/\(y0s b V (clD n 0 l)).1=false)) :
  y5X l b V k e4 n t1 t2 t3 (clD n 0 l)=some (.inr ()):=by
 have hmem:memMax=68719476736:=rfl;have hb:=y02 hk0;have h8:=hb.nodes;have h16:=hb.links;have hvl:=hv.len;unfold y5X;rw[y85 b (by omega) (by omega),y35 V (by omega)]
 simp only[bind_some];rw[yMO b V _ hn (y6S hk0 hv (by rw[y6y];omega) (yLb n hck))]
 simp only[bind_some];rcases yFt b V (clD n 0 l)with he|he
 ·rcases hs he with ⟨h1,h2,h3⟩|⟨h1,h2⟩
  ·rw[he,h1];by_cases hnk:n=k
   ·rw[h2 hnk,hnk];simp
   ·have hne:(n == k)=false:=by simpa using hnk
    by_cases hgt:n > k
    ·rw[h3 hgt];simp[hne]
    ·cases (y0s b V (clD n 0 l)).1<;>simp[hne,hgt]
  ·rw[he,h1,h2];simp
 ·rw[he];simp
theorem yLv(n t1 t2:Int)
  (hs:(y0s b V (clD n 0 l)).2.1=0->(e4=0/\(n=k->(y0s b V (clD n 0 l)).1=true)/\(n > k->(y0s b V (clD n 0 l)).1=false))\/(e4=24/\(y0s b V (clD n 0 l)).1=false)) :
  yL (λ i__ e__ s__=>y8g l l b V k e4 n t1 t2 i__ e__ s__) (λ s__=>y99 l l b V k e4 n t1 t2 s__) 0 l []=some (.inr ()):=by
 have hmem:memMax=68719476736:=rfl;have hb:=y02 hk0;have h8:=hb.nodes;rw[y0k (λ c=>c) l 0 [] (by simp;omega) (λ i e s he hsl=>by
  unfold y8g;rw[bifT (yA (show e.2.2.1.length<=memMax by have:=(y2Y (hck e he)).len;omega)),yA (show 0 < 1 by omega),yA hsl]
  rfl)]
 rw[List.map_id',nil_append];unfold y99;rw[bifT (yA (show ((l.length:Nat):Int)<=9223372036854775807 by omega)),show (((l.length:Nat):Int) - 0).toNat=l.length by omega]
 have:=yGQ b V M l hk0 hn hv hl hck k e4 n t1 t2 (l.length:Int) l [] 0 rfl;rw[nil_append,nil_append]at this;rw[this];exact yKy b V M l hk0 hn hv hl hck k e4 n t1 t2 _ hs
theorem yG4(t:Int)(hs:∀ n:Nat,n<=l.length->(y0s b V (clD n 0 l)).2.1=0->(e4=0/\((n:Int)=k->(y0s b V (clD n 0 l)).1=true)/\((n:Int) > k->(y0s b V (clD n 0 l)).1=false))\/(e4=24/\(y0s b V (clD n 0 l)).1=false)) :
  ∀ (m:Nat) (n:Nat),n+m=l.length+1->y0I (λ i__ s__=>y9Z l b V k e4 t i__) (λ s__=>y8a l b V k e4 t) m (n:Int) ()=some (true,())
 |0,n,_=>by
  show y8a l b V k e4 t=_
  unfold y8a;rw[y5C];rfl
 |m+1,n,hm=>by
  have hbody:y9Z l b V k e4 t (n:Int)=some (.inr ()):=by
   unfold y9Z;rw[bifT (yA (show l.length < lenMax by unfold lenMax;omega))]
   exact yLv b V M l hk0 hn hv hl hck k e4 n t n (hs n (by omega))
  unfold y0I;rw[hbody];have:=yG4 t hs m (n+1) (by omega)
  simpa using this
end
section
variable (b:Bas) (V:List Itv) (M:List Int) (l:List Rng) (hk0:y0D b=0) (hn:∀ n∈b.1,n.1.length < lenMax) (hv:VolsOK b V M) (hl:l.length<=8) (hck:∀ r∈l,y2P b r=0)
include hk0 hn hv hl hck
theorem yEK:y3j l b V=some (true,()):=by
 have hmem:memMax=68719476736:=rfl;have aw:(y2x.bind λ v6=>some (v6.1,()))=some (true,()):=by rw[y5C];rfl
 have hb:=y02 hk0;have h8:=hb.nodes;have h16:=hb.links;have hvl:=hv.len;have hrl:∀ r∈l,r.2.2.1.length<=memMax:=λ r h=>by have:=(y2Y (hck r h)).len;omega
 unfold y3j;rw[y85 b (by omega) (by omega),y35 V (by omega),y9b l (by omega) hrl]
 simp only[bind_some];rw[yHP b V l hn (y6S hk0 hv (by omega) hck)]
 simp only[bind_some];have fin:∀ k e4:Int,(∀ n:Nat,n<=l.length->(y0s b V (clD n 0 l)).2.1=0->(e4=0/\((n:Int)=k->(y0s b V (clD n 0 l)).1=true)/\((n:Int) > k->(y0s b V (clD n 0 l)).1=false))\/(e4=24/\(y0s b V (clD n 0 l)).1=false)) ->
   y22 l b V k e4=some (true,()):=λ k e4 hs=>by
  unfold y22;have ew:IntKind.i64.wrap ((l.length:Int)+1)=(l.length:Int)+1:=ym (by omega) (by omega)
  rw[ew,bifT (yA (show (l.length:Int)+1<=9223372036854775807 by omega)),show ((l.length:Int)+1 - 0).toNat=l.length+1 by omega]
  exact yG4 b V M l hk0 hn hv hl hck k e4 _ hs (l.length+1) 0 (by omega)
 rcases yGa b V l (l.length+1)with h|⟨h1,h2⟩|⟨h1,k,h2,h3,h4,h5⟩
 ·rw[h,bifT (show ((4:Int) == 4)=true from rfl)]
  exact aw
 ·have f:=fin (latD b V l (l.length+1)).1 24 (λ n hn he=>.inr ⟨rfl,(h2 n (by omega)).2⟩)
  have e:latD b V l (l.length+1)=((latD b V l (l.length+1)).1,24,()):=by
   rw[<- h1]
  rw[h1,bifF (show ((24:Int) == 4)=false from rfl),bifT (show ((24:Int) != 0)=true from rfl),bifF (show ((24:Int) != 24)=false from rfl),bifF (show ((24:Int) == 0)=false from rfl),e]
  exact f
 ·have f:=fin (k:Int) 0 (λ n hn he=>.inl ⟨rfl,λ e=>by
   have:n=k:=by omega
   rw[this];exact h4,λ g=>h5 n (by omega) (by omega)⟩)
  have e:latD b V l (l.length+1)=((k:Int),0,()):=by rw[<- h1,<- h2]
  rw[e];dsimp only;rw[bifF (show ((0:Int) == 4)=false from rfl),bifF (show ((0:Int) != 0)=false from rfl),bifT (show ((0:Int) == 0)=true from rfl),bifF (yH (show ¬ (k:Int) < 0 by omega)),bifF (yH (show ¬ (k:Int) > (l.length:Int) by omega))]
  exact f
theorem yHj{hp lp:List (Cnd×List Int×List Int)}(hh:runC b V l true=some hp)(hlo:runC b V l false=some lp)(hle:y47 lp hp)(n:Nat)(hnl:n < l.length) :
  ∃ x,(yq (lp.map (·.2.2)) (hp.map (·.2.2)))[n]?=some x/\VolsOK b x (x.map (endI true))/\encD b x (l.drop (n+1))=((yq (lp.map (·.2.2)) (hp.map (·.2.2))).drop (n+1),0,()):=by
 have hb:=y02 hk0;have he:=y36 hk0;have hro:∀ r∈l,RngOK b r:=λ r h=>y2Y (hck r h)
 have hcT:=(InRs.corn (b:=b) true hro).ok hro;have hcF:=(InRs.corn (b:=b) false hro).ok hro;obtain ⟨oh,a1,a2,a3⟩:=yAi hb he n _ _ hp hh (hv.corn true).fit (λ c h=>y1M (hcT c h)) (by simpa using hnl)
 obtain ⟨ol,c1,c2,c3⟩:=yAi hb he n _ _ lp hlo (hv.corn false).fit (λ c h=>y1M (hcF c h)) (by simpa using hnl)
 have hlh:Le ol oh:=by
  rw[List.getElem?_map,Option.map_eq_some_iff]at a1 c1;obtain ⟨y,y1,rfl⟩:=a1;obtain ⟨z,z1,rfl⟩:=c1;exact hle.at n z y z1 y1
 obtain ⟨m1,m2⟩:=yEv (lo:=ol) (hi:=oh) (by rw[a3.1,c3.1])
 refine ⟨y1E ol oh,?_,yKv c3 a3 hlh,?_⟩
 ·unfold yq;rw[getElem?_zipWith,c1,a1]
 ·rw[<- map_drop]at a2 c2;unfold encD runC;rw[m1,m2,a2,c2];unfold yq;rw[List.drop_zipWith,<- map_drop,<- map_drop]
theorem yLO{hp lp:List (Cnd×List Int×List Int)}(hh:runC b V l true=some hp)(hlo:runC b V l false=some lp)(hle:y47 lp hp)(p:List Int)(d:Int)(hpd:idx p 1=some d)(h0:0<=d)(h1:d<=255)(Y:List (List Itv)) :
  yAv l b p V (yq (lp.map (·.2.2)) (hp.map (·.2.2))) Y=some (true,()):=by
 have hmem:memMax=68719476736:=rfl;have hb:=y02 hk0;have h8:=hb.nodes;have h16:=hb.links;have hlat:=yEK b V M l hk0 hn hv hl hck;have hrl:∀ r∈l,r.2.2.1.length<=memMax:=λ r h=>by have:=(y2Y (hck r h)).len;omega
 obtain ⟨k1,k2⟩:=y5D hk0 hv hck hh;obtain ⟨k3,k4⟩:=y5D hk0 hv hck hlo;have hX:(yq (lp.map (·.2.2)) (hp.map (·.2.2))).length=l.length:=by simp[yq];omega
 unfold yAv;by_cases hl0:l.length=0
 ·rw[bifF (yH (show ¬ (l.length:Int) > 0 by omega))]
  exact hlat
 ·rw[bifT (yA (show (l.length:Int) > 0 by omega)),hpd]
  simp only[bind_some];rw[bifF (show ((l.length:Int) == 0)=false by simpa using hl0),y85 b (by omega) (by omega)]
  simp only[bind_some];show ((idx (yq (lp.map (·.2.2)) (hp.map (·.2.2))) ((wr d).tmod (l.length:Int))).bind _)=_
  have hm:0<=(wr d).tmod (l.length:Int)/\(wr d).tmod (l.length:Int) < l.length:=by
   rw[ym (by omega) (by omega),Int.tmod_eq_emod_of_nonneg h0]
   exact ⟨Int.emod_nonneg _ (by omega),Int.emod_lt_of_pos _ (by omega)⟩
  obtain ⟨n,hn'⟩:∃ n:Nat,(wr d).tmod (l.length:Int)=(n:Int):=⟨((wr d).tmod (l.length:Int)).toNat,by omega⟩
  have hd:(IntKind.i64.wrap d).tmod (l.length:Int)=(n:Int):=hn';rw[hn']at hm;obtain ⟨x,x1,x2,x3⟩:=yHj b V M l hk0 hn hv hl hck hh hlo hle n (by omega)
  have hxl:=x2.len;have ew:IntKind.i64.wrap ((n:Int)+1)=(n:Int)+1:=ym (by omega) (by omega)
  rw[hn',ew,show idx (yq (lp.map (·.2.2)) (hp.map (·.2.2))) (n:Int)=some x by unfold idx;rw[if_pos (by omega)];exact x1]
  simp only[bind_some];rw[y35 x (by omega)]
  simp only[bind_some];rw[bifT (by rw[yA (show (0:Int)<=(n:Int)+1 by omega),yA (show (n:Int)+1<=(l.length:Int) by omega)];rfl),show ((n:Int)+1).toNat=n+1 by omega,
   y9b (l.drop (n+1)) (by simp;omega) (λ r h=>hrl r (List.mem_of_mem_drop h))]
  simp only[bind_some];rw[y5V b x _ hn (y6S hk0 x2 (by simp;omega) λ r h=>hck r (List.mem_of_mem_drop h)),x3]
  simp only[bind_some];rw[bifF (show ((0:Int) != 0)=false from rfl),bifT (by rw[yA (show (0:Int)<=(n:Int)+1 by omega),yA (show (n:Int)+1<=((yq (lp.map (·.2.2)) (hp.map (·.2.2))).length:Int) by omega)];rfl),
   yEZ _ (by unfold lenMax;simp;omega) (λ r h=>by
    have:=y9a (N:=b.1.length) _ (hp.map (·.2.2)) (λ y hy=>by
     obtain ⟨z,hz,rfl⟩:=mem_map.1 hy;exact Nat.le_of_eq (k4 z hz).1) r (List.mem_of_mem_drop h)
    omega)]
  simp only[bind_some,Bool.not_true,cond_false];exact hlat
end
section
variable (l:List Rng) (b:Bas) (p:List Int) (V:List Itv) (X Y:List (List Itv))
def InW(u w:Itv):Prop:=0<=u.1/\u.2.1<=100000000/\u.1<=u.2.1/\w.1<=u.1/\u.2.1<=w.2.1
theorem yAo(i t1 t2:Int)(x y:List Itv)(hx:idx X i=some x)(hy:idx Y i=some y)(hxy:∀ (k:Nat) u,x[k]?=some u->∃ w,y[k]?=some w/\InW u w):∀ (m:Nat) (k:Nat),k+m=x.length ->
  y0I (λ j__ s__=>yAK l b p V X Y i t1 t2 (x.length:Int) j__) (λ s__=>yFu l b p V X Y i t1 t2 (x.length:Int)) m (k:Int) ()=some (.inr ())
 |0,k,_=>rfl
 |m+1,k,hm=>by
  have hk:k < x.length:=by omega
  have e1:idx x (k:Int)=some x[k]:=by unfold idx;rw[if_pos (by omega)];exact getElem?_eq_getElem hk
  obtain ⟨w,w1,h1,h2,h3,h4,h5⟩:=hxy k x[k] (getElem?_eq_getElem hk);have e2:idx y (k:Int)=some w:=by unfold idx;rw[if_pos (by omega)];exact w1
  have hbody:yAK l b p V X Y i t1 t2 (x.length:Int) (k:Int)=some (.inr ()):=by
   unfold yAK;simp only[hx,hy,e1,e2,bind_some];rw[bifF (yH (by omega)),bifF (yH (by omega)),bifF (yH (by omega)),bifF (yH (by omega)),bifF (yH (by omega))]
  unfold y0I;rw[hbody];have:=yAo i t1 t2 x y hx hy hxy m (k+1) (by omega)
  simpa using this
theorem yIe(h8:b.1.length<=8)(hXY:∀ (i:Nat) x,X[i]?=some x->∃ y,Y[i]?=some y/\x.length=b.1.length/\y.length=b.1.length/\∀ (k:Nat) u,x[k]?=some u->∃ w,y[k]?=some w/\InW u w) :
  yL (λ i__ e__ s__=>yGI l b p V X Y i__ e__) (λ s__=>yAv l b p V X Y) 0 X ()=yAv l b p V X Y:=
 y6w X (λ q x r e=>by
  have hx:X[q.length]?=some x:=by rw[e];simp
  obtain ⟨y,y1,y2,y3,y4⟩:=hXY q.length x hx;have hix:idx X (q.length:Int)=some x:=by unfold idx;rw[if_pos (by omega)];exact hx
  have hiy:idx Y (q.length:Int)=some y:=by unfold idx;rw[if_pos (by omega)];exact y1
  unfold yGI;rw[bifF (show ((x.length:Int) != (b.1.length:Int))=false by simp[y2]),hiy]
  simp only[bind_some];rw[bifF (show ((y.length:Int) != (b.1.length:Int))=false by simp[y3]),hix]
  simp only[bind_some];rw[bifT (yA (show (x.length:Int)<=9223372036854775807 by omega)),show ((x.length:Int) - 0).toNat=x.length by omega]
  exact yAo l b p V X Y _ _ _ x y hix hiy y4 x.length 0 (by omega)) X [] 0 rfl rfl
end
section
variable (b:Bas) (V:List Itv) (M:List Int) (l:List Rng) (hk0:y0D b=0) (hn:∀ n∈b.1,n.1.length < lenMax) (hv:VolsOK b V M) (hl:l.length<=8) (hck:∀ r∈l,y2P b r=0) (p:List Int) (d:Int) (hpd:idx p 1=some d) (h0:0<=d) (h1:d<=255)
include hk0 hn hv hl hck hpd h0 h1
theorem yLV(t:Int):yB9 l b p t V (l.map (wd d))=some (true,()):=by
 have hmem:memMax=68719476736:=rfl;have aw:(y2x.bind λ v6=>some (v6.1,()))=some (true,()):=by rw[y5C];rfl
 have hb:=y02 hk0;have he:=y36 hk0;have h8:=hb.nodes;have h16:=hb.links;have hvl:=hv.len;have hro:∀ r∈l,RngOK b r:=λ r h=>y2Y (hck r h)
 have hrl:∀ r∈l,r.2.2.1.length<=memMax:=λ r h=>by have:=(hro r h).len;omega
 have hrw:∀ r∈l.map (wd d),RngOK b r:=λ r h=>by
  obtain ⟨x,hx,rfl⟩:=mem_map.1 h;exact yRU h0 h1 (hro x hx)
 have hcw:∀ r∈l.map (wd d),y2P b r=0:=λ r h=>yPM (hrw r h)
 have cT:=(InRs.corn (b:=b) true hro).ok hro;have cF:=(InRs.corn (b:=b) false hro).ok hro;have wT:=(InRs.corn (b:=b) true hrw).ok hrw;have wF:=(InRs.corn (b:=b) false hrw).ok hrw;have leT:y5j (l.map (y2l true)) ((l.map (wd d)).map (y2l true)):=by rw[map_map];exact y9A λ r h=>yNl h0 h1 (hro r h)
 have leF:y5j ((l.map (wd d)).map (y2l false)) (l.map (y2l false)):=by rw[map_map];exact y9A λ r h=>yQV h0 h1 (hro r h)
 unfold yB9;rw[y85 b (by omega) (by omega),y35 V (by omega),y9b l (by omega) hrl]
 simp only[bind_some];rw[y5V b V l hn (y6S hk0 hv (by omega) hck),y5V b V (l.map (wd d)) hn (y6S hk0 hv (by simp;omega) hcw)]
 simp only[bind_some];cases hy:runC b V (l.map (wd d)) true with
 |none =>
  rw[yGz hy];cases hx:runC b V l true with
  |none =>
   rw[yGz hx];show y6O l b p V ([],4,()) ([],4,()) true=_
   unfold y6O;exact aw
  |some hp =>
   obtain ⟨lp,_,_,e1⟩:=yCG hk0 hv hck hx;rw[e1];show y6O l b p V (yq (lp.map (·.2.2)) (hp.map (·.2.2)),0,()) ([],4,()) true=_
   unfold y6O;exact aw
 |some hq =>
  obtain ⟨hp,hx,hle1⟩:=y6F hb he (hv.corn true).fit (hv.corn true).fit (λ c h=>y1M (cT c h)) (λ c h=>y1M (wT c h)) (λ _=>le_refl _) leT hy
  have hx:runC b V l true=some hp:=hx;obtain ⟨lp,g1,g2,g3⟩:=yCG hk0 hv hck hx;obtain ⟨lq,q1,q2,q3⟩:=yCG hk0 hv hcw hy;obtain ⟨lq',q1',hle2⟩:=y6F hb he (hv.corn false).fit (hv.corn false).fit (λ c h=>y1M (wF c h)) (λ c h=>y1M (cF c h)) (λ _=>le_refl _) leF g1
  have eq:lq'=lq:=Option.some.inj (q1'.symm.trans q1);subst eq;obtain ⟨k1,k2⟩:=y5D hk0 hv hck hx;obtain ⟨k3,k4⟩:=y5D hk0 hv hck g1;obtain ⟨k5,k6⟩:=y5D hk0 hv hcw hy;obtain ⟨k7,k8⟩:=y5D hk0 hv hcw q1;rw[List.length_map]at k5 k7;rw[g3,q3];show y6O l b p V (yq (lp.map (·.2.2)) (hp.map (·.2.2)),0,()) (yq (lq'.map (·.2.2)) (hq.map (·.2.2)),0,()) false=_
  unfold y6O;rw[cond_false];show y4x l b p V (yq (lp.map (·.2.2)) (hp.map (·.2.2))) (yq (lq'.map (·.2.2)) (hq.map (·.2.2)))=_
  unfold y4x;have hX:(yq (lp.map (·.2.2)) (hp.map (·.2.2))).length=l.length:=by simp[yq];omega
  have hY:(yq (lq'.map (·.2.2)) (hq.map (·.2.2))).length=l.length:=by simp[yq];omega
  rw[bifF (by simp[hX]),bifF (by simp[hY]),bifT (yA (show (yq (lp.map (·.2.2)) (hp.map (·.2.2))).length < lenMax by unfold lenMax;omega)),
   yIe l b p V _ _ h8 (λ i x hxi=>by
    unfold yq at hxi;rw[getElem?_zipWith]at hxi;have hi:i < l.length:=by
     by_cases hi:i < l.length
     ·exact hi
     ·rw[List.getElem?_eq_none (l:=lp.map (·.2.2)) (by simp;omega)]at hxi
      cases hxi
    have a1:(lp.map (·.2.2))[i]?=some (lp[i]'(by omega)).2.2:=by simp[getElem?_eq_getElem (show i < lp.length by omega)]
    have a2:(hp.map (·.2.2))[i]?=some (hp[i]'(by omega)).2.2:=by simp[getElem?_eq_getElem (show i < hp.length by omega)]
    have a3:(lq'.map (·.2.2))[i]?=some (lq'[i]'(by omega)).2.2:=by simp[getElem?_eq_getElem (show i < lq'.length by omega)]
    have a4:(hq.map (·.2.2))[i]?=some (hq[i]'(by omega)).2.2:=by simp[getElem?_eq_getElem (show i < hq.length by omega)]
    rw[a1,a2]at hxi;have f1:=k4 (lp[i]'(by omega)) (getElem_mem _)
    have f2:=k2 (hp[i]'(by omega)) (getElem_mem _)
    have f3:=k8 (lq'[i]'(by omega)) (getElem_mem _)
    have f4:=k6 (hq[i]'(by omega)) (getElem_mem _)
    have g1:=g2.at i _ _ (getElem?_eq_getElem (show i < lp.length by omega)) (getElem?_eq_getElem (show i < hp.length by omega))
    have g2:=hle1.at i _ _ (getElem?_eq_getElem (show i < hp.length by omega)) (getElem?_eq_getElem (show i < hq.length by omega))
    have g3:=hle2.at i _ _ (getElem?_eq_getElem (show i < lq'.length by omega)) (getElem?_eq_getElem (show i < lp.length by omega))
    generalize (lp[i]'(by omega)).2.2=lo at *
    generalize (hp[i]'(by omega)).2.2=hi' at *
    generalize (lq'[i]'(by omega)).2.2=lo2 at *
    generalize (hq[i]'(by omega)).2.2=hi2 at *
    have hxe:y1E lo hi'=x:=Option.some.inj hxi;subst hxe;refine ⟨y1E lo2 hi2,by unfold yq;rw[getElem?_zipWith,a3,a4],y5f f1.1 f2.1,y5f f3.1 f4.1,λ k u hu=>?_⟩
    obtain ⟨u1,u2,u3⟩:=yAf hu;refine ⟨_,yJ2 f3.1 f4.1 (show k < b.1.length by rw[<- f1.1];exact u2),?_⟩
    rw[u1];exact ⟨(f1.2 k).1,(f2.2 k).2,g1 k,g3 k,g2 k⟩)]
  exact yLO b V M l hk0 hn hv hl hck hx g1 g2 p d hpd h0 h1 _
end
theorem yDn(l:List Rng)(b:Bas)(p:List Int)(c t:Int)(hpc:idx p 0=some c)(h0:0<=c)(h1:c<=255):∀ (m:Nat) (i:Int) (s:List Itv),s.length+m<=8->(∀ x∈s,0<=x.1/\x.1<=x.2.1/\x.2.1<=100000000) ->
  ∃ v,y0I (λ i__ s__=>yLW l b p t i__ s__) (λ s__=>yH0 l b p t s__) m i s=yH0 l b p t v/\v.length=s.length+m/\∀ x∈v,0<=x.1/\x.1<=x.2.1/\x.2.1<=100000000
 |0,i,s,_,hs=>⟨s,rfl,rfl,hs⟩
 |m+1,i,s,hm,hs=>by
  have hmem:memMax=68719476736:=rfl;have hbody:yLW l b p t i s=some (.inr (s++[(0,c,())])):=by
   unfold yLW;rw[hpc];simp only[bind_some];rw[bifT (yA (show s.length+1<=memMax by omega)),show IntKind.i64.wrap c=c from ym (by omega) (by omega)]
  obtain ⟨v,r1,r2,r3⟩:=yDn l b p c t hpc h0 h1 m (i+1) (s++[(0,c,())]) (by simp;omega) (λ x hx=>by
   rcases List.mem_append.1 hx with hx|hx
   ·exact hs x hx
   ·simp only[List.mem_singleton]at hx;subst hx;show 0<=(0:Int)/\0<=c/\c<=100000000
    omega)
  refine ⟨v,?_,by rw[r2];simp;omega,r3⟩
  unfold y0I;rw[hbody];exact r1
theorem yO2(l:List Rng)(b:Bas)(p:List Int)(t:Int)(V:List Itv)(hk0:y0D b=0)(hn:∀ n∈b.1,n.1.length < lenMax)(hv:VolsOK b V (V.map (endI true)))(hl:l.length<=8)(hck:∀ r∈l,y2P b r=0)(d:Int)(hpd:idx p 1=some d)(h0:0<=d)(h1:d<=255) :
  yH0 l b p t V=some (true,()):=by
 have hmem:memMax=68719476736:=rfl;have hb:=y02 hk0;have h8:=hb.nodes;unfold yH0;rw[bifT (yA (show l.length < lenMax by unfold lenMax;omega)),y0k (λ c=>c) l 0 [] (by simp;omega) (λ i e s he hsl=>by
  unfold yKP;rw[bifT (yA (show e.2.2.1.length<=memMax by have:=(y2Y (hck e he)).len;omega)),yA (show 0 < 1 by omega),yA hsl]
  rfl)]
 rw[List.map_id',nil_append];unfold yJe;rw[bifT (yA (show ((l.length:Nat):Int)<=9223372036854775807 by omega)),show (((l.length:Nat):Int) - 0).toNat=l.length by omega]
 have:=yD6 l b p d hpd (l.length:Int) V l [] 0 rfl (λ r hr=>by have:=(y2Y (hck r hr)).len;omega)
 rw[nil_append,nil_append]at this;rw[this];exact yLV b V _ l hk0 hn hv hl hck p d hpd h0 h1 _
structure TwoOK (p:List Int):Prop where
 len:p.length=2
 byte:∀ x∈p,0<=x/\x<=255
theorem yLg(b:Bas)(l:List Rng)(p:List Int)(hp:TwoOK p)(hlr:∀ r∈l,r.2.2.1.length < lenMax):zn_M b l p=some (true,()):=by
 have hmem:memMax=68719476736:=rfl;have aw:(y2x.bind λ v6=>some (v6.1,()))=some (true,()):=by rw[y5C];rfl
 unfold zn_M;obtain ⟨s,hs,hs2⟩:=yMr b;rw[hs];simp only[bind_some];cases s with
 |false=>exact aw
 |true =>
  obtain ⟨h9,h17,h60⟩:=hs2 rfl;simp only[Bool.not_true,cond_false];by_cases hl:l.length<=8
  ·rw[bifF (yH (show ¬ (l.length:Int) > 8 by omega)),yOj b l (by unfold lenMax;omega) hlr]
   simp only[bind_some];by_cases h0:yS (y0D b) (y4I b l)=0
   ·rw[h0,bifF (show ((0:Int) != 0)=false from rfl)]
    obtain ⟨hk0,hk1⟩:=ya h0;have hb:=y02 hk0;have h8:=hb.nodes;have hn:∀ n∈b.1,n.1.length < lenMax:=λ n hn=>by have:=h60 n hn;unfold lenMax;omega
    have hlen:=hp.len;have e0:idx p 0=some p[0]:=by unfold idx;rw[if_pos (by omega)];exact getElem?_eq_getElem (by omega)
    have e1:idx p 1=some p[1]:=by unfold idx;rw[if_pos (by omega)];exact getElem?_eq_getElem (by omega)
    have b0:=hp.byte p[0] (getElem_mem _);have b1:=hp.byte p[1] (getElem_mem _);obtain ⟨V,r1,r2,r3⟩:=yDn l b p p[0] (b.1.length:Int) e0 b0.1 b0.2 b.1.length 0 [] (by simp;omega) (by simp)
    rw[bifT (yA (show (b.1.length:Int)<=9223372036854775807 by omega)),show ((b.1.length:Int) - 0).toNat=b.1.length by omega,r1]
    exact yO2 l b p _ V hk0 hn (yNY (by simpa using r2) r3) hl (yEm hk1) p[1] e1 b1.1 b1.2
   ·rw[bifT (show (yS (y0D b) (y4I b l) != 0)=true by simpa using h0)]
    exact aw
  ·rw[bifT (yA (show (l.length:Int) > 8 by omega))]
   exact aw
end Go.Tw
