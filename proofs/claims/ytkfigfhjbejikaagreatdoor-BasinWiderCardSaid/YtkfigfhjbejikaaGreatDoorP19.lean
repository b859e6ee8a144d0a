import Derived.Test.YtkfigfhjbejikaaGreatDoorPC
set_option linter.all false
set_option maxRecDepth 100000
open List (length_map mem_map)
open Option (bind_some)
namespace Go.Tw
open Go.Vx Go.Vx.B Go.Proofs
def yCC(b:Bas)(v:List Itv)(l:List Rng):Int:=yS (y0D b) (yS (y9t v b.1.length 100000000) (y4I b l))
theorem yEG(b:Bas)(v:List Itv)(l:List Rng)(hn:∀ n∈b.1,n.1.length < lenMax)(hv:v.length<=memMax)(hl:l.length<=memMax)(hr:∀ r∈l,r.2.2.1.length<=memMax):zR_M b v l=some (yCC b v l,()):=by
 have hm:=y0i;have e0:yCC b v l=bif y0D b != 0 then y0D b else yS (y9t v b.1.length 100000000) (y4I b l):=by
  unfold yCC yS;cases (y0D b != 0)<;>rfl
 rw[e0];unfold zR_M zR_m;rw[yJq b hn];simp only[bind_some];cases (y0D b != 0)with
 |true=>rfl
 |false =>
  simp only[cond_false];rw[yGb v _ (λ x=>ckIv x 0 100000000) (λ e _=>by
   show zP_M e (λ x=>zO_M x.fst)=_
   unfold zP_M zP_m;rw[yJc e _ 0 100000000 (λ n=>by show some (zO n)=_;unfold zO;rw[y1y])]
   rfl) hv,yMN b l hl hr]
  simp only[bind_some,y2E];rw[y12 _ (by simp;omega)]
  simp only[bind_some];rw[y12 _ (by simp[lenMax])]
  simp only[bind_some,yk,y2e,y1f];unfold y9t;rw[y5r]
def y1E(lo hi:List Int):List Itv:=List.zipWith (λ a b=>(a,b,())) lo hi
def yq(lo hi:List (List Int)):List (List Itv):=List.zipWith y1E lo hi
noncomputable def runC(b:Bas)(v:List Itv)(l:List Rng)(up:Bool):Option (List (Cnd×List Int×List Int)):=runD b (v.map (endI up)) (l.map (y2l up))
noncomputable def encD(b:Bas)(v:List Itv)(l:List Rng):List (List Itv)×Int×Unit:=
 match runC b v l true,runC b v l false with
 |some hp,some lp=>(yq (lp.map (·.2.2)) (hp.map (·.2.2)),0,())
 |_,_=>([],4,())
theorem yB6(H T:List Psg)(i n:Int)(r:List Int)(c0:List (List Itv))(x:Psg)(hH:idx H i=some x):∀ (lo q p:List Int) (t:Int) (s:List Itv),x.2.2.1.getD []=p++q->t=(p.length:Int)->q.length=lo.length->s.length+lo.length<=memMax ->
  yL (λ i__ e__ s__=>yAY H i T n i r c0 i__ e__ s__) (λ s__=>yAZ H i T n i r c0 s__) t lo s=yAZ H i T n i r c0 (s++y1E lo q)
 |[],[],p,t,s,_,_,_,_=>by rw[y3R];simp[y1E]
 |a::lo,y::q,p,t,s,hp,ht,hl,hs=>by
  simp only[List.length_cons]at hs hl;have hbody:yAY H i T n i r c0 t a s=some (.inr (s++[(a,y,())])):=by
   unfold yAY;rw[hH];simp only[bind_some];rw[hp,y1I p y q t ht];simp only[bind_some];rw[bifT (yA (show s.length+1<=memMax by omega))]
  rw[yg,hbody];simp only[bind_some];rw[yB6 H T i n r c0 x hH lo q (p++[y]) (t+1) _ (by rw[hp];simp) (by simp[ht]) (by omega) (by simp;omega)]
  simp[y1E]
 |[],_::_,_,_,_,_,_,h,_=>by simp at h
 |_::_,[],_,_,_,_,_,h,_=>by simp at h
theorem yAJ(N:Nat)(hN:N<=8)(H T:List Psg):∀ (lp hp:List (Cnd×List Int×List Int)) (p:List Psg) (i:Int) (s:List (List Itv)),H=p++hp.map psg->i=(p.length:Int)->hp.length=lp.length->s.length+lp.length<=memMax ->
  (∀ x∈lp,x.2.2.length=N)->(∀ x∈hp,x.2.2.length=N) ->
  yL (λ i__ e__ s__=>yDL H T i__ e__ s__) (λ s__=>yLK H T s__) i (lp.map psg) s=some (s++yq (lp.map (·.2.2)) (hp.map (·.2.2)),0,())
 |[],[],p,i,s,_,_,_,_,_,_=>by
  show some (s,0,())=_
  simp[yq]
 |x::lp,y::hp,p,i,s,hH,hi,hl,hs,h1,h2=>by
  simp only[List.length_cons]at hs hl;have hmem:memMax=68719476736:=rfl;have hx:=h1 x (by simp)
  have hy:=h2 y (by simp)
  have hbody:yDL H T i (psg x) s=some (.inr (s++[y1E x.2.2 y.2.2])):=by
   unfold yDL;rw[show (psg x).snd.snd.fst.getD []=x.2.2 from rfl,bifT (yA (show x.2.2.length < lenMax by unfold lenMax;omega)),
    yB6 H T i _ _ s (psg y) (by rw[hH];exact y1I p (psg y) (hp.map psg) i hi) x.2.2 y.2.2 [] 0 [] rfl rfl (by omega) (by simp;omega)]
   unfold yAZ;rw[bifT (yA (show s.length+1<=memMax by omega)),List.nil_append]
  rw[List.map_cons,yg,hbody];simp only[bind_some];rw[yAJ N hN H T lp hp (p++[psg y]) (i+1) _ (by rw[hH];simp) (by simp[hi]) (by omega) (by simp;omega) (λ z hz=>h1 z (by simp[hz])) (λ z hz=>h2 z (by simp[hz]))]
  simp[yq]
 |[],_::_,_,_,_,_,_,h,_,_,_=>by simp at h
 |_::_,[],_,_,_,_,_,h,_,_,_=>by simp at h
theorem y3i{l:List Rng}{N:Nat}{up:Bool}(h:∀ r∈l,r.2.2.1.length=N):∀ c∈l.map (y2l up),c.2.2.1.length=N:=by
 intro c hc;obtain ⟨r,hr,rfl⟩:=mem_map.1 hc;show (r.2.2.1.map (endI up)).length=N
 rw[length_map];exact h r hr
theorem yOR(l:List Rng)(up:Bool)(hl:l.length<=memMax)(hr:∀ r∈l,r.2.2.1.length<=memMax) :
  (z6_M l λ (x:Rng×Unit)=>bif up then zc_M x.fst else ze_M x.fst)=some (l.map (y2l up),()):=
 yLk l _ (y2l up) (λ e he=>by
  cases up with
  |true =>
   show zc_M e=_
   unfold zc_M zc_m;rw[show (1:Int)=upI true from rfl,y9V e true (hr e he)]
   rfl
  |false =>
   show ze_M e=_
   unfold ze_M ze_m;rw[show (0:Int)=upI false from rfl,y9V e false (hr e he)]
   rfl) hl
structure EncOK (b:Bas) (v:List Itv) (l:List Rng):Prop where
 bas:BasOK b
 vols:v.length=b.1.length
 many:l.length<=96
 rngs:∀ r∈l,r.2.2.1.length=b.1.length
theorem EncOK.lens{b:Bas}{v:List Itv}{l:List Rng}(h:EncOK b v l):v.length<=memMax/\l.length<=memMax/\(∀ r∈l,r.2.2.1.length<=memMax)/\(∀ up,(v.map (endI up)).length=b.1.length)/\(∀ up,(l.map (y2l up)).length<=memMax):=by
 have hmem:memMax=68719476736:=rfl;have h8:=h.bas.nodes;have hv:=h.vols;have hl:=h.many;refine ⟨by omega,by omega,λ r hr=>by have:=h.rngs r hr;omega,λ up=>by simp[hv],λ up=>by simp;omega⟩
theorem y6k{b:Bas}{v:List Itv}{l:List Rng}(h:yCC b v l=0):EncOK b v l:=by
 obtain ⟨h1,h2⟩:=ya h;obtain ⟨h3,h4⟩:=ya h2;obtain ⟨h5,h6⟩:=ya h3;obtain ⟨h7,h8⟩:=ya h4;have len:∀ {x y:Int},(bif x != y then (2:Int)else 0)=0->x=y:=by
  intro x y e;cases he:(x != y)with
  |true=>rw[he]at e;cases e
  |false=>simpa using he
 refine ⟨y02 h1,by have:=len h5;omega,?_,λ r hr=>?_⟩
 ·by_cases hh:(l.length:Int) > 96
  ·rw[yA hh]at h7;cases h7
  ·omega
 ·have h9:=y07 h8 _ (mem_map.2 ⟨r,hr,rfl⟩);obtain ⟨_,h10⟩:=ya h9;obtain ⟨h11,_⟩:=ya h10;have:=len h11;omega
theorem y5V(b:Bas)(v:List Itv)(l:List Rng)(hn:∀ n∈b.1,n.1.length < lenMax)(h0:yCC b v l=0):yA8 b v l=some (encD b v l):=by
 have hE:=y6k h0;have hmem:memMax=68719476736:=rfl;obtain ⟨g1,g2,g3,g4,g5⟩:=hE.lens;have h8:=hE.bas.nodes;have hh:=yOR l true g2 g3;have hlw:=yOR l false g2 g3;have hm96:=hE.many;simp only[cond_true,cond_false]at hh hlw;unfold yA8 encD runC;rw[yEG b v l hn g1 g2 g3,h0];simp only[bind_some];rw[bifF (show ((0:Int) != 0)=false from rfl),show (1:Int)=upI true from rfl,y8F v true g1,hh]
 simp only[bind_some];rw[yF0 b hE.bas _ _ (g4 true) (y3i hE.rngs) (g5 true)];cases hr1:runD b (v.map (endI true)) (l.map (y2l true))with
 |none=>rfl
 |some hp =>
  simp only[bind_some];rw[bifF (show ((0:Int) != 0)=false from rfl),show (0:Int)=upI false from rfl,y8F v false g1,hlw]
  simp only[bind_some];rw[yF0 b hE.bas _ _ (g4 false) (y3i hE.rngs) (g5 false)];cases hr2:runD b (v.map (endI false)) (l.map (y2l false))with
  |none=>rfl
  |some lp =>
   simp only[bind_some];obtain ⟨k1,k2⟩:=y4Q hE.bas (g4 true) (y3i hE.rngs) hr1;obtain ⟨k3,k4⟩:=y4Q hE.bas (g4 false) (y3i hE.rngs) hr2;rw[length_map]at k1 k3;rw[bifF (show ((0:Int) != upI false)=false from rfl),bifT (yA (show (lp.map psg).length < lenMax by simp[lenMax];omega))]
   exact yAJ b.1.length h8 (hp.map psg) (lp.map psg) lp hp [] 0 [] rfl rfl (by omega) (by simp;omega) (λ x hx=>(k4 x hx).1) (λ x hx=>(k2 x hx).1)
noncomputable def wet(b:Bas)(w:List Int):Bool:=match yOY b w with|some (r,_)=>decide ((r.length:Int) > 0)|none=>false
noncomputable def y0s(b:Bas)(v:List Itv)(l:List Rng):Bool×Int×Unit:=
 match runC b v l true with
 |some ps=>(!(ps.any λ x=>wet b x.2.2),0,())
 |none=>(false,4,())
theorem yE7(b:Bas)(hb:BasOK b)(S:List (List Int))(f:List Int×Unit->Option (Bool×Unit))(hf:∀ w,f (w,())=zY_M w b):∀ (ps:List (List Int)) (i:Int),0<=i->(∀ x∈ps,x.length=b.1.length) ->
  ∃ k,yL (λ i__ e__ s__=>yJs S f i__ e__) (λ s__=>yOO S f) i ps ()=some (k,())/\decide (k >= 0)=ps.any (wet b)
 |[],i,_,_=>⟨-1,rfl,rfl⟩
 |x::ps,i,hi,h=>by
  obtain ⟨r,r1,r2,r3⟩:=yH5 b hb x (h x (by simp))
  have hw:wet b x=decide ((r.length:Int) > 0):=by unfold wet;rw[r2]
  have hbody:yJs S f i x=bif wet b x then some (.inl (i,()))else some (.inr ()):=by
   unfold yJs;rw[hf];unfold zY_M zY_m;rw[r1,hw];rfl
  rw[yg,hbody,List.any_cons];cases wet b x with
  |true=>exact ⟨i,rfl,by rw[yA hi];rfl⟩
  |false =>
   simp only[cond_false,bind_some,Bool.false_or];exact yE7 b hb S f hf ps (i+1) (by omega) (λ y hy=>h y (by simp[hy]))
theorem yGv(b:Bas)(v:List Itv)(l:List Rng)(hE:EncOK b v l):zh_M b v l=some (y0s b v l):=by
 have hmem:memMax=68719476736:=rfl;obtain ⟨g1,g2,g3,g4,g5⟩:=hE.lens;have hm96:=hE.many;have hh:=yOR l true g2 g3;simp only[cond_true]at hh;unfold zh_M zh_m y0s runC;rw[show (1:Int)=upI true from rfl,y8F v true g1,hh]
 simp only[bind_some];rw[yF0 b hE.bas _ _ (g4 true) (y3i hE.rngs) (g5 true)];cases hr:runD b (v.map (endI true)) (l.map (y2l true))with
 |none=>rfl
 |some ps =>
  obtain ⟨k1,k2⟩:=y4Q hE.bas (g4 true) (y3i hE.rngs) hr;rw[length_map]at k1;simp only[bind_some];rw[bifF (show ((0:Int) != 0)=false from rfl),yH4 ps (by omega)]
  simp only[bind_some];unfold zE_M zE_m zK_M;rw[bifT (yA (show (ps.map (·.2.2)).length < lenMax by simp[lenMax];omega))]
  obtain ⟨k,hk1,hk2⟩:=yE7 b hE.bas (ps.map (·.2.2)) (λ x=>zY_M x.fst b) (λ w=>rfl) (ps.map (·.2.2)) 0 (by omega) (by
   intro x hx;obtain ⟨y,hy,rfl⟩:=mem_map.1 hx;exact (k2 y hy).1)
  rw[hk1];simp only[bind_some];rw[hk2,List.any_map];rfl
theorem yMO(b:Bas)(v:List Itv)(l:List Rng)(hn:∀ n∈b.1,n.1.length < lenMax)(h0:yCC b v l=0):yIm b v l=some (y0s b v l):=by
 have hE:=y6k h0;obtain ⟨g1,g2,g3,g4,g5⟩:=hE.lens;unfold yIm yOQ;rw[yEG b v l hn g1 g2 g3,h0,yGv b v l hE];rfl
end Go.Tw
