import Derived.Test.YtkfigfhjbejikaaGreatDoorPC
set_option linter.all false
set_option maxRecDepth 100000
open List (length_map mem_map)
open Option (bind_some)
namespace Go.Tw
open Go.Vx Go.Vx.B Go.Proofs
def yC8(b:Bas)(v:List Itv)(l:List Rng):Int:=yQ (y0C b) (yQ (y9n v b.1.length 100000000) (y4j b l))
theorem yEJ(b:Bas)(v:List Itv)(l:List Rng)(hn:∀ n∈b.1,n.1.length < lenMax)(hv:v.length<=memMax)(hl:l.length<=memMax)(hr:∀ r∈l,r.2.2.1.length<=memMax):zR_M b v l=some (yC8 b v l,()):=by
 have hm:=y0h;have e0:yC8 b v l=bif y0C b != 0 then y0C b else yQ (y9n v b.1.length 100000000) (y4j b l):=by
  unfold yC8 yQ;cases (y0C b != 0)<;>rfl
 rw[e0];unfold zR_M zR_m;rw[yJE b hn];simp only[bind_some];cases (y0C b != 0)with
 |true=>rfl
 |false =>
  simp only[cond_false];rw[yFh v _ (λ x=>ckIv x 0 100000000) (λ e _=>by
   show zP_M e (λ x=>zO_M x.fst)=_
   unfold zP_M zP_m;rw[yJH e _ 0 100000000 (λ n=>by show some (zO n)=_;unfold zO;rw[y1g])]
   rfl) hv,yLl b l hl hr]
  simp only[bind_some,y1u];rw[y0z _ (by simp;omega)]
  simp only[bind_some];rw[y0z _ (by simp[lenMax])]
  simp only[bind_some,yh,y2b,y1Q];unfold y9n;rw[y6Q]
def y17(lo hi:List Int):List Itv:=List.zipWith (λ a b=>(a,b,())) lo hi
def yp(lo hi:List (List Int)):List (List Itv):=List.zipWith y17 lo hi
noncomputable def runC(b:Bas)(v:List Itv)(l:List Rng)(up:Bool):Option (List (Cnd×List Int×List Int)):=runD b (v.map (endI up)) (l.map (y2p up))
noncomputable def encD(b:Bas)(v:List Itv)(l:List Rng):List (List Itv)×Int×Unit:=
 match runC b v l true,runC b v l false with
 |some hp,some lp=>(yp (lp.map (·.2.2)) (hp.map (·.2.2)),0,())
 |_,_=>([],4,())
theorem yA5(H T:List Psg)(i n:Int)(r:List Int)(c0:List (List Itv))(x:Psg)(hH:idx H i=some x):∀ (lo q p:List Int) (t:Int) (s:List Itv),x.2.2.1.getD []=p++q->t=(p.length:Int)->q.length=lo.length->s.length+lo.length<=memMax ->
  yK (λ i__ e__ s__=>y9y H i T n i r c0 i__ e__ s__) (λ s__=>yAk H i T n i r c0 s__) t lo s=yAk H i T n i r c0 (s++y17 lo q)
 |[],[],p,t,s,_,_,_,_=>by rw[y3N];simp[y17]
 |a::lo,y::q,p,t,s,hp,ht,hl,hs=>by
  simp only[List.length_cons]at hs hl;have hbody:y9y H i T n i r c0 t a s=some (.inr (s++[(a,y,())])):=by
   unfold y9y;rw[hH];simp only[bind_some];rw[hp,y1A p y q t ht];simp only[bind_some];rw[bifT (yA (show s.length+1<=memMax by omega))]
  rw[ye,hbody];simp only[bind_some];rw[yA5 H T i n r c0 x hH lo q (p++[y]) (t+1) _ (by rw[hp];simp) (by simp[ht]) (by omega) (by simp;omega)]
  simp[y17]
 |[],_::_,_,_,_,_,_,h,_=>by simp at h
 |_::_,[],_,_,_,_,_,h,_=>by simp at h
theorem yAC(N:Nat)(hN:N<=8)(H T:List Psg):∀ (lp hp:List (Cnd×List Int×List Int)) (p:List Psg) (i:Int) (s:List (List Itv)),H=p++hp.map psg->i=(p.length:Int)->hp.length=lp.length->s.length+lp.length<=memMax ->
  (∀ x∈lp,x.2.2.length=N)->(∀ x∈hp,x.2.2.length=N) ->
  yK (λ i__ e__ s__=>yDa H T i__ e__ s__) (λ s__=>yKb H T s__) i (lp.map psg) s=some (s++yp (lp.map (·.2.2)) (hp.map (·.2.2)),0,())
 |[],[],p,i,s,_,_,_,_,_,_=>by
  show some (s,0,())=_
  simp[yp]
 |x::lp,y::hp,p,i,s,hH,hi,hl,hs,h1,h2=>by
  simp only[List.length_cons]at hs hl;have hmem:memMax=68719476736:=rfl;have hx:=h1 x (by simp)
  have hy:=h2 y (by simp)
  have hbody:yDa H T i (psg x) s=some (.inr (s++[y17 x.2.2 y.2.2])):=by
   unfold yDa;rw[show (psg x).snd.snd.fst.getD []=x.2.2 from rfl,bifT (yA (show x.2.2.length < lenMax by unfold lenMax;omega)),
    yA5 H T i _ _ s (psg y) (by rw[hH];exact y1A p (psg y) (hp.map psg) i hi) x.2.2 y.2.2 [] 0 [] rfl rfl (by omega) (by simp;omega)]
   unfold yAk;rw[bifT (yA (show s.length+1<=memMax by omega)),List.nil_append]
  rw[List.map_cons,ye,hbody];simp only[bind_some];rw[yAC N hN H T lp hp (p++[psg y]) (i+1) _ (by rw[hH];simp) (by simp[hi]) (by omega) (by simp;omega) (λ z hz=>h1 z (by simp[hz])) (λ z hz=>h2 z (by simp[hz]))]
  simp[yp]
 |[],_::_,_,_,_,_,_,h,_,_,_=>by simp at h
 |_::_,[],_,_,_,_,_,h,_,_,_=>by simp at h
theorem y3d{l:List Rng}{N:Nat}{up:Bool}(h:∀ r∈l,r.2.2.1.length=N):∀ c∈l.map (y2p up),c.2.2.1.length=N:=by
 intro c hc;obtain ⟨r,hr,rfl⟩:=mem_map.1 hc;show (r.2.2.1.map (endI up)).length=N
 rw[length_map];exact h r hr
theorem yNy(l:List Rng)(up:Bool)(hl:l.length<=memMax)(hr:∀ r∈l,r.2.2.1.length<=memMax) :
  (z6_M l λ (x:Rng×Unit)=>bif up then zc_M x.fst else ze_M x.fst)=some (l.map (y2p up),()):=
 yLp l _ (y2p up) (λ e he=>by
  cases up with
  |true =>
   show zc_M e=_
   unfold zc_M zc_m;rw[show (1:Int)=upI true from rfl,y8x e true (hr e he)]
   rfl
  |false =>
   show ze_M e=_
   unfold ze_M ze_m;rw[show (0:Int)=upI false from rfl,y8x e false (hr e he)]
   rfl) hl
structure EncOK (b:Bas) (v:List Itv) (l:List Rng):Prop where
 bas:BasOK b
 vols:v.length=b.1.length
 many:l.length<=96
 rngs:∀ r∈l,r.2.2.1.length=b.1.length
theorem EncOK.lens{b:Bas}{v:List Itv}{l:List Rng}(h:EncOK b v l):v.length<=memMax/\l.length<=memMax/\(∀ r∈l,r.2.2.1.length<=memMax)/\(∀ up,(v.map (endI up)).length=b.1.length)/\(∀ up,(l.map (y2p up)).length<=memMax):=by
 have hmem:memMax=68719476736:=rfl;have h8:=h.bas.nodes;have hv:=h.vols;have hl:=h.many;refine ⟨by omega,by omega,λ r hr=>by have:=h.rngs r hr;omega,λ up=>by simp[hv],λ up=>by simp;omega⟩
theorem y6i{b:Bas}{v:List Itv}{l:List Rng}(h:yC8 b v l=0):EncOK b v l:=by
 obtain ⟨h1,h2⟩:=yY h;obtain ⟨h3,h4⟩:=yY h2;obtain ⟨h5,h6⟩:=yY h3;obtain ⟨h7,h8⟩:=yY h4;have len:∀ {x y:Int},(bif x != y then (2:Int)else 0)=0->x=y:=by
  intro x y e;cases he:(x != y)with
  |true=>rw[he]at e;cases e
  |false=>simpa using he
 refine ⟨y00 h1,by have:=len h5;omega,?_,λ r hr=>?_⟩
 ·by_cases hh:(l.length:Int) > 96
  ·rw[yA hh]at h7;cases h7
  ·omega
 ·have h9:=y04 h8 _ (mem_map.2 ⟨r,hr,rfl⟩);obtain ⟨_,h10⟩:=yY h9;obtain ⟨h11,_⟩:=yY h10;have:=len h11;omega
theorem y5c(b:Bas)(v:List Itv)(l:List Rng)(hn:∀ n∈b.1,n.1.length < lenMax)(h0:yC8 b v l=0):y9f b v l=some (encD b v l):=by
 have hE:=y6i h0;have hmem:memMax=68719476736:=rfl;obtain ⟨g1,g2,g3,g4,g5⟩:=hE.lens;have h8:=hE.bas.nodes;have hh:=yNy l true g2 g3;have hlw:=yNy l false g2 g3;have hm96:=hE.many;simp only[cond_true,cond_false]at hh hlw;unfold y9f encD runC;rw[yEJ b v l hn g1 g2 g3,h0];simp only[bind_some];rw[bifF (show ((0:Int) != 0)=false from rfl),show (1:Int)=upI true from rfl,y7p v true g1,hh]
 simp only[bind_some];rw[yEO b hE.bas _ _ (g4 true) (y3d hE.rngs) (g5 true)];cases hr1:runD b (v.map (endI true)) (l.map (y2p true))with
 |none=>rfl
 |some hp =>
  simp only[bind_some];rw[bifF (show ((0:Int) != 0)=false from rfl),show (0:Int)=upI false from rfl,y7p v false g1,hlw]
  simp only[bind_some];rw[yEO b hE.bas _ _ (g4 false) (y3d hE.rngs) (g5 false)];cases hr2:runD b (v.map (endI false)) (l.map (y2p false))with
  |none=>rfl
  |some lp =>
   simp only[bind_some];obtain ⟨k1,k2⟩:=y4M hE.bas (g4 true) (y3d hE.rngs) hr1;obtain ⟨k3,k4⟩:=y4M hE.bas (g4 false) (y3d hE.rngs) hr2;rw[length_map]at k1 k3;rw[bifF (show ((0:Int) != upI false)=false from rfl),bifT (yA (show (lp.map psg).length < lenMax by simp[lenMax];omega))]
   exact yAC b.1.length h8 (hp.map psg) (lp.map psg) lp hp [] 0 [] rfl rfl (by omega) (by simp;omega) (λ x hx=>(k4 x hx).1) (λ x hx=>(k2 x hx).1)
noncomputable def wet(b:Bas)(w:List Int):Bool:=match yNi b w with|some (r,_)=>decide ((r.length:Int) > 0)|none=>false
noncomputable def y0m(b:Bas)(v:List Itv)(l:List Rng):Bool×Int×Unit:=
 match runC b v l true with
 |some ps=>(!(ps.any λ x=>wet b x.2.2),0,())
 |none=>(false,4,())
theorem yDS(b:Bas)(hb:BasOK b)(S:List (List Int))(f:List Int×Unit->Option (Bool×Unit))(hf:∀ w,f (w,())=zY_M w b):∀ (ps:List (List Int)) (i:Int),0<=i->(∀ x∈ps,x.length=b.1.length) ->
  ∃ k,yK (λ i__ e__ s__=>yIJ S f i__ e__) (λ s__=>yNx S f) i ps ()=some (k,())/\decide (k >= 0)=ps.any (wet b)
 |[],i,_,_=>⟨-1,rfl,rfl⟩
 |x::ps,i,hi,h=>by
  obtain ⟨r,r1,r2,r3⟩:=yHd b hb x (h x (by simp))
  have hw:wet b x=decide ((r.length:Int) > 0):=by unfold wet;rw[r2]
  have hbody:yIJ S f i x=bif wet b x then some (.inl (i,()))else some (.inr ()):=by
   unfold yIJ;rw[hf];unfold zY_M zY_m;rw[r1,hw];rfl
  rw[ye,hbody,List.any_cons];cases wet b x with
  |true=>exact ⟨i,rfl,by rw[yA hi];rfl⟩
  |false =>
   simp only[cond_false,bind_some,Bool.false_or];exact yDS b hb S f hf ps (i+1) (by omega) (λ y hy=>h y (by simp[hy]))
theorem yFq(b:Bas)(v:List Itv)(l:List Rng)(hE:EncOK b v l):zh_M b v l=some (y0m b v l):=by
 have hmem:memMax=68719476736:=rfl;obtain ⟨g1,g2,g3,g4,g5⟩:=hE.lens;have hm96:=hE.many;have hh:=yNy l true g2 g3;simp only[cond_true]at hh;unfold zh_M zh_m y0m runC;rw[show (1:Int)=upI true from rfl,y7p v true g1,hh]
 simp only[bind_some];rw[yEO b hE.bas _ _ (g4 true) (y3d hE.rngs) (g5 true)];cases hr:runD b (v.map (endI true)) (l.map (y2p true))with
 |none=>rfl
 |some ps =>
  obtain ⟨k1,k2⟩:=y4M hE.bas (g4 true) (y3d hE.rngs) hr;rw[length_map]at k1;simp only[bind_some];rw[bifF (show ((0:Int) != 0)=false from rfl),yGm ps (by omega)]
  simp only[bind_some];unfold zE_M zE_m zK_M;rw[bifT (yA (show (ps.map (·.2.2)).length < lenMax by simp[lenMax];omega))]
  obtain ⟨k,hk1,hk2⟩:=yDS b hE.bas (ps.map (·.2.2)) (λ x=>zY_M x.fst b) (λ w=>rfl) (ps.map (·.2.2)) 0 (by omega) (by
   intro x hx;obtain ⟨y,hy,rfl⟩:=mem_map.1 hx;exact (k2 y hy).1)
  rw[hk1];simp only[bind_some];rw[hk2,List.any_map];rfl
theorem yM6(b:Bas)(v:List Itv)(l:List Rng)(hn:∀ n∈b.1,n.1.length < lenMax)(h0:yC8 b v l=0):yIr b v l=some (y0m b v l):=by
 have hE:=y6i h0;obtain ⟨g1,g2,g3,g4,g5⟩:=hE.lens;unfold yIr yO2;rw[yEJ b v l hn g1 g2 g3,h0,yFq b v l hE];rfl
end Go.Tw
