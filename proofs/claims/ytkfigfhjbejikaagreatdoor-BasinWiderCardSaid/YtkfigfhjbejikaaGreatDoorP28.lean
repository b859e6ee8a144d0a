import Derived.Test.YtkfigfhjbejikaaGreatDoorP20
import Derived.Test.YtkfigfhjbejikaaGreatDoorP18
set_option linter.all false
set_option maxRecDepth 100000
open List (mem_map)
namespace Go.Tw
open Go.Vx Go.Vx.B Go.Proofs
theorem yR3{y:Int}(h:(Lit.int .u8 y).wf=true):0<=y/\y<=255:=by
 simp only[Lit.wf,Bool.and_eq_true,decide_eq_true_eq]at h;have e1:IntKind.min .u8=0:=by decide
 have e2:IntKind.max .u8=255:=by decide
 omega
def InI(x:Itv)(n:Int):Prop:=x.1<=n/\n<=x.2.1
def y32:List Itv->List Int->Prop
 |[],[]=>True
 |x::l,n::q=>InI x n/\y32 l q
 |_,_=>False
theorem y32.len:∀ {l:List Itv} {q:List Int},y32 l q->q.length=l.length
 |[],[],_=>rfl
 |x::l,n::q,h=>by simp[y32.len h.2]
 |[],_::_,h=>h.elim
 |_::_,[],h=>h.elim
theorem y32.app:∀ {l:List Itv} {q:List Int} {x:Itv} {n:Int},y32 l q->InI x n->y32 (l++[x]) (q++[n])
 |[],[],_,_,_,h=>⟨h,trivial⟩
 |_::l,_::q,_,_,h,h2=>⟨h.1,y32.app h.2 h2⟩
 |[],_::_,_,_,h,_=>h.elim
 |_::_,[],_,_,h,_=>h.elim
theorem y32.le:∀ {l:List Itv} {q:List Int},y32 l q->∀ i,gv (l.map (endI false)) i<=gv q i/\gv q i<=gv (l.map (endI true)) i
 |[],[],_,i=>by simp[gv]
 |x::l,n::q,h,0=>h.1
 |x::l,n::q,h,i+1=>y32.le h.2 i
 |[],_::_,h,_=>h.elim
 |_::_,[],h,_=>h.elim
theorem y32.mem:∀ {l:List Itv} {q:List Int},y32 l q->∀ n∈q,∃ x∈l,InI x n
 |[],[],_,n,hn=>by simp at hn
 |x::l,m::q,h,n,hn=>by
  rcases List.mem_cons.1 hn with rfl|hn
  ·exact ⟨x,by simp,h.1⟩
  ·obtain ⟨y,hy,hi⟩:=y32.mem h.2 n hn;exact ⟨y,by simp[hy],hi⟩
 |[],_::_,h,_,_=>h.elim
 |_::_,[],h,_,_=>h.elim
theorem y32.corn(up:Bool):∀ {l:List Itv},(∀ x∈l,x.1<=x.2.1)->y32 l (l.map (endI up))
 |[],_=>trivial
 |x::l,h=>⟨by have:=h x (by simp);cases up<;>(unfold InI endI;simp;omega),y32.corn up λ y hy=>h y (by simp[hy])⟩
structure RngOK (b:Bas) (r:Rng):Prop where
 tide:-1024<=r.1.1/\r.1.1<=r.1.2.1/\r.1.2.1<=1024
 len:r.2.2.1.length=b.1.length
 flow:∀ x∈r.2.2.1,0<=x.1/\x.1<=x.2.1/\x.2.1<=100000
theorem yEC{x:Itv}{lo hi:Int}(h:ckIv x lo hi=0):lo<=x.1/\x.1<=x.2.1/\x.2.1<=hi:=by
 obtain ⟨h1,h2⟩:=ya h;obtain ⟨h3,h4⟩:=ya h2;have g1:=y39 h1;have g2:=y39 h3;by_cases hh:x.1 > x.2.1
 ·rw[yA hh]at h4;cases h4
 ·omega
theorem y2Y{b:Bas}{r:Rng}(h:y2P b r=0):RngOK b r:=by
 obtain ⟨h1,h2⟩:=ya h;obtain ⟨_,h3⟩:=ya h2;exact ⟨yEC h1,yHQ h,λ x hx=>yEC (y07 h3 _ (mem_map.2 ⟨x,hx,rfl⟩))⟩
theorem yEm{b:Bas}{l:List Rng}(h:y4I b l=0):∀ r∈l,y2P b r=0:=by
 obtain ⟨_,h2⟩:=ya h;exact λ r hr=>y07 h2 _ (mem_map.2 ⟨r,hr,rfl⟩)
theorem y7L{n lo hi:Int}(h1:lo<=n)(h2:n<=hi):ckR n lo hi=0:=by unfold ckR;rw[if_neg (by omega)]
theorem y30:∀ {l:List Int},(∀ e∈l,e=0)->y0l l=0
 |[],_=>rfl
 |a::l,h=>by rw[yk,h a (by simp),y30 (λ e he=>h e (by simp[he]))];rfl
theorem yIq{b:Bas}{c:Cnd}(ht:-1024<=c.1/\c.1<=1024)(hl:c.2.2.1.length=b.1.length)(hf:∀ x∈c.2.2.1,0<=x/\x<=100000):yBF b c=0:=by
 unfold yBF;rw[y7L ht.1 ht.2,hl,y30 (by intro e he;obtain ⟨x,hx,rfl⟩:=mem_map.1 he;exact y7L (hf x hx).1 (hf x hx).2)]
 simp[yS]
structure InR (r:Rng) (c:Cnd):Prop where
 tide:InI r.1 c.1
 opn:c.2.1=r.2.1
 flow:y32 r.2.2.1 c.2.2.1
theorem InR.ok{b:Bas}{r:Rng}{c:Cnd}(h:InR r c)(hr:RngOK b r):yBF b c=0:=by
 have h1:=h.tide;have h2:=hr.tide;unfold InI at h1;refine yIq (by omega) (by rw[h.flow.len,hr.len]) λ n hn=>?_
 obtain ⟨x,hx,hi⟩:=h.flow.mem n hn;have:=hr.flow x hx;unfold InI at hi;omega
theorem InR.corn{b:Bas}{r:Rng}(hr:RngOK b r)(up:Bool):InR r (y2l up r):=
 ⟨by have:=hr.tide;cases up<;>(unfold InI y2l endI;simp;omega),rfl,y32.corn up λ x hx=>(hr.flow x hx).2.1⟩
def InRs:List Rng->List Cnd->Prop
 |[],[]=>True
 |r::l,c::q=>InR r c/\InRs l q
 |_,_=>False
theorem InRs.len:∀ {l:List Rng} {q:List Cnd},InRs l q->q.length=l.length
 |[],[],_=>rfl
 |x::l,n::q,h=>by simp[InRs.len h.2]
 |[],_::_,h=>h.elim
 |_::_,[],h=>h.elim
theorem InRs.corn{b:Bas}(up:Bool):∀ {l:List Rng},(∀ r∈l,RngOK b r)->InRs l (l.map (y2l up))
 |[],_=>trivial
 |r::l,h=>⟨InR.corn (h r (by simp)) up,InRs.corn up λ y hy=>h y (by simp[hy])⟩
theorem InRs.ok{b:Bas}:∀ {l:List Rng} {q:List Cnd},InRs l q->(∀ r∈l,RngOK b r)->∀ c∈q,yBF b c=0
 |[],[],_,_,c,hc=>by simp at hc
 |r::l,d::q,h,hr,c,hc=>by
  rcases List.mem_cons.1 hc with rfl|hc
  ·exact h.1.ok (hr r (by simp))
  ·exact InRs.ok h.2 (λ r h=>hr r (by simp[h])) c hc
 |[],_::_,h,_,_,_=>h.elim
 |_::_,[],h,_,_,_=>h.elim
theorem InRs.le:∀ {l:List Rng} {q:List Cnd},InRs l q->y5j (l.map (y2l false)) q/\y5j q (l.map (y2l true))
 |[],[],_=>⟨trivial,trivial⟩
 |r::l,c::q,h=>⟨⟨⟨h.1.tide.1,h.1.opn.symm,λ i=>(h.1.flow.le i).1⟩,(InRs.le h.2).1⟩,⟨⟨h.1.tide.2,h.1.opn,λ i=>(h.1.flow.le i).2⟩,(InRs.le h.2).2⟩⟩
 |[],_::_,h=>h.elim
 |_::_,[],h=>h.elim
structure VolsOK (b:Bas) (v:List Itv) (m:List Int):Prop where
 len:v.length=b.1.length
 inn:y32 v m
 rng:∀ x∈v,0<=x.1/\x.1<=x.2.1/\x.2.1<=100000000
theorem VolsOK.fit{b:Bas}{v:List Itv}{m:List Int}(h:VolsOK b v m):Fit b.1.length m:=
 yQj (by rw[h.inn.len,h.len]) λ n hn=>by
  obtain ⟨x,hx,hi⟩:=h.inn.mem n hn;have:=h.rng x hx;unfold InI at hi;omega
theorem VolsOK.corn{b:Bas}{v:List Itv}{m:List Int}(h:VolsOK b v m)(up:Bool):VolsOK b v (v.map (endI up)):=
 ⟨h.len,y32.corn up λ x hx=>(h.rng x hx).2.1,h.rng⟩
theorem VolsOK.ck{b:Bas}{v:List Itv}{m:List Int}(h:VolsOK b v m):y9t v b.1.length 100000000=0:=by
 unfold y9t;rw[h.len,y30 (by
  intro e he;obtain ⟨x,hx,rfl⟩:=mem_map.1 he;obtain ⟨h1,h2,h3⟩:=h.rng x hx;unfold ckIv;rw[y7L h1 (by omega),y7L (by omega) h3,yH (show ¬ x.1 > x.2.1 by omega)]
  rfl)]
 simp[yS]
theorem yFI{b:Bas}(hk0:y0D b=0){v:List Itv}{m:List Int}{l:List Rng}{q:List Cnd}(hv:VolsOK b v m)(hr:∀ r∈l,RngOK b r)(hq:InRs l q){hp:List (Cnd×List Int×List Int)}
  (hh:runD b (v.map (endI true)) (l.map (y2l true))=some hp):∃ ps,runD b m q=some ps/\y47 ps hp:=
 y6F (y02 hk0) (y36 hk0) hv.fit (hv.corn true).fit (λ c hc=>y1M (hq.ok hr c hc)) (λ c hc=>y1M ((InRs.corn (b:=b) true hr).ok hr c hc)) (λ i=>(hv.inn.le i).2) hq.le.2 hh
theorem y47.len:∀ {ps hp:List (Cnd×List Int×List Int)},y47 ps hp->ps.length=hp.length
 |[],[],_=>rfl
 |x::p,y::q,h=>by simp[y47.len h.2]
 |[],_::_,h=>h.elim
 |_::_,[],h=>h.elim
theorem y47.at:∀ {ps hp:List (Cnd×List Int×List Int)},y47 ps hp->∀ (i:Nat) x y,ps[i]?=some x->hp[i]?=some y->Le x.2.2 y.2.2
 |[],[],_,i,x,y,h,_=>by simp at h
 |a::p,c::q,h,0,x,y,h1,h2=>by cases h1;cases h2;exact h.1
 |a::p,c::q,h,i+1,x,y,h1,h2=>y47.at h.2 i x y (by simpa using h1) (by simpa using h2)
 |[],_::_,h,_,_,_,_,_=>h.elim
 |_::_,[],h,_,_,_,_,_=>h.elim
end Go.Tw
