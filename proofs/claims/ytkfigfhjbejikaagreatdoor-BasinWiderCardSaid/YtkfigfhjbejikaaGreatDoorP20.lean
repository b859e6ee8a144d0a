import Derived.Test.YtkfigfhjbejikaaGreatDoorP19
import Derived.Test.YtkfigfhjbejikaaGreatDoorPC
import Derived.Test.YtkfigfhjbejikaaGreatDoorB24
import Derived.Test.YtkfigfhjbejikaaGreatDoorB25
set_option linter.all false
set_option maxRecDepth 100000
open Option (bind_some)
namespace Go.Tw
open Go.Vx Go.Vx.B Go.Proofs
def clD(k:Int):Int->List Rng->List Rng
 |_,[]=>[]
 |i,r::l=>(r.1,decide (i < k),r.2.2.1,())::clD k (i+1) l
theorem y6y(k:Int):∀ (l:List Rng) (i:Int),(clD k i l).length=l.length
 |[],_=>rfl
 |r::l,i=>by simp[clD,y6y k l]
theorem yK2(k:Int){N:Nat}:∀ (l:List Rng) (i:Int),(∀ r∈l,r.2.2.1.length=N)->∀ r∈clD k i l,r.2.2.1.length=N
 |[],_,_=>by simp[clD]
 |r::l,i,h=>by
  intro x hx;rcases List.mem_cons.1 hx with rfl|hx
  ·exact h r (by simp)
  ·exact yK2 k l (i+1) (λ y hy=>h y (by simp[hy])) x hx
theorem EncOK.closed{b:Bas}{v:List Itv}{l:List Rng}(h:EncOK b v l)(k:Int):EncOK b v (clD k 0 l):=
 ⟨h.bas,h.vols,by rw[y6y];exact h.many,yK2 k l 0 h.rngs⟩
noncomputable def latD(b:Bas)(v:List Itv)(l:List Rng):Nat->Int×Int×Unit
 |0=>(0,24,())
 |m+1=>bif (y0s b v (clD m 0 l)).2.1 != 0 then (0,(y0s b v (clD m 0 l)).2.1,())else bif (y0s b v (clD m 0 l)).1 then ((m:Int),0,())else latD b v l m
theorem yE9{b:Bas}{v:List Itv}{l:List Rng}{body:Int->Unit->Option ((Int×Int×Unit)⊕Unit)}{fin:Unit->Option (Int×Int×Unit)}(hf:fin ()=some (0,24,()))
  (h:∀ m:Nat,m<=l.length->body (m:Int) ()=bif (y0s b v (clD m 0 l)).2.1 != 0 then some (.inl (0,(y0s b v (clD m 0 l)).2.1,()))else bif (y0s b v (clD m 0 l)).1 then some (.inl ((m:Int),0,()))else some (.inr ())) :
  ∀ m:Nat,m<=l.length+1->yDi body fin m ()=some (latD b v l m)
 |0,_=>hf
 |m+1,hm=>by
  have ih:=yE9 hf h m (by omega)
  show (Option.bind (body (m:Int) ()) _)=_
  rw[h m (by omega)]
  unfold latD;cases (y0s b v (clD m 0 l)).2.1 != 0 with
  |true=>rfl
  |false =>
   simp only[cond_false];cases (y0s b v (clD m 0 l)).1 with
   |true=>rfl
   |false=>exact ih
theorem y9R(v:List Itv)(l:List Rng)(b:Bas)(k t:Int):∀ (r p:List Rng) (i:Int) (m:Nat),i=(p.length:Int)->m=r.length ->
  y0I (λ i__ s__=>y92 v l b k t i__ s__) (λ s__=>yAy v l b k t s__) m i (p++r)=yAy v l b k t (p++clD k i r)
 |[],p,i,m,_,hm=>by subst hm;rfl
 |x::r,p,i,m,hi,hm=>by
  simp only[List.length_cons]at hm;subst hm;have hbody:y92 v l b k t i (p++x::r)=some (.inr (p++(x.1,decide (i < k),x.2.2.1,())::r)):=by
   unfold y92;rw[y1I p x r i hi];simp only[bind_some];rw[y45 p x r i hi];simp only[bind_some];rw[y41 p x _ r i hi]
  show (Option.bind (y92 v l b k t i (p++x::r)) _)=_
  rw[hbody];simp only[bind_some];have:=y9R v l b k t r (p++[(x.1,decide (i < k),x.2.2.1,())]) (i+1) r.length (by simp[hi]) rfl
  rw[List.append_assoc,List.singleton_append]at this;rw[this];simp[clD]
theorem yNA(l R:List Rng)(h:R.length=l.length):List.take R.length l++List.drop l.length R=l:=by
 rw[h,List.take_length,List.drop_eq_nil_of_le (by omega),List.append_nil]
theorem yHP(b:Bas)(v:List Itv)(l:List Rng)(hn:∀ n∈b.1,n.1.length < lenMax)(h0:yCC b v l=0):yKO b v l=some (latD b v l (l.length+1)):=by
 have hE:=y6k h0;obtain ⟨g1,g2,g3,g4,g5⟩:=hE.lens;have hmem:memMax=68719476736:=rfl;have hm96:=hE.many;unfold yKO;rw[yEG b v l hn g1 g2 g3,h0];simp only[bind_some];rw[bifF (show ((0:Int) != 0)=false from rfl),bifT (yA (show (-1:Int)<=(l.length:Int)/\(l.length:Int)<=9223372036854775807 by omega)),show (((l.length:Int))+1).toNat=l.length+1 by omega]
 refine yE9 rfl (λ m hm=>?_) (l.length+1) (Nat.le_refl _)
 unfold yFk;rw[bifT (by rw[yA (show (0:Int)<=(l.length:Int) by omega),yA (show (l.length:Int)<=(memMax:Int) by omega),beq_self_eq_true];rfl)]
 rw[yNA l _ (by simp),bifT (yA (show (l.length:Int)<=9223372036854775807 by omega)),show ((l.length:Int) - 0).toNat=l.length by omega]
 have:=y9R v l b m (l.length:Int) l [] 0 l.length rfl rfl;rw[List.nil_append,List.nil_append]at this;rw[this];unfold yAy;rw[yGv b v _ (hE.closed m)];simp only[bind_some]
theorem y35(l:List Itv)(h:l.length<=memMax):zx_M l=some (l,()):=by
 unfold zx_M zx_m;rw[bifT (yA (show 0+l.length<=memMax by omega))]
theorem yLr(x:Itv):Vx.eqV ((Vx.Ty.int IntKind.i64).pair ((Vx.Ty.int IntKind.i64).pair Vx.Ty.unit)) x x=true:=by
 simp[Vx.eqV]
theorem y7D(l:List (List Itv))(i:Int)(row:List Itv)(hi:idx l i=some row):∀ (r p:List Itv) (t:Int) (m:Nat),row=p++r->t=(p.length:Int)->m=r.length ->
  y0I (λ i__ (s__:Unit)=>yFA l l i row i__) (λ s__=>yM3 l l i row) m t ()=some (.inr ())
 |[],p,t,m,_,_,hm=>by subst hm;rfl
 |x::r,p,t,m,hp,ht,hm=>by
  simp only[List.length_cons]at hm;subst hm;have hbody:yFA l l i row t=some (.inr ()):=by
   unfold yFA;rw[hi];simp only[bind_some];rw[hp,y1I p x r t ht];simp only[bind_some];rw[yLr];rfl
  show (Option.bind (yFA l l i row t) _)=_
  rw[hbody];simp only[bind_some];exact y7D l i row hi r (p++[x]) (t+1) _ (by rw[hp];simp) (by simp[ht]) rfl
theorem yEZ(l:List (List Itv))(h:l.length < lenMax)(hr:∀ x∈l,x.length<=96):zV_M l l=some (true,()):=by
 unfold zV_M;rw[bifF (show ((l.length:Int) != (l.length:Int))=false by simp),bifT (yA h),y6w l (λ p x r e=>by
  have hi:idx l (p.length:Int)=some x:=by rw[e];exact y1I p x r _ rfl
  have hx:=hr x (by rw[e];simp)
  unfold yO6;rw[hi];simp only[bind_some];rw[bifF (show ((x.length:Int) != (x.length:Int))=false by simp),bifT (yA (show (x.length:Int)<=9223372036854775807 by omega)),show ((x.length:Int) - 0).toNat=x.length by omega]
  exact y7D l _ x hi x [] 0 x.length rfl rfl rfl) l [] 0 rfl rfl]
 rfl
theorem yIN(lo hi:List Int):(y1E lo hi).length<=lo.length:=by
 unfold y1E;simp;omega
theorem y9a{N:Nat}:∀ (lo hi:List (List Int)),(∀ x∈lo,x.length<=N)->∀ r∈yq lo hi,r.length<=N
 |[],_,_=>by simp[yq]
 |_::_,[],_=>by simp[yq]
 |x::lo,y::hi,h=>by
  intro r hr;rcases List.mem_cons.1 hr with rfl|hr
  ·exact Nat.le_trans (yIN x y) (h x (by simp))
  ·exact y9a lo hi (λ z hz=>h z (by simp[hz])) r hr
end Go.Tw
