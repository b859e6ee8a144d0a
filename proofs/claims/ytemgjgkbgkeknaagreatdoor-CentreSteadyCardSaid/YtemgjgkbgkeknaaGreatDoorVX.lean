import Derived.Test.YtemgjgkbgkeknaaGreatDoorVD
import Derived.OrdersIn
import Derived.LoopNIn
import Derived.Scope
import Derived.RangeFuncNested
set_option linter.all false
open List (all_eq_true any_cons any_eq_false append_nil contains_iff_mem eq_nil_iff_forall_not_mem ext_getElem? getD_eq_getElem?_getD getElem?_append_left getElem?_eq_none getElem?_map getElem?_set getElem?_set_ne getElem?_set_self getElem?_zipIdx isEmpty_iff length_set length_take map_cons mem_append mem_cons mem_cons_of_mem mem_cons_self mem_filterMap mem_iff_getElem? mem_map mem_of_getElem? mem_range nodup_cons nodup_nil)
open Option (bind_eq_some_iff bind_some isNone_iff_eq_none map_eq_some_iff map_some)
open Nat (add_assoc add_comm lt_irrefl lt_or_ge)
open Bool (and_eq_true false_eq_true not_eq_true not_eq_true' or_eq_true)
section
namespace Go.Vx
open Go.RowKit
variable [GT]
section
variable {R:Type} {g:G} {s s':St} {o:Oper}
theorem y44{E:List Entry}{T:List (TypeId×TyI)}{tys:List (Nat×TypeId)}{t:Ty}:∀ {ps:List (Nat×Operand)} {x:t.den},(∀ p∈ps,∀ τ,y8 T τ s' p.2=y8 T τ s p.2)->y6w E s' T tys t ps x=y6w E s T tys t ps x
 |[],_,_=>rfl
 |p::ps,x,h=>by
  simp only[y6w];rw[h p (mem_cons_self ..)];congr 1
  funext y
  exact y44 (λ q hq=>h q (mem_cons_of_mem _ hq))
theorem y1Q{E:List Entry}{T:List (TypeId×TyI)}{u:Ty}{e:TypeId}:∀ {ps:List (Nat×Operand)} {xs:List u.den},(∀ p∈ps,∀ τ,y8 T τ s' p.2=y8 T τ s p.2)->y48 E s' T u e ps xs=y48 E s T u e ps xs
 |[],_,_=>rfl
 |p::ps,xs,h=>by
  simp only[y48];rw[h p (mem_cons_self ..)];split
  ·congr 1
   funext y
   exact y1Q (λ q hq=>h q (mem_cons_of_mem _ hq))
  ·rfl
theorem y2U{T:List (TypeId×TyI)}:∀ {xs:List Operand} {ts:List TypeId},(∀ x∈xs,∀ τ,y8 T τ s' x=y8 T τ s x)->y1G T s' xs ts=y1G T s xs ts
 |[],_,_=>rfl
 |x::xs,ts,h=>by
  simp only[y1G];rw[h x (mem_cons_self ..),y2U (λ y hy=>h y (mem_cons_of_mem _ hy))]
theorem y3J{T:List (TypeId×TyI)}{τ:TypeId}:∀ {xs:List Operand},(∀ x∈xs,∀ τ,y8 T τ s' x=y8 T τ s x)->xs.map (λ x=>y8 T τ s' x)=xs.map λ x=>y8 T τ s x
 |[],_=>rfl
 |x::xs,h=>by
  simp only[map_cons];rw[h x (mem_cons_self ..),y3J (λ y hy=>h y (mem_cons_of_mem _ hy))]
theorem y82{f:FuncId}{K:SV->Option R}:∀ {xs:List Operand},(∀ x∈xs,∀ τ,y8 g.T τ s' x=y8 g.T τ s x)->yBB g s' f xs K=yBB g s f xs K:=by
 intro xs h;unfold yBB;cases xs with
 |nil=>rfl
 |cons x l =>
  cases l with
  |nil =>
   have hx:=h x (mem_cons_self ..) 0;dsimp only;rw[hx]
  |cons _ _=>rfl
theorem yDx(K:SV->Option R)(hc:s'.cH=s.cH)(h:∀ x∈o.op.operands.toList,∀ τ,y8 g.T τ s' x=y8 g.T τ s x):yU g s' o K=yU g s o K:=by
 unfold yU;cases ho:o.op with
 |move x=>rw[ho]at h;simp[Op.operands]at h;simp only[h]
 |assign x=>rw[ho]at h;simp[Op.operands]at h;simp only[h]
 |pick c a b=>rw[ho]at h;simp[Op.operands]at h;simp only[h]
 |load t a=>rw[ho]at h;simp[Op.operands]at h;simp only[h,hc]
 |binOp op t x y yt =>
  rw[ho]at h;simp[Op.operands]at h;simp only[h.1];have hy:y8 g.T t s' y=y8 g.T t s y:=h.2 t;cases yN g.T t with
  |none=>rfl
  |some i =>
   dsimp only;split
   ·rfl
   ·rfl
   ·rw[hy]
 |unOp op t x=>rw[ho]at h;simp[Op.operands]at h;simp only[h]
 |convert a b x=>rw[ho]at h;simp[Op.operands]at h;simp only[h]
 |field t x f=>rw[ho]at h;simp[Op.operands]at h;simp only[h,hc]
 |fieldAddr t x f=>rw[ho]at h;simp[Op.operands]at h;simp only[h]
 |indexAddr t x i=>rw[ho]at h;simp[Op.operands]at h;simp only[h,hc]
 |index t x i=>rw[ho]at h;simp[Op.operands]at h;simp only[h]
 |extract x n=>rw[ho]at h;simp[Op.operands]at h;simp only[h,hc]
 |lookup t x ix ok=>rw[ho]at h;simp[Op.operands]at h;simp only[h,hc]
 |box e x=>rw[ho]at h;simp[Op.operands]at h;simp only[h]
 |build t ps =>
  rw[ho]at h;have h':∀ p∈ps.toList,∀ τ,y8 g.T τ s' p.2=y8 g.T τ s p.2:=λ p hp τ=>h p.2 (by simp[Op.operands];exact ⟨p.1,by simpa using hp⟩) τ
  simp only[y44 h',y1Q h']
 |buildSlice t n ps =>
  rw[ho]at h;have h':∀ p∈ps.toList,∀ τ,y8 g.T τ s' p.2=y8 g.T τ s p.2:=λ p hp τ=>h p.2 (by simp[Op.operands];exact ⟨p.1,by simpa using hp⟩) τ
  simp only[y1Q h']
 |makeFunc f first caps =>
  rw[ho]at h;have h':∀ x∈caps.toList,∀ τ,y8 g.T τ s' x=y8 g.T τ s x:=λ x hx τ=>h x (by simp[Op.operands];right;simpa using hx) τ
  have h2:∀ x∈first.toList,∀ τ,y8 g.T τ s' x=y8 g.T τ s x:=λ x hx τ=>h x (by simp[Op.operands];left;simpa using hx) τ
  cases f<;>simp only[y3J h',y82 h2]
 |slice t x lo hi mx =>
  rw[ho]at h;have hx:∀ τ,y8 g.T τ s' x=y8 g.T τ s x:=λ τ=>h x (by simp[Op.operands]) τ
  have hb:∀ y,(y=lo\/y=hi)->y7E g.T s' y=y7E g.T s y:=by
   intro y hy;cases y with
   |none=>rfl
   |some z =>
    simp only[y7E];rw[h z (by rcases hy with rfl|rfl<;>simp[Op.operands]) 0]
  simp only[hx,hb lo (.inl rfl),hb hi (.inr rfl)]
 |nilCheck x=>rw[ho]at h;simp[Op.operands]at h;simp only[h]
 |call c =>
  obtain ⟨callee,args,ts⟩:=c;cases callee with
  |builtin b =>
   rw[ho]at h;have h':∀ x∈args.toList,∀ τ,y8 g.T τ s' x=y8 g.T τ s x:=λ x hx τ=>h x (by simp[Op.operands,Call.operands];simpa using hx) τ
   have hl:(match args.toList,ts.toList with
     |[x],[t]=>(match yN g.T t with
      |some i=>lenK i.ty s'.cH (y8 g.T t s' x) K
      |none=>none)
     |_,_=>none)=(match args.toList,ts.toList with
     |[x],[t]=>(match yN g.T t with
      |some i=>lenK i.ty s.cH (y8 g.T t s x) K
      |none=>none)
     |_,_=>none):=by
    split
    ·rename_i x t h1 h2;rw[h' x (by rw[h1];simp),hc]
    ·rfl
   have hd:(match args.toList with
     |[x]=>y9Q s'.cH (y8 g.T 0 s' x) K
     |_=>none)=(match args.toList with
     |[x]=>y9Q s.cH (y8 g.T 0 s x) K
     |_=>none):=by
    split
    ·rename_i x h1;rw[h' x (by rw[h1];simp),hc]
    ·rfl
   cases b<;>first|exact hl|exact hd|(simp only[y3J h'])|rfl
  |_=>rfl
 |_=>rfl
def Ext(cs cs':List (Option Chunk)):Prop:=∀ β c,cs.getD β none=some c->cs'.getD β none=some c
theorem y9i(cs l:List (Option Chunk)):Ext cs (cs++l):=λ β c h=>by
 rw[getD_eq_getElem?_getD]at h ⊢;rcases lt_or_ge β cs.length with hl|hl
 ·rw[getElem?_append_left hl];exact h
 ·rw[getElem?_eq_none hl]at h;cases h
section
variable {cs cs':List (Option Chunk)}
theorem yGG(hx:Ext cs cs'){β:Nat}{v:TV}(h:y9u cs β=some v):y9u cs' β=some v:=by
 unfold y9u at h ⊢;cases hc:cs.getD β none with
 |none=>rw[hc]at h;cases h
 |some c=>rw[hc]at h;rw[hx β c hc];exact h
theorem yA2(hx:Ext cs cs'){β:Nat}{v:TV}(h:y5g cs β=some v):y5g cs' β=some v:=by
 unfold y5g at h ⊢;cases hc:cs.getD β none with
 |none=>rw[hc]at h;cases h
 |some c=>rw[hc]at h;rw[hx β c hc];exact h
theorem yKK(hx:Ext cs cs'){sv:SV}{t:Ty}{y:t.den}(h:y0p cs sv t=some y):y0p cs' sv t=some y:=by
 unfold y0p at h ⊢;cases sv with
 |own β =>
  obtain ⟨v,h1,h2⟩:=bind_eq_some_iff.1 h;exact bind_eq_some_iff.2 ⟨v,yGG hx h1,h2⟩
 |mO β =>
  obtain ⟨v,h1,h2⟩:=bind_eq_some_iff.1 h;exact bind_eq_some_iff.2 ⟨v,yA2 hx h1,h2⟩
 |_=>exact h
theorem yHt(hx:Ext cs cs'){E:List Entry}{sv:SV}{t:Ty}{y:t.den}(h:y5A E cs sv t=some y):y5A E cs' sv t=some y:=by
 unfold y5A at h;split at h
 ·exact h
 ·exact h
 ·rename_i hno hno2;have e:y5A E cs' sv t=y0p cs' sv t:=by
   unfold y5A;split
   ·exact (hno _ _ _ _ rfl rfl).elim
   ·exact (hno2 _ rfl rfl).elim
   ·rfl
  rw[e];exact yKK hx h
theorem yAC(hx:Ext cs cs'){E:List Entry}:∀ {t:Ty} {l:List SV} {y:t.den},y0s E cs t l=some y->y0s E cs' t l=some y
 |.unit,[],_,h=>h
 |.pair a b,sv::l,y,h=>by
  obtain ⟨x,h1,h2⟩:=bind_eq_some_iff.1 (show ((y5A E cs sv a).bind λ x=>(y0s E cs b l).map λ y=>(x,y))=some y from h)
  obtain ⟨z,h3,rfl⟩:=map_eq_some_iff.1 h2;show ((y5A E cs' sv a).bind λ x=>(y0s E cs' b l).map λ y=>(x,y))=_
  rw[yHt hx h1,yAC hx h3];rfl
theorem yJl(hx:Ext cs cs'){sv:SV}{v:TV}(h:yBA cs sv=some v):yBA cs' sv=some v:=by
 unfold yBA at h ⊢;cases sv with
 |mO β=>exact yA2 hx h
 |val t x=>cases t<;>exact h
 |_=>exact h
theorem yIv(hx:Ext cs cs'){sv:SV}{K:SV->Option R}{r:R}(h:y9Q cs sv K=some r):y9Q cs' sv K=some r:=by
 cases sv with
 |own β =>
  unfold y9Q at h ⊢;dsimp only at h ⊢;cases hc:cs.getD β none with
  |none=>rw[hc]at h;cases h
  |some c=>rw[hc]at h;rw[hx β c hc];exact h
 |_=>cases h
theorem yKb(hx:Ext cs cs'){ty:Ty}{sv:SV}{K:SV->Option R}{r:R}(h:lenK ty cs sv K=some r):lenK ty cs' sv K=some r:=by
 cases sv with
 |own β =>
  unfold lenK at h ⊢;dsimp only at h ⊢;split at h
  ·rename_i hs;rw[if_pos hs];cases hc:cs.getD β none with
   |none=>rw[hc]at h;cases h
   |some c=>rw[hc]at h;rw[hx β c hc];exact h
  ·cases h
 |nO β m =>
  unfold lenK at h ⊢;dsimp only at h ⊢;split at h
  ·rename_i hs;rw[if_pos hs];cases hc:cs.getD β none with
   |none=>rw[hc]at h;cases h
   |some c=>rw[hc]at h;rw[hx β c hc];exact h
  ·cases h
 |val t x=>cases t<;>exact h
 |_=>exact h
end
theorem y8w{K:SV->Option R}{r:R}{cs':List (Option Chunk)}(hx:Ext s.cH cs')(h:yU g s o K=some r):yU g { s with cH:=cs' } o K=some r:=by
 have he:∀ x τ,y8 g.T τ { s with cH:=cs' } x=y8 g.T τ s x:=λ x τ=>by cases x<;>rfl
 unfold yU at h ⊢;cases ho:o.op with
 |load t a =>
  rw[ho]at h;dsimp only at h ⊢;rw[he];have hc:¬ ((g.vl && !(y8 g.T 0 s a).isVal)=true):=by intro hc;rw[if_pos hc]at h;cases h
  rw[if_neg hc]at h ⊢;clear hc;cases hl:yN g.T t with
  |none=>rw[hl]at h;cases h
  |some i =>
   rw[hl]at h;cases hv:y8 g.T 0 s a with
   |bP β off =>
    rw[hv]at h;dsimp only at h ⊢;cases hc:s.cH.getD β none with
    |none=>rw[hc]at h;cases h
    |some c=>rw[hc]at h;rw[hx β c hc];exact h
   |eP β n sz off =>
    rw[hv]at h;dsimp only at h ⊢;cases hc:s.cH.getD β none with
    |none=>rw[hc]at h;cases h
    |some c=>rw[hc]at h;rw[hx β c hc];exact h
   |nP β n j sz off =>
    rw[hv]at h;dsimp only at h ⊢;cases hc:s.cH.getD β none with
    |none=>rw[hc]at h;cases h
    |some c=>rw[hc]at h;rw[hx β c hc];exact h
   |val u x=>rw[hv]at h;cases u<;>exact h
   |_=>rw[hv]at h;exact h
 |field t x f =>
  rw[ho]at h;dsimp only at h ⊢;rw[he];cases hl:yN g.T t with
  |none=>rw[hl]at h;cases h
  |some i =>
   rw[hl]at h;cases hv:y8 g.T 0 s x with
   |sR β =>
    rw[hv]at h;dsimp only at h ⊢;cases hc:s.cH.getD β none with
    |none=>rw[hc]at h;cases h
    |some c=>rw[hc]at h;rw[hx β c hc];exact h
   |_=>rw[hv]at h;exact h
 |indexAddr t x ix =>
  rw[ho]at h;dsimp only at h ⊢;rw[he,he];cases hl:yN g.T t with
  |none=>rw[hl]at h;cases h
  |some i =>
   rw[hl]at h;cases hi:y8 g.T 0 s ix with
   |val u n =>
    rw[hi]at h;cases hv:y8 g.T t s x with
    |own β =>
     rw[hv]at h;cases u with
     |int k =>
      dsimp only at h ⊢;cases hc:s.cH.getD β none with
      |none=>rw[hc]at h;cases h
      |some c=>rw[hc]at h;rw[hx β c hc];exact h
     |_=>exact h
    |nO β m =>
     rw[hv]at h;cases u with
     |int k =>
      dsimp only at h ⊢;cases hc:s.cH.getD β none with
      |none=>rw[hc]at h;cases h
      |some c=>rw[hc]at h;rw[hx β c hc];exact h
     |_=>exact h
    |val w y =>
     rw[hv]at h;cases u with
     |int k =>
      cases w with
      |ref w=>cases w<;>exact h
      |_=>exact h
     |_=>exact h
    |bP β off =>
     rw[hv]at h;cases u with
     |int k =>
      dsimp only at h ⊢;cases hc:s.cH.getD β none with
      |none =>
       rw[hc]at h;dsimp only at h;exfalso
       cases hty:i.ty with
       |arr m v=>rw[hty]at h;dsimp only at h;revert h;generalize (decide (0<=(show Int from n)) && decide ((show Int from n) < (m:Int)))=b;intro h;cases b<;>cases h
       |_=>rw[hty]at h;cases h
      |some c=>rw[hc]at h;rw[hx β c hc];exact h
     |_=>exact h
    |_=>rw[hv]at h;cases u<;>exact h
   |_=>rw[hi]at h;exact h
 |lookup t x ix ok =>
  rw[ho]at h;dsimp only at h ⊢;rw[he,he];cases hm:yBA s.cH (y8 g.T t s x)with
  |none =>
   rw[hm]at h;cases hi:yN g.T t with
   |none=>rw[hi]at h;cases h
   |some i =>
    rw[hi]at h;dsimp only at h;cases hh:y8s s.cH (y8 g.T t s x)with
    |none=>rw[hh]at h;cases h
    |some hv =>
     rw[hh]at h;obtain ⟨β,e,es,h1,h2⟩:=y8H hh;have h3:cs'.getD β none=some (.mps hv.k e hv.u es (some (hv.x,hv.γ))):=hx β _ (by rw[getD_eq_getElem?_getD,h2];rfl)
     have h4:yBA cs' (y8 g.T t s x)=none:=by rw[h1];unfold yBA y5g;dsimp only;rw[h3]
     have h5:y8s cs' (y8 g.T t s x)=some hv:=by rw[h1];unfold y8s;dsimp only;rw[h3]
     rw[h4,h5];exact h
  |some v =>
   rw[hm]at h;rw[yJl hx hm];cases hi:yN g.T t with
   |none=>rw[hi]at h;exact h
   |some i =>
    rw[hi]at h;obtain ⟨vt,vx⟩:=v;cases vt<;>exact h
 |build t ps =>
  rw[ho]at h;have h':∀ p∈ps.toList,∀ τ,y8 g.T τ { s with cH:=cs' } p.2=y8 g.T τ s p.2:=λ p _ τ=>he p.2 τ
  simp only[y44 h',y1Q h'];exact h
 |buildSlice t n ps =>
  rw[ho]at h;have h':∀ p∈ps.toList,∀ τ,y8 g.T τ { s with cH:=cs' } p.2=y8 g.T τ s p.2:=λ p _ τ=>he p.2 τ
  simp only[y1Q h'];exact h
 |call c =>
  rw[ho]at h;obtain ⟨callee,args,ts⟩:=c;cases callee with
  |builtin b =>
   cases b with
   |len =>
    dsimp only at h ⊢;split
    ·rename_i x t h1 h2;rw[h1,h2]at h;dsimp only at h;rw[he];cases hl:yN g.T t with
     |none=>rw[hl]at h;cases h
     |some i=>rw[hl]at h;exact yKb hx h
    ·rename_i hno;split at h
     ·rename_i x t h1 h2;exact absurd h2 (hno _ _ h1)
     ·cases h
   |unsafeSliceData =>
    dsimp only at h ⊢;split
    ·rename_i x h1;rw[h1]at h;dsimp only at h;rw[he];exact yIv hx h
    ·rename_i hno;split at h
     ·rename_i x h1;exact absurd h1 (hno _)
     ·cases h
   |max =>
    have h':∀ x∈args.toList,∀ τ,y8 g.T τ { s with cH:=cs' } x=y8 g.T τ s x:=λ x _ τ=>he x τ
    simp only[y3J h'];exact h
   |min =>
    have h':∀ x∈args.toList,∀ τ,y8 g.T τ { s with cH:=cs' } x=y8 g.T τ s x:=λ x _ τ=>he x τ
    simp only[y3J h'];exact h
   |_=>exact h
  |_=>exact h
 |slice t x lo hi mx =>
  rw[ho]at h;have hb:∀ y,y7E g.T { s with cH:=cs' } y=y7E g.T s y:=λ y=>by
   cases y with
   |none=>rfl
   |some z=>simp only[y7E,he]
  simp only[he,hb];exact h
 |makeFunc f first caps =>
  rw[ho]at h;have h':∀ x∈caps.toList,∀ τ,y8 g.T τ { s with cH:=cs' } x=y8 g.T τ s x:=λ x _ τ=>he x τ
  have h2:∀ x∈first.toList,∀ τ,y8 g.T τ { s with cH:=cs' } x=y8 g.T τ s x:=λ x _ τ=>he x τ
  cases f<;>first|exact h|(simp only[y3J h',y82 h2];exact h)
 |extract x n =>
  rw[ho]at h;dsimp only at h ⊢;rw[he];cases hv:y8 g.T 0 s x with
  |sR β =>
   rw[hv]at h;dsimp only at h ⊢;cases hc:s.cH.getD β none with
   |none=>rw[hc]at h;cases h
   |some c=>rw[hc]at h;rw[hx β c hc];exact h
  |_=>rw[hv]at h;exact h
 |_=>rw[ho]at h;first|exact h|(simp only[he];exact h)
end
end Go.Vx
end
section
namespace Go.Vx
open Go.RowKit
variable [GT]
section
variable {P:Program} {A0:Nat->Prop} {w0:Base} {ρ:Places} {s s':St} {a:Act} {w w':World} {g:G} {R:Type} {K:St->Option R} {r:R} {o:Oper} {ops:Array Oper} {md:Region.Mode}
theorem Rel.settleCells:∀ (l:List SV) {s:St},Rel P A0 w0 ρ s a w->Rel P A0 w0 ρ (Vx.settleCells l s) a w
 |[],_,h=>h
 |sv::l,_,h=>Rel.settleCells l (h.settle sv)
theorem Rel.settleIn(h:Rel P A0 w0 ρ s a w)(sv:SV):Rel P A0 w0 ρ (s.settleIn sv) a w:=by
 unfold St.settleIn;split
 ·split
  ·exact Rel.settleCells _ h
  ·exact h
 ·exact h
theorem Rel.preK(h:Rel P A0 w0 ρ s a w)(g:G)(o:Oper):Rel P A0 w0 ρ (Vx.preK g o s) a w:=by
 unfold Vx.preK;split
 ·split
  ·split
   ·exact h.settleIn _
   ·exact h
  ·exact h
 ·exact h
theorem y3H{r β:Nat}{sv:SV}(hs:sv.names=[β])(h:sv.has r=false):β≠r:=by
 intro e;subst e;unfold SV.has at h;rw[hs]at h;simp at h
theorem yOj{r:Nat}{f:FuncId}{caps:List Cap}(h:(SV.clo f caps).has r=false):∀ β,Cap.box β∈caps->β≠r:=by
 intro β hb e;subst e;have:(SV.clo f caps).has β=true:=by
  unfold SV.has SV.names;rw[contains_iff_mem];exact mem_filterMap.2 ⟨_,hb,rfl⟩
 rw[this]at h;cases h
theorem yY.congrN{A:Nat->Prop}{ρ':Places}{r:Nat}(he:∀ β,β≠r->ρ' β=ρ β):∀ {cs:List Cap} {vs:List Value},(∀ β,Cap.box β∈cs->β≠r)->yY P A w ρ cs vs->yY P A w ρ' cs vs
 |[],[],_,_=>trivial
 |[],_::_,_,h=>h
 |_::_,[],_,h=>h
 |.box β::cs,v::vs,hi,h=>⟨by have:=h.1;simp only[yBa]at this ⊢;rw[he β (hi β (by simp))];exact this,yY.congrN he (λ γ hγ=>hi γ (by simp[hγ])) h.2⟩
 |.val t x::cs,v::vs,hi,h=>⟨h.1,yY.congrN he (λ γ hγ=>hi γ (by simp[hγ])) h.2⟩
theorem yD.congrN{A:Nat->Prop}{ρ':Places}{r:Nat}(he:∀ β,β≠r->ρ' β=ρ β){sv:SV}{v:Value}(hi:sv.has r=false)(h:yD P A w ρ sv v):yD P A w ρ' sv v:=by
 cases sv with
 |bP β off=>have:=y3H (β:=β) rfl hi;simp only[yD]at h ⊢;rw[he β this];exact h
 |own β=>have:=y3H (β:=β) rfl hi;simp only[yD]at h ⊢;rw[he β this];exact h
 |mO β=>have:=y3H (β:=β) rfl hi;simp only[yD]at h ⊢;rw[he β this];exact h
 |yld β=>have:=y3H (β:=β) rfl hi;simp only[yD]at h ⊢;rw[he β this];exact h
 |mP β e=>have:=y3H (β:=β) rfl hi;simp only[yD]at h ⊢;rw[he β this];exact h
 |eP β i sz off=>have:=y3H (β:=β) rfl hi;simp only[yD]at h ⊢;rw[he β this];exact h
 |oS β i sz=>have:=y3H (β:=β) rfl hi;simp only[yD]at h ⊢;rw[he β this];exact h
 |sR β=>have:=y3H (β:=β) rfl hi;simp only[yD]at h ⊢;rw[he β this];exact h
 |nO β i=>have:=y3H (β:=β) rfl hi;simp only[yD]at h ⊢;rw[he β this];exact h
 |nP β i j sz off=>have:=y3H (β:=β) rfl hi;simp only[yD]at h ⊢;rw[he β this];exact h
 |meth f β=>have:=y3H (β:=β) rfl hi;simp only[yD]at h ⊢;rw[he β this];exact h
 |clo f caps=>obtain ⟨vs,h2,h3⟩:=h;exact ⟨vs,h2,h3.congrN he (yOj hi)⟩
 |_=>exact h
theorem y22{r:Nat}{cells:List SV}(h:cells.any (SV.has r)=false):∀ sv∈cells,sv.has r=false:=by
 intro sv hs;cases hq:sv.has r with
 |false=>rfl
 |true =>
  have:cells.any (SV.has r)=true:=List.any_eq_true.2 ⟨sv,hs,hq⟩;rw[this]at h;cases h
theorem yC.congrN{A:Nat->Prop}{ρ':Places}{r:Nat}(he:∀ β,β≠r->ρ' β=ρ β){p:Place}{ch:Chunk}(hi:ch.has r=false)(h:yC P A w ρ p ch):yC P A w ρ' p ch:=by
 cases ch with
 |box t cells =>
  obtain ⟨b,vs,e,hb,h1,h2,h3⟩:=h;exact ⟨b,vs,e,hb,h1,h2,λ i sv hs=>let ⟨v,hv,hr⟩:=h3 i sv hs;⟨v,hv,hr.congrN he (y22 hi sv (mem_of_getElem? hs))⟩⟩
 |lp i info cells st =>
  obtain ⟨b,r,hb,h1,h2,h3,h4⟩:=h;exact ⟨b,r,hb,h1,h2,h3,λ i sv hs=>let ⟨v,hv,hr⟩:=h4 i sv hs;⟨v,hv,hr.congrN he (y22 hi sv (mem_of_getElem? hs))⟩⟩
 |arr e t xs nn=>simpa only[yC]using h
 |mp k v es=>simpa only[yC]using h
 |it bs q=>simpa only[yC]using h
 |mps k e u es hole =>
  have hh:∀ q,hole=some q->q.2≠r:=λ q hq hqr=>by
   subst hq;simp only[Chunk.has,hqr,beq_self_eq_true]at hi;cases hi
  obtain ⟨b,ms,c,hb,h1,h2,⟨h3,h4⟩,h5⟩:=h;refine ⟨b,ms,c,hb,h1,h2,⟨h3,λ q hq hx=>?_⟩,λ i x hx=>?_⟩
  ·rw[he _ (hh q hq)];exact h4 q hq hx
  ·obtain ⟨en,o,h6,h7,h8,h9⟩:=h5 i x hx;refine ⟨en,o,h6,h7,h8,?_⟩;rcases h9 with ⟨q,hq,h9,h10,h11⟩|h9
   ·exact .inl ⟨q,hq,h9,h10,by rw[he _ (hh q hq)];exact h11⟩
   ·exact .inr h9
 |rcd t cells =>
  obtain ⟨h1,h2,h3,h4⟩:=h;exact ⟨h1,h2,h3,λ i sv hs=>let ⟨v,hv,hr⟩:=h4 i sv hs;⟨v,hv,hr.congrN he (y22 hi sv (mem_of_getElem? hs))⟩⟩
 |nst e t o e' u xs=>simpa only[yC]using h
theorem y4b{r:Nat}(h:y4q r s=true):(∀ (i:Nat) (sv:SV),s.slots[i]?=some sv->sv.has r=false)/\(∀ (i:Nat) (sv:SV),s.kept[i]?=some sv->sv.has r=false)/\(∀ (β:Nat) (ch:Chunk),s.cH[β]?=some (some ch)->ch.has r=false):=by
 unfold y4q at h;simp only[and_eq_true]at h;obtain ⟨⟨h1,h2⟩,h3⟩:=h;refine ⟨λ i sv hi=>?_,λ i sv hi=>?_,λ β ch hc=>?_⟩
 ·simpa using all_eq_true.1 h1 sv (mem_of_getElem? hi)
 ·simpa using all_eq_true.1 h2 sv (mem_of_getElem? hi)
 ·simpa using all_eq_true.1 h3 _ (mem_of_getElem? hc)
theorem yBu(r:Nat):∀ (t:Ty),∀ sv∈y0U t,sv.has r=false:=by
 intro t;induction t with
 |pair a b iha ihb =>
  intro sv hs;simp only[y0U,mem_append]at hs;rcases hs with hs|hs
  ·exact iha sv hs
  ·exact ihb sv hs
 |arr n t ih =>
  intro sv hs;simp only[y0U,List.mem_flatten]at hs;obtain ⟨l,hl,hs⟩:=hs;rw[List.eq_of_mem_replicate hl]at hs;exact ih sv hs
 |unit=>intro sv hs;simp[y0U]at hs
 |_=>intro sv hs;simp only[y0U,List.mem_singleton]at hs;subst hs;rfl
inductive Pay where
 | arr (e:TypeId) (u:Ty) (xs:List u.den) (nn fin:Bool)
 | box (t:Ty)
def Pay.c:Pay->Option Chunk
 |.arr e u xs nn fin=>cq fin e u xs nn
 |.box t=>some (Chunk.box t (y0U t))
def Pay.v(q:Nat):Pay->SV
 |.arr _ u xs nn fin=>vq fin q u xs nn
 |.box _=>.bP q 0
def Pay.full:Pay->Chunk
 |.arr e u xs nn _=>Chunk.arr e u xs nn
 |.box t=>Chunk.box t (y0U t)
def Pay.nm(n:Nat):Pay->SV
 |.arr _ _ _ _ _=>.own n
 |.box _=>.bP n 0
def Pay.fin:Pay->Bool
 |.arr _ _ _ _ f=>f
 |.box _=>false
theorem Pay.full_has(r:Nat):∀ p:Pay,p.full.has r=false
 |.arr _ _ _ _ _=>rfl
 |.box t=>by
  show (y0U t).any (SV.has r)=false
  rw[any_eq_false];intro sv hs;rw[yBu r t sv hs];simp
theorem Rel.moved{C:List (Option Chunk)}{pay:Pay}{q d:Nat}{s0:St}{a0:Act}{wa:World}{ρ0:Places}(hs:Rel P A0 w0 ρ0 s0 a0 wa)(hl:C.length=s0.cH.length)
  (hsub:∀ (β:Nat) (ch:Chunk),C[β]?=some (some ch)->s0.cH[β]?=some (some ch)) (hq:q < C.length) (hqn:(C.getD q none).isSome=false) (hno:y4q q s0=true)
  (h:Rel P A0 w0 ρ (({ s0 with cH:=C++[some (pay.full)] }:St).put (some d) (pay.nm C.length)) a w) :
  Rel P A0 w0 (ρ.set q (ρ C.length)) (({ s0 with cH:=C.set q (some pay.full) }:St).put (some d) (pay.nm q)) a w:=by
 obtain ⟨n1,n2,n3⟩:=y4b hno;have he:∀ β,β≠q->ρ.set q (ρ C.length) β=ρ β:=λ β hβ=>by unfold Places.set;rw[if_neg hβ]
 have hself:ρ.set q (ρ C.length) q=ρ C.length:=Places.set_self ρ q _;have hCq:C[q]?=some none:=by
  rw[getD_eq_getElem?_getD]at hqn;rw[List.getElem?_eq_getElem hq]at hqn ⊢;cases hc:C[q]with
  |none=>rfl
  |some c=>rw[hc]at hqn;simp at hqn
 have new:∀ (β:Nat) (ch:Chunk),(C.set q (some pay.full))[β]?=some (some ch)->(β=q/\ch=pay.full)\/(β≠q/\C[β]?=some (some ch)):=by
  intro β ch hc;by_cases hb:q=β
  ·subst hb;rw[getElem?_set_self hq]at hc;simp only[Option.some.injEq]at hc;exact .inl ⟨rfl,hc.symm⟩
  ·rw[getElem?_set_ne hb]at hc;exact .inr ⟨Ne.symm hb,hc⟩
 have old:∀ (β:Nat) (ch:Chunk),C[β]?=some (some ch)->(C++[some (pay.full)])[β]?=some (some ch):=λ β ch hc=>by
  rw[getElem?_append_left (List.getElem?_eq_some_iff.1 hc).1];exact hc
 have last:(C++[some (pay.full)])[C.length]?=some (some pay.full):=by simp
 have hA:∀ n,Av A0 (ρ.set q (ρ C.length)) (C.set q (some pay.full)) n->Av A0 ρ (C++[some (pay.full)]) n:=by
  rintro n ((h0|⟨β,ch,hc,hb⟩)|⟨β,ch,hc,hb⟩)
  ·exact .inl (.inl h0)
  ·rcases new β ch hc with ⟨rfl,rfl⟩|⟨hne,hc⟩
   ·rw[hself]at hb;exact .inl (.inr ⟨C.length,_,last,hb⟩)
   ·rw[he β hne]at hb;exact .inl (.inr ⟨β,ch,old β ch hc,hb⟩)
  ·rcases new β ch hc with ⟨rfl,rfl⟩|⟨hne,hc⟩
   ·rw[hself]at hb;exact .inr ⟨C.length,_,last,hb⟩
   ·rw[he β hne]at hb;exact .inr ⟨β,ch,old β ch hc,hb⟩
 have hK:Keep (Av A0 ρ (C++[some (pay.full)])) w w:=λ _ _ _=>rfl
 have hch:∀ (β:Nat) (ch:Chunk),C[β]?=some (some ch)->ch.has q=false:=λ β ch hc=>n3 β ch (hsub β ch hc)
 have conv:∀ {sv:SV} {v:Value},sv.has q=false->yD P (Av A0 ρ (C++[some (pay.full)])) w ρ sv v->yD P (Av A0 (ρ.set q (ρ C.length)) (C.set q (some pay.full))) w (ρ.set q (ρ C.length)) sv v:=
  λ hi hr=>(hr.mono hK λ n _ h=>hA n h).congrN he hi
 have hlen:(C.set q (some pay.full)).length=s0.cH.length:=by rw[length_set,hl]
 refine ⟨by have h0:=h.size;rw[St.put_slots,length_set]at h0 ⊢;exact h0,λ i sv hi=>?_,λ β ch hc=>?_,λ β γ c1 c2 hb hc e1 e2=>?_,λ i sv hi=>?_,λ β ch hc=>?_,h.below,h.dom,h.defers,h.dep,λ β ch p hc hp=>?_,h.round,h.glob,h.kZ,λ i sv hi=>?_,λ i sv hi=>?_,⟨λ β ch hc hm=>?_,λ β ch n hc hn=>?_,λ β γ c d n hc hd hn=>?_,λ β γ c d n hc hd hn hm=>?_⟩⟩
 ·rw[St.put_slots]at hi;change (s0.slots.set d (pay.nm q))[i]?=some sv at hi
  by_cases hd:d=i
  ·subst hd;have hlt:d < s0.slots.length:=by
    rcases lt_or_ge d s0.slots.length with hl|hl
    ·exact hl
    ·rw[getElem?_eq_none (by simpa using hl)]at hi;cases hi
   rw[getElem?_set_self hlt]at hi;cases hi;have:=h.slots d (pay.nm C.length) (by rw[St.put_slots];exact getElem?_set_self hlt)
   cases pay<;>(simp only[yD,Pay.nm]at this ⊢;rw[hself];exact this)
  ·rw[getElem?_set_ne hd]at hi;exact conv (n1 i sv hi) (h.slots i sv (by rw[St.put_slots];exact (getElem?_set_ne hd).trans hi))
 ·rcases new β ch hc with ⟨rfl,rfl⟩|⟨hne,hc⟩
  ·have:=h.cH C.length _ last;rw[hself];refine ⟨?_,this.2⟩;exact (this.1.keep (λ _ _=>rfl) (λ n _ h=>hA n h)).congrN he (pay.full_has _)
  ·have:=h.cH β ch (old β ch hc);rw[he β hne];exact ⟨(this.1.keep (λ _ _=>rfl) (λ n _ h=>hA n h)).congrN he (hch β ch hc),this.2⟩
 ·rcases new β c1 hb with ⟨b1,b2⟩|⟨b1,b2⟩<;>rcases new γ c2 hc with ⟨d1,d2⟩|⟨d1,d2⟩
  ·rw[b1,d1]
  ·subst b1;rw[hself,he γ d1]at e1;rw[hself]at e2;have:=h.inj C.length γ _ _ last (old γ c2 d2) e1 e2;have:=(List.getElem?_eq_some_iff.1 d2).1;omega
  ·subst d1;rw[hself,he β b1]at e1;rw[he β b1]at e2;have:=h.inj β C.length _ _ (old β c1 b2) last e1 e2;have:=(List.getElem?_eq_some_iff.1 b2).1;omega
  ·rw[he β b1,he γ d1]at e1;rw[he β b1]at e2;exact h.inj β γ _ _ (old β c1 b2) (old γ c2 d2) e1 e2
 ·rw[St.put_slots]at hi;change (s0.slots.set d (pay.nm q))[i]?=some sv at hi
  show sv.inn (({ s0 with cH:=C.set q (some pay.full) }:St).put (some d) (pay.nm q)).cH.length
  rw[show (({ s0 with cH:=C.set q (some pay.full) }:St).put (some d) (pay.nm q)).cH=C.set q (some pay.full)from rfl,hlen]
  by_cases hd:d=i
  ·subst hd;have hlt:d < s0.slots.length:=by
    rcases lt_or_ge d s0.slots.length with hl|hl
    ·exact hl
    ·rw[getElem?_eq_none (by simpa using hl)]at hi;cases hi
   rw[getElem?_set_self hlt]at hi;cases hi;have hqs:q < s0.cH.length:=by omega
   cases pay<;>exact hqs
  ·rw[getElem?_set_ne hd]at hi;exact hs.names i sv hi
 ·show ch.inn (C.set q (some pay.full)).length
  rw[hlen];rcases new β ch hc with ⟨rfl,rfl⟩|⟨hne,hc⟩
  ·cases pay with
   |arr=>trivial
   |box t=>exact y5h _ t
  ·exact hs.cN β ch (hsub β ch hc)
 ·rcases new β ch hc with ⟨rfl,rfl⟩|⟨hne,hc⟩
  ·cases pay<;>cases hp
  ·exact h.lpi β ch p (old β ch hc) hp
 ·exact conv (n2 i sv hi) (h.kS i sv hi)
 ·show sv.inn (C.set q (some pay.full)).length
  rw[hlen];exact hs.kN i sv hi
 ·rcases new β ch hc with ⟨rfl,rfl⟩|⟨hne,hc⟩
  ·rw[hself];exact h.subs.plain C.length _ last (by cases pay<;>rfl)
  ·rw[he β hne];exact h.subs.plain β ch (old β ch hc) hm
 ·rcases new β ch hc with ⟨rfl,rfl⟩|⟨hne,hc⟩
  ·rw[hself]at hn;exact h.subs.base C.length _ n last hn
  ·rw[he β hne]at hn;exact h.subs.base β ch n (old β ch hc) hn
 ·have up:∀ (β:Nat) (ch:Chunk),(C.set q (some pay.full))[β]?=some (some ch)->∃ β0 c0,(C++[some (pay.full)])[β0]?=some (some c0)/\ρ.set q (ρ C.length) β=ρ β0:=by
   intro β ch hc;rcases new β ch hc with ⟨rfl,rfl⟩|⟨hne,hc⟩
   ·exact ⟨C.length,_,last,hself⟩
   ·exact ⟨β,ch,old β ch hc,he β hne⟩
  obtain ⟨β0,c0,h1,h2⟩:=up β c hc;obtain ⟨γ0,d0,h3,h4⟩:=up γ d hd;rw[h2]at hn;rw[h4];exact h.subs.apart β0 γ0 c0 d0 n h1 h3 hn
 ·rcases new β c hc with ⟨b1,b2⟩|⟨b1,b2⟩<;>rcases new γ d hd with ⟨d1,d2⟩|⟨d1,d2⟩
  ·rw[b1,d1]
  ·subst b1;rw[hself]at hn;rw[he γ d1]at hm;have:=h.subs.one C.length γ _ _ n last (old γ d d2) hn hm;have:=(List.getElem?_eq_some_iff.1 d2).1;omega
  ·subst d1;rw[he β b1]at hn;rw[hself]at hm;have:=h.subs.one β C.length _ _ n (old β c b2) last hn hm;have:=(List.getElem?_eq_some_iff.1 b2).1;omega
  ·rw[he β b1]at hn;rw[he γ d1]at hm;exact h.subs.one β γ _ _ n (old β c b2) (old γ d d2) hn hm
theorem y3t{n β:Nat}{ch:Chunk}:(s.pad n).cH[β]?=some (some ch) ↔ s.cH[β]?=some (some ch):=by
 unfold St.pad;dsimp only;rcases lt_or_ge β s.cH.length with hl|hl
 ·rw[getElem?_append_left hl]
 ·rw[List.getElem?_append_right hl,getElem?_eq_none hl,List.getElem?_replicate];constructor
  ·intro h;split at h<;>cases h
  ·intro h;cases h
theorem Rel.pad(h:Rel P A0 w0 ρ s a w)(n:Nat):Rel P A0 w0 ρ (s.pad n) a w:=by
 have hA:Av A0 ρ (s.pad n).cH=Av A0 ρ s.cH:=by
  funext k
  unfold Av Sub;simp only[y3t]
 have hlen:s.cH.length<=(s.pad n).cH.length:=by unfold St.pad;simp
 exact ⟨h.size,λ i sv hi=>by rw[hA];exact h.slots i sv hi,λ β ch hc=>by rw[hA];exact h.cH β ch (y3t.1 hc),λ β γ c d hb hc=>h.inj β γ c d (y3t.1 hb) (y3t.1 hc),
  λ i sv hi=>SV.inn_mono hlen (h.names i sv hi),λ β ch hc=>Chunk.inn_mono hlen (h.cN β ch (y3t.1 hc)),h.below,h.dom,h.defers,h.dep,λ β ch q hc=>h.lpi β ch q (y3t.1 hc),h.round,h.glob,h.kZ,
  λ i sv hi=>by rw[hA];exact h.kS i sv hi,λ i sv hi=>SV.inn_mono hlen (h.kN i sv hi),h.subs.sub λ β ch hc=>⟨ch,y3t.1 hc,id⟩⟩
theorem yG8{R:Type}{s:St}{o:Oper}{K:St->Option R}{r:R}(h:y5c g s o K=some r):effK g s o K=some r:=by
 unfold y5c at h;split at h
 ·rename_i e ho;unfold effK;rw[ho];dsimp only;split at h
  ·cases h
  ·rename_i hm0;have hm:y58 g o.dst=false:=by
    simp only[or_eq_true,not_or,not_eq_true]at hm0;exact hm0.1
   cases hl:yN g.T e with
   |none=>rw[hl]at h;cases h
   |some i=>rw[hl]at h;simpa[hm]using h
 ·cases h
theorem yLe{cs:List (Option Chunk)}{sv:SV}{t:Ty}{y:t.den}(h:y0p cs sv t=some y):xOf sv t=none:=by
 unfold xOf;split
 ·cases h
 ·rfl
theorem yAh{cs cs':List (Option Chunk)}{sv:SV}{t:Ty}{y:t.den}(h:y0p cs sv t=some y):y3a cs' t sv=none:=by
 unfold y3a;split
 ·cases h
 ·rfl
theorem yD5{ps:List (Nat×Operand)}(h:y13 s (ps.map (·.2))=false):yI7 s ps=false:=by
 unfold yI7;split
 ·rename_i x;split
  ·rename_i β hx;simp[y13,hx]at h
  ·rfl
 ·rfl
theorem yJ2{cs:List (Option Chunk)}{β:Nat}{e:TypeId}{u:Ty}{xs:List u.den}{nn:Bool}(h:cs.getD β none=some (.arr e u xs nn)):yNR cs (.own β)=false:=by
 unfold yNR;dsimp only;rw[h]
theorem yDA{sv:SV}{t:Ty}{z:t.den}(h:y0p [] sv t=some z):s.settle sv=s:=by
 cases sv<;>first|rfl|(exfalso;revert h;simp[y0p,y9u,y5g])
theorem yHK{R:Type}{s:St}{o:Oper}{K:St->Option R}{r:R}(h:y4u g s o K=some r):effK g s o K=some r:=by
 unfold y4u at h;split at h
 ·rename_i t p x ho;unfold effK;rw[ho];dsimp only;split at h
  ·cases h
  ·rename_i hfz;have hfi:∀ z:St,freezeIf g z (.tmp p)=z:=λ z=>by unfold freezeIf;simp only[hfz];rfl
   have he:y8 g.T 0 s (.tmp p)=s.get p:=rfl;rw[he];cases hl:yN g.T t with
   |none=>rw[hl]at h;cases h
   |some i =>
    rw[hl]at h;cases hv:s.get p with
    |bP β off =>
     rw[hv]at h;dsimp only at h ⊢;simp only[hfi];split at h
     ·split at h
      ·rename_i hag;rw[if_pos hag];obtain ⟨y,hy,h⟩:=bind_eq_some_iff.1 h;rw[yLe hy,yAh hy,hy];exact h
      ·rename_i hag;rw[if_neg hag];exact h
     ·cases h
    |eP β n sz off =>
     rw[hv]at h;dsimp only at h ⊢;cases hc:s.cH.getD β none with
     |none=>rw[hc]at h;cases h
     |some c =>
      rw[hc]at h;cases c with
      |arr e u xs nn =>
       have hs:s.settle (y8 g.T t s x)=s:=by
        dsimp only at h;obtain ⟨_,h⟩:=yG h;obtain ⟨y,_,h⟩:=bind_eq_some_iff.1 h;obtain ⟨z,hz,_⟩:=bind_eq_some_iff.1 h;exact yDA hz
       have hn:yJo s β off (y8 g.T t s x)=false:=by
        unfold yJo;split
        ·rename_i h2;rw[hc]at h2;cases h2
        ·rfl
       rw[hn,hs,hc];exact h
      |_=>cases h
    |_=>rw[hv]at h;cases h
 ·cases h
noncomputable def y2Z{R:Type}(g:G)(s:St)(o:Oper)(k:St->Option R):Option R:=if y0a g o then y5c g s o k else y4u g s o k
theorem yIS{R:Type}{s:St}{o:Oper}{K:St->Option R}{r:R}(h:y2Z g s o K=some r):effK g s o K=some r:=by
 unfold y2Z at h;split at h
 ·exact yG8 h
 ·exact yHK h
theorem y1O{R:Type}{s:St}{o:Oper}{K:St->Option R}{r:R}(h:effD g s o K=some r):(y3E g o=true/\newD g s o K=some r)\/(y3E g o=false/\(g.ap.isEmpty=true\/y0a g o=true\/y2T g s o=true)/\y2Z g s o K=some r):=by
 unfold effD at h;cases hn:y3E g o with
 |true=>rw[hn]at h;exact .inl ⟨rfl,h⟩
 |false =>
  rw[hn]at h;simp only[false_eq_true,if_false]at h;unfold y2Z;split at h
  ·rename_i ha;exact .inr ⟨rfl,.inr (.inl ha),by rw[if_pos ha];exact h⟩
  ·rename_i ha;split at h
   ·rename_i he;exact .inr ⟨rfl,(or_eq_true _ _ ▸ he).imp id .inr,by rw[if_neg ha];exact h⟩
   ·cases h
theorem y59{o:Oper}(h:y0a g o=true):y3E g o=false:=by
 unfold y0a at h;unfold y3E y26;split at h
 ·rename_i e ho;rw[ho];dsimp only;rw[isNone_iff_eq_none.1 h];rfl
 ·cases h
theorem y2e{s s1:St}{o:Oper}(ha:y0a g o=true)(h:y2Z g s o some=some s1):∃ ch:Chunk,(∀ r,ch.has r=false)/\apAt g o.dst=none /\
  ∀ z:St,y2Z g z o some=some ({ z with cH:=z.cH++[some ch] }.put o.dst (.bP z.cH.length 0)):=by
 unfold y2Z at h;rw[if_pos ha]at h;unfold y5c at h;split at h
 ·rename_i e ho;split at h
  ·cases h
  ·rename_i hm;split at h
   ·rename_i ti hl;refine ⟨Chunk.box ti.ty (y0U ti.ty),λ r=>?_,?_,λ z=>?_⟩
    ·show (y0U ti.ty).any (SV.has r)=false
     rw[any_eq_false];intro sv hs;rw[yBu r ti.ty sv hs];simp
    ·simp only[or_eq_true,not_or,not_eq_true,Option.isSome_eq_false_iff,isNone_iff_eq_none]at hm;exact hm.2
    ·unfold y2Z;rw[if_pos ha];unfold y5c;rw[ho];dsimp only;rw[if_neg hm,hl]
   ·cases h
 ·cases h
theorem y9m{s s1:St}{o:Oper}(h:y2Z g s o some=some s1):∃ C u,(y0a g o=true->∃ c,C=s.cH++[c]) /\
  ∀ z:St,z.cH=s.cH->(∀ x∈o.op.operands.toList,∀ τ,y8 g.T τ z x=y8 g.T τ s x)->y2Z g z o some=some ({ z with cH:=C }.put o.dst u):=by
 unfold y2Z at h;split at h
 ·rename_i ha;unfold y5c at h;split at h
  ·rename_i e ho;split at h
   ·cases h
   ·rename_i hm;split at h
    ·rename_i ti hl;refine ⟨s.cH++[some (Chunk.box ti.ty (y0U ti.ty))],.bP s.cH.length 0,λ _=>⟨_,rfl⟩,λ z hz _=>?_⟩
     unfold y2Z;rw[if_pos ha];unfold y5c;rw[ho];dsimp only;rw[if_neg hm,hl,hz]
    ·cases h
  ·cases h
 ·rename_i ha;unfold y4u at h;split at h
  ·rename_i t p x ho;split at h
   ·cases h
   ·rename_i hfz;cases hl:yN g.T t with
    |none=>rw[hl]at h;cases h
    |some i =>
     rw[hl]at h;cases hv:s.get p with
     |bP β off =>
      rw[hv]at h;dsimp only at h;cases hc:s.cH.getD β none with
      |none=>rw[hc]at h;cases h
      |some c =>
       rw[hc]at h;cases c with
       |box u cells =>
        dsimp only at h;have op:∀ z:St,(∀ x∈o.op.operands.toList,∀ τ,y8 g.T τ z x=y8 g.T τ s x)->z.get p=s.get p/\∀ τ,y8 g.T τ z x=y8 g.T τ s x:=λ z hz=>by
         rw[ho]at hz;exact ⟨hz (.tmp p) (by simp[Op.operands]) 0,hz x (by simp[Op.operands])⟩
        split at h
        ·rename_i hag;obtain ⟨y,hy,h⟩:=bind_eq_some_iff.1 h;obtain ⟨hle,h⟩:=yG h;refine ⟨s.cH.set β (some (Chunk.box u (cells.take off++y0D i.ty y++cells.drop (off+i.ty.size)))),.undef,λ hq=>absurd hq ha,λ z hz hev=>?_⟩
         obtain ⟨e1,e2⟩:=op z hev;unfold y2Z;rw[if_neg ha];unfold y4u;rw[ho];dsimp only;rw[if_neg hfz,hl,e1,hv];dsimp only;rw[hz,hc];dsimp only;rw[if_pos hag,e2,hy];simp only[bind_some];rw[if_pos hle]
        ·rename_i hag;obtain ⟨hle,h⟩:=yG h;refine ⟨s.cH.set β (some (Chunk.box u (cells.set off (asFn g.E i.ty (y8 g.T t s x))))),.undef,λ hq=>absurd hq ha,λ z hz hev=>?_⟩
         obtain ⟨e1,e2⟩:=op z hev;unfold y2Z;rw[if_neg ha];unfold y4u;rw[ho];dsimp only;rw[if_neg hfz,hl,e1,hv];dsimp only;rw[hz,hc];dsimp only;rw[if_neg hag,e2,if_pos hle]
       |_=>cases h
     |eP β n sz off =>
      rw[hv]at h;dsimp only at h;cases hc:s.cH.getD β none with
      |none=>rw[hc]at h;cases h
      |some c =>
       rw[hc]at h;cases c with
       |arr e u xs nn =>
        dsimp only at h;have op:∀ z:St,(∀ x∈o.op.operands.toList,∀ τ,y8 g.T τ z x=y8 g.T τ s x)->z.get p=s.get p/\∀ τ,y8 g.T τ z x=y8 g.T τ s x:=λ z hz=>by
         rw[ho]at hz;exact ⟨hz (.tmp p) (by simp[Op.operands]) 0,hz x (by simp[Op.operands])⟩
        obtain ⟨hsz,h⟩:=yG h;obtain ⟨y,hy,h⟩:=bind_eq_some_iff.1 h;obtain ⟨v,hvv,h⟩:=bind_eq_some_iff.1 h;obtain ⟨y',hy',h⟩:=bind_eq_some_iff.1 h;refine ⟨s.cH.set β (some (Chunk.arr e u (xs.set n y') nn)),.undef,λ hq=>absurd hq ha,λ z hz hev=>?_⟩
        obtain ⟨e1,e2⟩:=op z hev;unfold y2Z;rw[if_neg ha];unfold y4u;rw[ho];dsimp only;rw[if_neg hfz,hl,e1,hv];dsimp only;rw[hz,hc];dsimp only;rw[if_pos hsz,e2,hy];simp only[bind_some];rw[hvv];simp only[bind_some];rw[hy'];simp only[bind_some]
       |_=>cases h
     |_=>rw[hv]at h;cases h
  ·cases h
theorem yE4{T:List (TypeId×TyI)}{τ:TypeId}{v:Value}{q:Nat}:(y4S T τ v).has q=false:=by
 unfold y4S;repeat' split
 all_goals rfl
theorem yA4{q:Nat}:∀ (l:List (Nat×Ty×List Value)) (b:Nat),(y5j l b).has q=false
 |[],_=>rfl
 |p::l,b=>by
  unfold y5j;split
  ·split<;>rfl
  ·exact yA4 l b
theorem yK9{T:List (TypeId×TyI)}{τ:TypeId}{q:Nat}{x:Operand}(h:y4q q s=true):(y8 T τ s x).has q=false:=by
 cases x with
 |tmp t =>
  show (s.get t).has q=false
  rw[St.get_def];rw[getD_eq_getElem?_getD];cases hs:s.slots[t]? with
  |none=>rfl
  |some sv=>exact (y4b h).1 t sv hs
 |const v=>exact yE4
 |global b=>exact yA4 _ b
 |func f=>rfl
theorem y7u{s:St}:∀ {l:List Operand},y13 s l=false->settleAll l s=s
 |[],_=>rfl
 |x::l,h=>by
  unfold y13 at h;rw[any_cons,Bool.or_eq_false_iff]at h;have ih:=y7u (s:=s) (l:=l) h.2;cases x with
  |tmp t =>
   have h1:=h.1;dsimp only at h1;have:s.settle (s.get t)=s:=by
    cases hv:s.get t<;>rw[hv]at h1<;>first|rfl|cases h1
   show settleAll l (s.settle (s.get t))=s
   rw[this];exact ih
  |_=>exact ih
theorem yC5{T:List (TypeId×TyI)}{τ:TypeId}{v:Value}:s.settle (y4S T τ v)=s:=by
 unfold y4S;repeat' split
 all_goals rfl
theorem y8o:∀ (l:List (Nat×Ty×List Value)) (b:Nat),s.settle (y5j l b)=s
 |[],_=>rfl
 |p::l,b=>by
  unfold y5j;split
  ·split<;>rfl
  ·exact y8o l b
theorem y8N{T:List (TypeId×TyI)}{τ:TypeId}{x:Operand}(h:y13 s [x]=false):s.settle (y8 T τ s x)=s:=by
 cases x with
 |tmp t =>
  unfold y13 at h;rw[any_cons,Bool.or_eq_false_iff]at h;have h1:=h.1;dsimp only at h1;show s.settle (s.get t)=s
  cases hv:s.get t<;>rw[hv]at h1<;>first|rfl|cases h1
 |const v=>exact yC5
 |global b=>exact y8o _ b
 |func f=>rfl
theorem y4U{T:List (TypeId×TyI)}{z:St}{l:List Operand}(h:∀ x∈l,∀ τ,y8 T τ z x=y8 T τ s x):y13 z l=y13 s l:=by
 unfold y13;induction l with
 |nil=>rfl
 |cons x l ih =>
  rw[any_cons,any_cons,ih (λ y hy=>h y (by simp[hy]))]
  congr 1
  cases x with
  |tmp t =>
   have:z.get t=s.get t:=h (.tmp t) (by simp) 0
   simp only[this]
  |_=>rfl
theorem y34{s1:St}(h:newD g s o some=some s1):∃ (kill:Option Nat) (q:Nat) (pay:Pay),apAt g o.dst=some (kill,q)/\(∃ d,o.dst=some d/\d < s.slots.length/\exe s (d,kill,q)=false) /\
  (∀ β,kill=some β->β < q/\(s.cH.getD β none).isSome=true/\∃ x∈o.op.operands.toList,y8 g.T 0 s x=.own β) /\
  s1=(({ s with cH:=(kl s.cH kill).set q pay.c }:St).put o.dst (pay.v q)) /\
  effX g s o some=some (({ s with cH:=kl s.cH kill++[some pay.full] }:St).put o.dst (pay.nm s.cH.length)) /\
  ∀ z:St,(∀ d,o.dst=some d->d < z.slots.length/\exe z (d,kill,q)=false)->(∀ β,kill=some β->z.cH.getD β none=s.cH.getD β none)->(∀ x∈o.op.operands.toList,∀ τ,y8 g.T τ z x=y8 g.T τ s x) ->
   newD g z o some=some (({ z with cH:=(kl z.cH kill).set q pay.c }:St).put o.dst (pay.v q)):=by
 unfold newD at h;cases hap:apAt g o.dst with
 |none=>rw[hap]at h;cases h
 |some kq =>
  obtain ⟨kill,q⟩:=kq;rw[hap]at h;dsimp only at h;obtain ⟨hf2,h⟩:=yG h;unfold y8p at hf2;have hf2:∃ d,o.dst=some d/\d < s.slots.length/\exe s (d,kill,q)=false:=by
   cases hd:o.dst with
   |none=>rw[hd]at hf2;cases hf2
   |some d =>
    rw[hd]at hf2;simp only[Slots.has_eq,and_eq_true,decide_eq_true_eq,not_eq_true']at hf2;exact ⟨d,rfl,hf2.1,hf2.2⟩
  have nexe:∀ {z:St},(∀ d,o.dst=some d->d < z.slots.length/\exe z (d,kill,q)=false)->y8p z o kill q=true:=by
   intro z hz;unfold y8p;obtain ⟨d,hd,_⟩:=hf2;rw[hd];obtain ⟨z1,z2⟩:=hz d hd;dsimp only;rw[Slots.has_eq,decide_eq_true (show d < z.sl.toList.length from z1),z2]
   rfl
  cases kill with
  |none =>
   split at h
   ·rename_i t n ps ho _;cases hl:yN g.T t with
    |none=>rw[hl]at h;cases h
    |some i =>
     rw[hl]at h;dsimp only at h;split at h
     ·rename_i u hty;split at h
      ·cases h
      ·rename_i hz;simp only[or_eq_true,not_or,not_eq_true]at hz;obtain ⟨hz1,hz2⟩:=hz;obtain ⟨y,hy,h⟩:=bind_eq_some_iff.1 h;cases h;refine ⟨none,q,.arr i.elem u y (!y9A g o) false,rfl,hf2,(λ β hβ=>by cases hβ),rfl,?_,λ z z2 z3 z4=>?_⟩
       ·rw[show effX g s o some=effK g s o some by unfold effX y26 y72;rw[ho]]
        unfold effK;rw[ho];dsimp only;rw[if_neg (by rw[yD5 hz2];simp),y7u hz2,hl]
        dsimp only;rw[hty];dsimp only;rw[if_neg (by rw[hz1];simp),hy]
        rfl
       ·unfold newD;rw[hap];dsimp only;rw[if_pos (nexe z2),ho];dsimp only;rw[hl];dsimp only;rw[hty];dsimp only;have hop:∀ p∈ps.toList,∀ τ,y8 g.T τ z p.2=y8 g.T τ s p.2:=λ p hp τ=>z4 p.2 (by rw[ho];simp[Op.operands];exact ⟨p.1,by simpa using hp⟩) τ
        rw[y4U (s:=s) (T:=g.T) (λ x hx τ=>by
         obtain ⟨p,hp,rfl⟩:=mem_map.1 hx;exact hop p hp τ),y1Q hop,hz1,hz2,hy]
        rfl
     ·cases h
   ·rename_i hk;cases hk
   ·rename_i nf args ts ho _;split at h
    ·rename_i q' x t hq ha hts;split at h
     ·cases h
     ·rename_i hset;simp only[not_eq_true]at hset;obtain ⟨ys,hy,h⟩:=bind_eq_some_iff.1 h;have hle:List.length ys<=memMax:=by
       by_cases hle:List.length ys<=memMax
       ·exact hle
       ·rw[decide_eq_false hle]at h;cases h
      rw[decide_eq_true hle,cond_true]at h;cases h;have hx:x∈o.op.operands.toList:=by rw[ho];simp[Op.operands,Call.operands];right;rw[<- Array.mem_toList_iff,ha];simp
      refine ⟨none,q,.arr q'.1 q'.2 ys false false,rfl,hf2,(λ β hβ=>by cases hβ),rfl,?_,λ z z2 z3 z4=>?_⟩
      ·unfold effX;rw[hq];dsimp only;unfold ownK;rw[ho];dsimp only;rw[ha,hts];dsimp only;rw[y8N hset,hy];simp only[bind_some];rw[decide_eq_true hle];rfl
      ·unfold newD;rw[hap];dsimp only;rw[if_pos (nexe z2),ho];dsimp only;rw[hq,ha,hts];dsimp only;have e1:y13 z [x]=y13 s [x]:=y4U (T:=g.T) (λ y hy τ=>by simp at hy;subst hy;exact z4 _ hx τ)
       rw[e1,hset,z4 x hx t,hy];simp only[false_eq_true,if_false,bind_some];rw[decide_eq_true hle];rfl
    ·cases h
   ·rename_i hk;cases hk
   ·rename_i e ho _;split at h
    ·cases h
    ·rename_i hm;split at h
     ·rename_i i hl;cases h;refine ⟨none,q,.box i.ty,rfl,hf2,(λ β hβ=>by cases hβ),rfl,?_,λ z z2 z3 z4=>?_⟩
      ·rw[show effX g s o some=effK g s o some by unfold effX y26 y72;rw[ho]]
       unfold effK;rw[ho];dsimp only;rw[hl];dsimp only;rw[if_neg hm];rfl
      ·unfold newD;rw[hap];dsimp only;rw[if_pos (nexe z2),ho];dsimp only;rw[if_neg hm,hl];rfl
     ·cases h
   ·cases h
  |some β =>
   split at h
   ·rename_i hk;cases hk
   ·rename_i args ts β' ho hk;cases hk;split at h
    ·rename_i b x t t' ha hts;split at h
     ·cases h
     ·rename_i hstr;simp only[or_eq_true,not_or,not_eq_true]at hstr;obtain ⟨hs1,hs2⟩:=hstr;have hb:b∈o.op.operands.toList:=by rw[ho];simp[Op.operands,Call.operands];rw[<- Array.mem_toList_iff,ha];simp
      have hx:x∈o.op.operands.toList:=by rw[ho];simp[Op.operands,Call.operands];rw[<- Array.mem_toList_iff,ha];simp
      split at h
      ·rename_i i γ hl hv;obtain ⟨hg,h⟩:=yG h;obtain ⟨rfl,hlt⟩:=hg;split at h
       ·rename_i e u xs nn hc;obtain ⟨hi,h⟩:=yG h;obtain ⟨ys,hy,h⟩:=bind_eq_some_iff.1 h;have hle:xs.length+List.length ys<=memMax:=by
         by_cases hle:xs.length+List.length ys<=memMax
         ·exact hle
         ·rw[decide_eq_false hle]at h;cases h
        rw[decide_eq_true hle,cond_true]at h;cases h;refine ⟨some γ,q,.arr e u (xs++ys) nn (y9A g o),rfl,hf2,λ β hβ=>?_,rfl,?_,λ z z2 z3 z4=>?_⟩
        ·cases hβ;exact ⟨hlt,by rw[hc];rfl,b,hb,hv⟩
        ·rw[show effX g s o some=effK g s o some by unfold effX y26 y72;rw[ho]]
         unfold effK;rw[ho];dsimp only;rw[ha,hts];dsimp only;rw[if_neg (by rw[hs1];simp),if_neg (by rw[hv,yJ2 hc];simp),y8N hs2,hl,hv]
         dsimp only;rw[hc];dsimp only;rw[if_pos hi,hy];simp only[bind_some];rw[show decide (xs.length+List.length ys<=memMax)=true from decide_eq_true hle]
         rfl
        ·unfold newD;rw[hap];dsimp only;rw[if_pos (nexe z2),ho];dsimp only;rw[ha,hts];dsimp only;have e1:y13 z [x]=y13 s [x]:=y4U (T:=g.T) (λ y hy τ=>by simp at hy;subst hy;exact z4 _ hx τ)
         rw[e1,hs1,hs2,hl,z4 b hb 0,hv];dsimp only;rw[if_neg (show ¬ ((false || false)=true) by simp),if_pos (show γ=γ/\γ < q from ⟨rfl,hlt⟩),z3 γ rfl,hc]
         dsimp only;rw[if_pos hi,z4 x hx t',hy];simp only[bind_some];rw[decide_eq_true hle];rfl
       ·cases h
      ·cases h
    ·cases h
   ·rename_i hk;cases hk
   ·rename_i t x hi β' ho hk;cases hk;have hx:Operand.tmp x∈o.op.operands.toList:=by rw[ho];simp[Op.operands]
    have hh:hi∈o.op.operands.toList:=by rw[ho];simp[Op.operands]
    split at h
    ·rename_i i γ kd n hl hv hn;obtain ⟨hg,h⟩:=yG h;obtain ⟨rfl,hlt⟩:=hg;split at h
     ·rename_i e u xs nn hc;obtain ⟨hi',h⟩:=yG h;cases hb:(decide (0<=n) && decide (n<=(List.length xs:Int)))with
      |false=>rw[hb]at h;cases h
      |true =>
       rw[hb,cond_true]at h;cases h;have hvt:y8 g.T t s (.tmp x)=.own γ:=hv;refine ⟨some γ,q,.arr e u (xs.take n.toNat) nn false,rfl,hf2,λ β hβ=>?_,rfl,?_,λ z z2 z3 z4=>?_⟩
       ·cases hβ;exact ⟨hlt,by rw[hc];rfl,.tmp x,hx,hv⟩
       ·rw[show effX g s o some=effK g s o some by unfold effX y26 y72;rw[ho]]
        unfold effK;rw[ho];dsimp only;rw[hl,hvt,hn];dsimp only;rw[hc];dsimp only;rw[if_pos hi',hb];rfl
       ·unfold newD;rw[hap];dsimp only;rw[if_pos (nexe z2),ho];dsimp only;rw[hl,show z.get x=s.get x from z4 (.tmp x) hx 0,hv,z4 hi hh 0,hn]
        dsimp only;rw[if_pos (show γ=γ/\γ < q from ⟨rfl,hlt⟩),z3 γ rfl,hc]
        dsimp only;rw[if_pos hi',hb];rfl
     ·cases h
    ·cases h
   ·rename_i hk;cases hk
   ·cases h
theorem y0b(cs:List (Option Chunk))(k:Option Nat):(kl cs k).length=cs.length:=by cases k<;>simp[kl]
theorem yKE{cs:List (Option Chunk)}{k:Option Nat}{β:Nat}{ch:Chunk}(h:(kl cs k)[β]?=some (some ch)):cs[β]?=some (some ch):=by
 cases k with
 |none=>exact h
 |some γ =>
  unfold kl at h;by_cases hb:γ=β
  ·subst hb;rw[getElem?_set]at h;split at h
   ·split at h<;>cases h
   ·exact h
  ·rwa[getElem?_set_ne hb]at h
theorem yDy{cs:List (Option Chunk)}{k:Option Nat}{β:Nat}:(kl cs k).getD β none=if k=some β then none else cs.getD β none:=by
 cases k with
 |none=>simp[kl]
 |some γ =>
  unfold kl;rw[getD_eq_getElem?_getD,getD_eq_getElem?_getD,getElem?_set];by_cases hb:γ=β
  ·subst hb;rw[if_pos rfl,if_pos rfl];split<;>rfl
  ·rw[if_neg hb,if_neg (by simpa using hb)]
theorem yM2{l:List (Nat×Option Nat×Nat)}{t:Nat}{p:Nat×Option Nat×Nat}(h:l.find? (λ p=>p.1 == t)=some p):p∈l/\p.1=t:=
 ⟨List.mem_of_find?_eq_some h,by have:=List.find?_some h;simpa using this⟩
theorem y4X{d kill:Option Nat}{q:Nat}(ha:apAt g d=some (kill,q)):∃ t,d=some t/\(t,kill,q)∈g.ap:=by
 unfold apAt at ha;obtain ⟨t,ht,ha⟩:=bind_eq_some_iff.1 ha;obtain ⟨p,hp,e⟩:=map_eq_some_iff.1 ha;obtain ⟨h1,h2⟩:=yM2 hp;refine ⟨t,ht,?_⟩;rw[<- e,<- h2];exact h1
theorem yCd{q d:Nat}{kill:Option Nat}(hf:y0L g s=true)(ha:apAt g (some d)=some (kill,q))(hn:exe s (d,kill,q)=false):q < s.cH.length/\(s.cH.getD q none).isSome=false/\y4q q s=true:=by
 obtain ⟨t,ht,hm⟩:=y4X ha;cases ht;have:=all_eq_true.1 hf _ hm;simp only[hn,Bool.false_or,and_eq_true,decide_eq_true_eq]at this;obtain ⟨⟨h1,h2⟩,h3⟩:=this;refine ⟨h1,?_,h3⟩;cases hc:s.cH.getD q none with
 |none=>rfl
 |some c=>rw[hc]at h2;cases h2
theorem yIE{q:Nat}{v sv:SV}(h:sv.has q=false):y1V q v sv=sv:=by
 cases sv with
 |own γ =>
  have:=y3H (β:=γ) rfl h;show (if γ=q then v else SV.own γ)=_
  rw[if_neg this]
 |_=>rfl
theorem y2K{q:Nat}{v:SV}:∀ {l:List SV},(∀ sv∈l,sv.has q=false)->l.map (y1V q v)=l
 |[],_=>rfl
 |x::l,h=>by rw[map_cons,yIE (h x (by simp)),y2K (λ y hy=>h y (by simp[hy]))]
theorem yCD{q:Nat}{v:SV}{ch:Chunk}(h:ch.has q=false):ch.map (y1V q v)=ch:=by
 cases ch with
 |box t cells=>show Chunk.box t (cells.map (y1V q v))=_;rw[y2K (y22 h)]
 |lp i info cells st=>show Chunk.lp i info (cells.map (y1V q v)) st=_;rw[y2K (y22 h)]
 |rcd t cells=>show Chunk.rcd t (cells.map (y1V q v))=_;rw[y2K (y22 h)]
 |_=>rfl
theorem Rel.fin{C:List (Option Chunk)}{e:TypeId}{u:Ty}{xs:List u.den}{nn:Bool}{q d:Nat}{s0:St}(h:Rel P A0 w0 ρ (({ s0 with cH:=C.set q (some (Chunk.arr e u xs nn)) }:St).put (some d) (.own q)) a w)(hq:q < C.length)
  (hno:y4q q s0=true) (hC:∀ (β:Nat) (ch:Chunk),C[β]?=some (some ch)->ch.has q=false):Rel P A0 w0 ρ (({ s0 with cH:=C.set q none }:St).put (some d) (vq true q u xs nn)) a w:=by
 obtain ⟨n1,n2,_⟩:=y4b hno;have hf:=h.freeze q;have e1:(({ s0 with cH:=C.set q (some (Chunk.arr e u xs nn)) }:St).put (some d) (.own q)).cH.getD q none=some (Chunk.arr e u xs nn):=by
  show (C.set q _).getD q none=_
  rw[getD_eq_getElem?_getD,getElem?_set_self hq];rfl
 have hsl:∀ v:SV,(s0.slots.set d (.own q)).map (y1V q v)=s0.slots.set d v:=by
  intro v;rw[List.map_set,y2K (λ sv hs=>by obtain ⟨i,hi⟩:=mem_iff_getElem?.1 hs;exact n1 i sv hi)]
  show s0.slots.set d (if q=q then v else SV.own q)=_
  rw[if_pos rfl]
 have hkp:∀ v:SV,s0.kept.map (y1V q v)=s0.kept:=λ v=>y2K (λ sv hs=>by obtain ⟨i,hi⟩:=mem_iff_getElem?.1 hs;exact n2 i sv hi)
 have hch:∀ v:SV,((C.set q (some (Chunk.arr e u xs nn))).set q none).map (Option.map (Chunk.map (y1V q v)))=C.set q none:=by
  intro v;rw[List.set_set];apply ext_getElem?;intro n;rw[getElem?_map];cases hn:(C.set q none)[n]? with
  |none=>rfl
  |some c =>
   cases c with
   |none=>rfl
   |some ch =>
    have:C[n]?=some (some ch):=by
     by_cases hqn:q=n
     ·subst hqn;rw[getElem?_set_self hq]at hn;cases hn
     ·rwa[getElem?_set_ne hqn]at hn
    simp only[map_some,yCD (hC n ch this)]
 unfold St.freeze at hf;rw[e1]at hf;dsimp only at hf;have e2:∀ v:SV,(({ s0 with cH:=C.set q (some (Chunk.arr e u xs nn)) }:St).put (some d) (.own q)).sub q (y1V q v)=({ s0 with cH:=C.set q none }:St).put (some d) v:=by
  intro v;have e3:(s0.sl.set d (.own q)).map (y1V q v)=s0.sl.set d v:=Slots.ext_list (by rw[Slots.toList_map,Slots.toList_set,Slots.toList_set];exact hsl v)
  show ({ sl:=(s0.sl.set d (.own q)).map (y1V q v),cH:=((C.set q (some (Chunk.arr e u xs nn))).set q none).map (Option.map (Chunk.map (y1V q v))),kept:=s0.kept.map (y1V q v),dep:=s0.dep,nmk:=s0.nmk,rnd:=s0.rnd }:St)={ sl:=s0.sl.set d v,cH:=C.set q none,kept:=s0.kept,dep:=s0.dep,nmk:=s0.nmk,rnd:=s0.rnd }
  rw[e3,hkp,hch]
 rw[e2]at hf;exact hf
theorem yGN{R:Type}{K:St->Option R}{r:R}(hE:∀ e∈g.E,FnOK P e)(hT:yc P g.T)(hf:y0L g s=true)(h:Rel P A0 w0 ρ s a w)(hk:newD g s o K=some r):OpTo P w0.ro o a w (Goes P A0 w0 K r):=by
 rw[yEl]at hk;obtain ⟨s1,h1,h2⟩:=bind_eq_some_iff.1 hk;obtain ⟨kill,q,pay,ha,hn,hkill,rfl,heff,_⟩:=y34 h1;obtain ⟨d,hd,_,hn⟩:=hn;rw[hd]at ha;obtain ⟨hq,hn,hno⟩:=yCd hf ha hn;have hX:=yA3 hE hT h heff;intro next Q hnx
 refine hX next Q λ a' w' hg=>hnx a' w' ?_
 obtain ⟨ρ',s',hR,hs'⟩:=hg;cases hs';rw[hd]at hR h2;have hM:=Rel.moved (C:=kl s.cH kill) h (y0b _ _) (λ β ch hc=>yKE hc) (by rw[y0b];exact hq) (by
  rw[yDy];split
  ·rfl
  ·exact hn) hno (by rw[y0b];exact hR)
 cases pay with
 |box t=>exact ⟨_,_,hM,h2⟩
 |arr e u xs nn fin =>
  cases fin with
  |false=>exact ⟨_,_,hM,h2⟩
  |true=>exact ⟨_,_,hM.fin (by rw[y0b];exact hq) hno (λ β ch hc=>(y4b hno).2.2 β ch (yKE hc)),h2⟩
theorem yOs(h:g.ap=[])(sv:SV):okD g o sv=true:=by unfold okD;rw[h];rfl
theorem yGt{R:Type}{K:SV->Option R}{r:R}(h:y8g g s o K=some r):yU g (msk g s) o K=some r:=by
 unfold y8g at h;split at h
 ·cases h
 ·exact h
theorem y8e(h:g.ap=[]):msk g s=s:=by unfold msk;rw[h];rfl
theorem y4i(h:g.ap=[]):y0L g s=true:=by unfold y0L;rw[h];rfl
theorem yEY:∀ (l:List (Nat×Option Nat×Nat)) (cs:List (Option Chunk)),Ext (mskL l cs) cs
 |[],_,_,_,h=>h
 |p::l,cs,β,c,h=>by
  have:=yEY l _ β c h;rw[getD_eq_getElem?_getD,getElem?_set]at this;split at this
  ·split at this<;>cases this
  ·rw[<- getD_eq_getElem?_getD,yDy]at this;split at this
   ·cases this
   ·exact this
theorem y3y{R:Type}{K:St->Option R}{ta tr:Ty}{m:ta.den->Option tr.den}{c:Call}{caps:St->List SV}{dst:Option Nat} :
  y0u g ta tr m s c caps true dst K=(y0g g ta tr m s c caps).bind λ sv=>K (s.put dst sv):=by
 unfold y0u y0g;simp only[Bool.true_or,Bool.and_true];split
 ·cases y0s g.E s.cH ta (y1G g.T s c.args.toList c.argTypes.toList++caps s)with
  |none=>rfl
  |some x =>
   simp only[bind_some];cases m x<;>rfl
 ·simp only[if_true];cases y0s g.E [] ta (y1G g.T s c.args.toList c.argTypes.toList++caps s)with
  |none=>rfl
  |some x =>
   simp only[bind_some];cases m x<;>rfl
theorem yA5{R:Type}{call:yv R}{K:St->Option R}{c:Call}{f:Operand}:yC3 g call true s o c f K=(y7H g o.dst s c f).bind λ sv=>K (s.put o.dst sv):=by
 unfold yC3 y7H;generalize y8 g.T 0 s f=sv;cases sv with
 |clo n caps =>
  dsimp only;cases yCV g o.dst n with
  |none=>rfl
  |some e =>
   dsimp only;cases e.rdk with
   |none=>exact y3y
   |some q=>exact yB4 _
 |val t m=>cases t<;>first|rfl|exact y3y
 |_=>rfl
theorem yGV{cs cs':List (Option Chunk)}(hx:Ext cs cs'){sv:SV}{u:Ty}{x:u.den}(h:y85 cs sv u=some x):y85 cs' sv u=some x:=by
 unfold y85 at h ⊢;split at h
 ·split at h
  ·rename_i hch;rw[hx _ _ hch];exact h
  ·cases h
 ·exact h
 ·cases h
theorem yNc{q:RdK}{cs cs':List (Option Chunk)}(hx:Ext cs cs'){svs:List SV}{sv:SV}(h:rdK q cs svs some=some sv):rdK q cs' svs some=some sv:=by
 unfold rdK at h ⊢;simp only[yBI]at h ⊢;split at h
 ·split at h
  ·rename_i hch;rw[hx _ _ hch];obtain ⟨y,h1,h⟩:=bind_eq_some_iff.1 h;obtain ⟨z,h2,h⟩:=bind_eq_some_iff.1 h;dsimp only;rw[h1,bind_some,yGV hx h2];exact h
  ·cases h
 ·split at h
  ·rename_i hch;rw[hx _ _ hch];exact h
  ·cases h
 ·cases h
theorem y8R{cs':List (Option Chunk)}{d:Option Nat}{c:Call}{f:Operand}{sv:SV}(hx:Ext s.cH cs')(h:y7H g d s c f=some sv):y7H g d { s with cH:=cs' } c f=some sv:=by
 have he:∀ x τ,y8 g.T τ { s with cH:=cs' } x=y8 g.T τ s x:=λ x τ=>by cases x<;>rfl
 have ct:∀ {ta tr:Ty} {m:ta.den->Option tr.den} {c:Call} {caps:St->List SV},caps { s with cH:=cs' }=caps s->y0g g ta tr m s c caps=some sv->y0g g ta tr m { s with cH:=cs' } c caps=some sv:=by
  intro ta tr m c caps hcaps h;unfold y0g at h ⊢;rw[hcaps,y2U (s':={ s with cH:=cs' }) (s:=s) (λ x _ τ=>he x τ)]
  split at h
  ·rename_i hfl;rw[if_pos hfl];obtain ⟨x,h1,h2⟩:=bind_eq_some_iff.1 h;rw[yAC hx h1];exact h2
  ·rename_i hfl;rw[if_neg hfl];exact h
 unfold y7H at h ⊢;rw[he];split at h
 ·rename_i n caps hv;split at h
  ·rename_i e hfe;split at h
   ·rename_i q hq;rw[y2U (s':={ s with cH:=cs' }) (s:=s) (λ x _ τ=>he x τ),show ya g.T f { s with cH:=cs' }=ya g.T f s by unfold ya;rw[he]]
    exact yNc hx h
   ·exact ct (by unfold ya;rw[he]) h
  ·cases h
 ·exact ct rfl h
 ·cases h
theorem y6d{call:(R:Type)->yv R}(hC:y2z P call)(hRd:y1p P call)(hT:yc P g.T)(hE:∀ e∈g.E,FnOK P e)(h:Rel P A0 w0 ρ s a w){dr:Bool}(hf:dr=true->y0L g s=true)(hk:y09 g (call R) dr s o K=some r):OpTo P w0.ro o a w (Goes P A0 w0 K r):=by
 unfold y09 at hk;split at hk
 ·split at hk
  ·rename_i hdr;rcases y1O hk with ⟨hn,hk⟩|⟨hn,_,hk⟩
   ·exact yGN hE hT (hf hdr) h hk
   ·have hk:effK g s o K=some r:=yIS hk;exact (y9k hE hT h hk).opTo (λ c hc=>by simp[effK,hc]at hk)
  ·exact yA3 hE hT h hk
 ·dsimp only at hk;have hS:Rel P A0 w0 ρ (if dr=true then s else preK g o (settleAll (y8c o) s)) a w:=by
   split
   ·exact h
   ·exact (Rel.settleAll _ h).preK g o
  generalize (if dr=true then s else preK g o (settleAll (y8c o) s))=s1 at hk hS
  split at hk
  ·rename_i f args ts ho;split at hk
   ·rename_i hd;rw[y5N]at hk;obtain ⟨sv,h1,h2⟩:=bind_eq_some_iff.1 hk;obtain ⟨_,h2⟩:=yG h2;have h3:y7H g o.dst s1 { callee:=.value f,args,argTypes:=ts } f=some sv:=y8R (s:=msk g s1) (cs':=s1.cH) (yEY g.ap s1.cH) h1;exact y7z hC hRd hE hS ho (dr:=true) (by rw[yA5,h3];exact h2)
   ·exact y7z hC hRd hE hS ho hk
  ·split at hk
   ·rw[y5b]at hk;obtain ⟨sv,h1,h2⟩:=bind_eq_some_iff.1 hk;obtain ⟨_,h2⟩:=yG h2;have h1:=yGt h1;have h3:yU g s1 o some=some sv:=y8w (s:=msk g s1) (cs':=s1.cH) (yEY g.ap s1.cH) h1;have h4:yU g s1 o (λ sv=>K (s1.put o.dst sv))=some r:=by rw[y37,h3];exact h2
    exact ((y5H hE hT hS h4).eff hS (λ sv=>rfl)).opTo (λ c hc=>by simp[yU,hc]at h4)
   ·exact ((y5H hE hT hS hk).eff hS (λ sv=>rfl)).opTo (λ c hc=>by simp[yU,hc]at hk)
noncomputable def yn(g:G)(s:St)(o:Oper):Option SV:=
 if y1U g o then none else
 match o.op with
 |.call { callee:=.value f,args,argTypes }=>y7H g o.dst (msk g s) { callee:=.value f,args,argTypes } f
 |_=>y8g g s o some
noncomputable def yIM(g:G)(s:St)(o:Oper):Option SV:=(yn g s o).bind λ sv=>if okD g o sv then some sv else none
theorem y9o{call:yv St}(he:y1U g o=false):y09 g call true s o some=(yIM g s o).map λ sv=>s.put o.dst sv:=by
 unfold y09 yIM yn;rw[he];simp only[false_eq_true,if_false]
 ·simp only[if_true];split
  ·rename_i f args ts ho;simp only[ho];cases ha:g.ap.isEmpty with
   |false =>
    simp only[Bool.not_false,Bool.and_self,if_true,y5N];cases y7H g o.dst (msk g s) { callee:=.value f,args:=args,argTypes:=ts } f with
    |none=>rfl
    |some sv =>
     simp only[bind_some];split<;>rfl
   |true =>
    have ha':g.ap=[]:=isEmpty_iff.1 ha;simp only[Bool.not_true,Bool.and_false,false_eq_true,if_false,if_true,yOs ha',y8e ha'];rw[yA5];cases y7H g o.dst s { callee:=.value f,args:=args,argTypes:=ts } f<;>rfl
  ·rename_i hno;split
   ·rename_i f args ts ho;exact absurd ho (hno f args ts)
   ·rw[y5b,Option.map_bind];congr 1
    funext sv
    show (if okD g o sv=true then some (s.put o.dst sv)else none)=Option.map _ (if okD g o sv=true then some sv else none)
    split<;>rfl
theorem y3v{ta tr:Ty}{m:ta.den->Option tr.den}{c:Call}{caps:St->List SV}(hc:s'.cH=s.cH)(h:∀ x∈c.args.toList,∀ τ,y8 g.T τ s' x=y8 g.T τ s x)(hcaps:caps s'=caps s) :
  y0g g ta tr m s' c caps=y0g g ta tr m s c caps:=by
 unfold y0g;rw[y2U h,hcaps,hc]
theorem y3e(hm:mskL g.ap s'.cH=mskL g.ap s.cH)(h:∀ x∈o.op.operands.toList,∀ τ,y8 g.T τ s' x=y8 g.T τ s x):yn g s' o=yn g s o:=by
 unfold yn;split
 ·rfl
 ·split
  ·rename_i f args ts ho;rw[ho]at h;have hc:(msk g s').cH=(msk g s).cH:=hm;have hm':∀ x∈(Op.call { callee:=.value f,args:=args,argTypes:=ts }).operands.toList,∀ τ,y8 g.T τ (msk g s') x=y8 g.T τ (msk g s) x:=λ x hx τ=>by
    have:=h x hx τ;cases x<;>exact this
   have hf:∀ τ,y8 g.T τ (msk g s') f=y8 g.T τ (msk g s) f:=λ τ=>hm' f (by simp[Op.operands,Call.operands]) τ
   have ha:∀ x∈args.toList,∀ τ,y8 g.T τ (msk g s') x=y8 g.T τ (msk g s) x:=λ x hx τ=>hm' x (by simp[Op.operands,Call.operands];right;simpa using hx) τ
   unfold y7H;rw[hf 0];split
   ·split
    ·split
     ·rw[y2U ha,hc,show ya g.T f (msk g s')=ya g.T f (msk g s) by unfold ya;rw[hf 0]]
     ·exact y3v hc ha (by unfold ya;rw[hf 0])
    ·rfl
   ·exact y3v hc ha rfl
   ·rfl
  ·unfold y8g;have hfr:y1W g s' o=y1W g s o:=by
    unfold y1W;cases ho:o.op with
    |field t x f=>rw[ho]at h;simp only[h x (by simp[Op.operands])]
    |extract x f=>rw[ho]at h;simp only[h x (by simp[Op.operands])]
    |indexAddr t x f=>rw[ho]at h;simp only[h x (by simp[Op.operands])]
    |_=>rfl
   rw[hfr];split
   ·rfl
   ·exact yDx _ hm h
theorem yCh{cs':List (Option Chunk)}(ha:g.ap=[])(hx:Ext s.cH cs'){sv:SV}(h:yn g s o=some sv):yn g { s with cH:=cs' } o=some sv:=by
 have he:∀ x τ,y8 g.T τ { s with cH:=cs' } x=y8 g.T τ s x:=λ x τ=>by cases x<;>rfl
 unfold yn at h ⊢;split at h
 ·cases h
 ·rename_i hf;rw[if_neg hf];split at h
  ·rename_i f args ts ho;rw[y8e ha]at h ⊢;exact y8R hx h
  ·unfold y8g at h ⊢;have hfr:y1W g { s with cH:=cs' } o=y1W g s o:=by
    unfold y1W;cases ho:o.op with
    |field t x f=>simp only[he]
    |extract x f=>simp only[he]
    |indexAddr t x f=>simp only[he]
    |_=>rfl
   rw[hfr];split at h
   ·cases h
   ·rename_i hn;rw[if_neg hn];rw[y8e ha]at h ⊢;exact y8w hx h
theorem yGM{cs':List (Option Chunk)}(hx0:Ext s.cH cs')(hx:Ext (mskL g.ap s.cH) (mskL g.ap cs')){sv:SV}(h:yn g s o=some sv):yn g { s with cH:=cs' } o=some sv:=by
 by_cases ha:g.ap=[]
 ·exact yCh ha hx0 h
 have he:∀ x τ,y8 g.T τ { s with cH:=cs' } x=y8 g.T τ s x:=λ x τ=>by cases x<;>rfl
 unfold yn at h ⊢;split at h
 ·cases h
 ·rename_i hf;rw[if_neg hf];split at h
  ·rename_i f args ts ho;exact y8R (s:=msk g s) (cs':=mskL g.ap cs') hx h
  ·unfold y8g at h ⊢;have hfr:y1W g { s with cH:=cs' } o=y1W g s o:=by
    unfold y1W;cases ho:o.op with
    |field t x f=>simp only[he]
    |extract x f=>simp only[he]
    |indexAddr t x f=>simp only[he]
    |_=>rfl
   rw[hfr];split at h
   ·cases h
   ·rename_i hn;rw[if_neg hn];exact y8w (s:=msk g s) (cs':=mskL g.ap cs') hx h
theorem yGO{C:List (Option Chunk)}(ha:g.ap=[])(hs:yJk g o=true):yn g { s with cH:=C } o=yn g s o:=by
 have he:∀ x τ,y8 g.T τ { s with cH:=C } x=y8 g.T τ s x:=λ x τ=>by cases x<;>rfl
 unfold yn y8g y1W;rw[y8e ha,y8e ha];split
 ·rfl
 ·unfold yJk yFj yMf yPj at hs;unfold yU;cases ho:o.op with
  |load t a =>
   rw[ho]at hs;have hv:g.vl=true:=by simpa using hs
   simp only[he,hv,Bool.true_and];cases y8 g.T 0 s a with
   |val u x=>cases yN g.T t with|none=>rfl|some i=>cases u<;>rfl
   |_=>rfl
  |fieldAddr t x f=>simp only[he]
  |indexAddr t x ix =>
   rw[ho]at hs;have hv:g.vl=true:=by simpa using hs
   simp only[he,hv,Bool.true_and];cases y8 g.T t s x with
   |val u y =>
    cases yN g.T t with
    |none=>rfl
    |some i=>cases y8 g.T 0 s ix with
     |val v n=>cases v<;>cases u<;>first|rfl|(rename_i u' _;cases u'<;>rfl)|(rename_i u';cases u'<;>rfl)
     |_=>rfl
   |_=>rfl
  |move x=>exact congrArg some (he x _)
  |assign x=>simp only[he]
  |pick c a b=>simp only[he]
  |binOp op t x y z=>simp only[he]
  |unOp op t x=>simp only[he]
  |convert t u x=>simp only[he]
  |field t x f =>
   simp only[he];cases y8 g.T 0 s x with
   |sR β=>rfl
   |_=>cases yN g.T t<;>rfl
  |extract x n =>
   simp only[he];cases y8 g.T 0 s x<;>rfl
  |_=>first|(rw[ho]at hs;cases hs;done)|(rw[ho]at hs;done)|(rw[ho]at hs;simp at hs;done)
noncomputable def y10(ops:Array Oper)(s:St)(o:Oper):Option Bool:=
 match o.guard with
 |none=>some true
 |some (j,want)=>(y46 ops s j).map λ b=>b == some want
theorem y0t(h:Rel P A0 w0 ρ s a w){b:Bool}(hg:y10 ops s o=some b):Region.wanted o (yielded ops a.tmps)=b:=by
 unfold y10 at hg;unfold Region.wanted;split at hg
 ·rename_i hgd;rw[hgd];cases hg;rfl
 ·rename_i j want hgd;rw[hgd];rw[map_eq_some_iff]at hg;obtain ⟨b',hb',rfl⟩:=hg;unfold y46 at hb';split at hb'
  ·rename_i t ht;split at hb'
   ·rename_i b2 hb2;cases hb';have:=h.get t;rw[hb2]at this;have hv:=y2m this;have hy:yielded ops a.tmps j=some b2:=by
     unfold yielded;rw[ht];simp only[bind_some];simp only[Act.eval]at hv;rw[Array.getD_eq_getD_getElem?]at hv;cases hq:a.tmps[t]? with
     |none=>rw[hq]at hv;cases hv
     |some v=>rw[hq]at hv;simp at hv;subst hv;rfl
    simp only[hy]
   ·rename_i hb2;cases hb';have:=h.get t;rw[hb2]at this;have hv:a.eval (.tmp t)=undef:=this;have hy:yielded ops a.tmps j=none:=by
     unfold yielded;rw[ht];simp only[bind_some];simp only[Act.eval]at hv;rw[Array.getD_eq_getD_getElem?]at hv;cases hq:a.tmps[t]? with
     |none=>rfl
     |some v=>rw[hq]at hv;simp at hv;subst hv;rfl
    simp only[hy]
   ·cases hb'
  ·cases hb'
theorem y6E{d i:Nat}{sv:SV}(h:d≠i):(s.put (some d) sv).get i=s.get i:=by
 rw[St.get_def,St.get_def,St.put_slots];simp only[getD_eq_getElem?_getD];rw[getElem?_set_ne h]
theorem yQ(d:Option Nat)(sv:SV):(s.put d sv).cH=s.cH:=by cases d<;>rfl
theorem yJE{T:List (TypeId×TyI)}{τ:TypeId}{d:Option Nat}{sv:SV}{x:Operand}(h:∀ t,d=some t->x≠.tmp t):y8 T τ (s.put d sv) x=y8 T τ s x:=by
 cases d with
 |none=>rfl
 |some t =>
  cases x with
  |tmp k=>exact y6E (λ e=>h t rfl (by rw[e]))
  |_=>rfl
theorem y3L{d:Option Nat}{sv:SV}(h:∀ t,d=some t->t ∉ o.looksAt ops):∀ x∈o.op.operands.toList,∀ τ,y8 g.T τ (s.put d sv) x=y8 g.T τ s x:=
 λ x hx τ=>yJE λ t ht hxt=>h t ht (by
  subst hxt;exact List.mem_append_left _ (mem_filterMap.2 ⟨.tmp t,by simpa using hx,rfl⟩))
theorem y1S{d:Option Nat}{sv:SV}(h:∀ t,d=some t->t ∉ o.looksAt ops):yn g (s.put d sv) o=yn g s o:=
 y3e (by rw[yQ]) (y3L h)
theorem yd{d:Option Nat}{sv:SV}(h:∀ t,d=some t->t ∉ o.looksAt ops):y10 ops (s.put d sv) o=y10 ops s o:=by
 cases d with
 |none=>rfl
 |some t =>
  unfold y10;cases hg:o.guard with
  |none=>rfl
  |some gw =>
   obtain ⟨j,want⟩:=gw;have:y46 ops (s.put (some t) sv) j=y46 ops s j:=by
    unfold y46;cases ht:(ops[j]?).bind (·.dst)with
    |none=>rfl
    |some u =>
     have hne:t≠u:=λ e=>h t rfl (by subst e;simp[Oper.looksAt,hg,ht])
     simp only[y6E hne]
   simp only[this]
theorem put_comm{d e:Option Nat}{x y:SV}(h:∀ t,d=some t->e≠some t):(s.put d x).put e y=(s.put e y).put d x:=by
 cases d with
 |none=>rfl
 |some t =>
  cases e with
  |none=>rfl
  |some u =>
   have hne:t≠u:=λ e=>h t rfl (by rw[e])
   show ({ s with sl:=(s.sl.set t x).set u y }:St)={ s with sl:=(s.sl.set u y).set t x }
   rw[show (s.sl.set t x).set u y=(s.sl.set u y).set t x from Slots.ext_list (by simp only[Slots.toList_set];exact List.set_comm _ _ hne)]
def sOp(g:G)(call:yv St)(ops:Array Oper)(T:Nat->Bool)(i:Nat)(K:St->Prop)(s:St):Prop:=
 match ops[i]? with
 |none=>K s
 |some o=>(T i=true->y0L g s=true)/\match y10 ops s o with
  |some true=>∃ s',y09 g call (T i) s o some=some s'/\K s'
  |some false=>(T i=true->y1h g s o=true)/\K (s.put o.dst .gone)
  |none=>False
def anyS(g:G)(call:yv St)(md:Region.Mode)(ops:Array Oper)(T:Nat->Bool)(Q:St->Prop):Nat->Array Bool->St->Prop
 |0,listed,s=>Region.ready md ops listed=[]/\Q s
 |fuel+1,listed,s=>(Region.ready md ops listed=[]->Q s)/\∀ i∈Region.ready md ops listed,sOp g call ops T i (anyS g call md ops T Q fuel (listed.setIfInBounds i true)) s
theorem yL5{call:yv St}{T:Nat->Bool}{i:Nat}{K K':St->Prop}(h:∀ s,K s->K' s)(hh:sOp g call ops T i K s):sOp g call ops T i K' s:=by
 unfold sOp at *;split
 ·rename_i ho;rw[ho]at hh;exact h _ hh
 ·rename_i o ho;rw[ho]at hh;dsimp only at hh;obtain ⟨hf,hh⟩:=hh;refine ⟨hf,?_⟩;split
  ·rename_i hg;rw[hg]at hh;obtain ⟨s',h1,h2⟩:=hh;exact ⟨s',h1,h _ h2⟩
  ·rename_i hg;rw[hg]at hh;exact ⟨hh.1,h _ hh.2⟩
  ·rename_i hg;rw[hg]at hh;exact hh
theorem y8A{call:(R:Type)->yv R}(hC:y2z P call)(hRd:y1p P call)(hT:yc P g.T)(hE:∀ e∈g.E,FnOK P e){T:Nat->Bool}{i:Nat}{K:St->Prop}{K':Act->World->Prop}{Q':Exit->Act->World->Prop}(h:Rel P A0 w0 ρ s a w)
  (hK:∀ ρ s a w,Rel P A0 w0 ρ s a w->K s->K' a w) (hh:sOp g (call St) ops T i K s):wpOpIn (ym w0.ro) 0 P ops Q' i K' a w:=by
 unfold sOp at hh;unfold wpOpIn;split
 ·rename_i ho;rw[ho]at hh;exact hK _ _ _ _ h hh
 ·rename_i o ho;rw[ho]at hh;dsimp only at hh;obtain ⟨hf,hh⟩:=hh;split at hh
  ·rename_i hg;rw[if_pos (y0t h hg)];obtain ⟨s',h1,h2⟩:=hh;refine (y6d hC hRd hT hE h hf h1 K' Q' ?_);rintro a' w' ⟨ρ',s2,hR,h3⟩
   cases h3;exact hK _ _ _ _ hR h2
  ·rename_i hg;rw[y0t h hg];simp only[false_eq_true,if_false];exact ⟨λ _ _=>trivial,hK _ _ _ _ (h.put o.dst (sv:=.gone) (v:=undef) trivial rfl) hh.2⟩
  ·exact hh.elim
theorem y6B{call:(R:Type)->yv R}(hC:y2z P call)(hRd:y1p P call)(hT:yc P g.T)(hE:∀ e∈g.E,FnOK P e){T:Nat->Bool}{Q:St->Prop}{Q':Exit->Act->World->Prop}(hQ:∀ ρ s a w,Rel P A0 w0 ρ s a w->Q s->Q' .normal a w) :
  ∀ (fuel:Nat) (listed:Array Bool) {ρ:Places} {s:St} {a:Act} {w:World},Rel P A0 w0 ρ s a w->anyS g (call St) md ops T Q fuel listed s->wpAnyIn (ym w0.ro) 0 P md ops Q' fuel listed a w
 |0,_,_,_,_,_,h,hh=>⟨hh.1,hQ _ _ _ _ h hh.2⟩
 |fuel+1,_,_,_,_,_,h,hh=>⟨λ h0=>hQ _ _ _ _ h (hh.1 h0),λ i hi=>y8A hC hRd hT hE h (λ _ _ _ _ hR hK=>y6B hC hRd hT hE hQ fuel _ hR hK) (hh.2 i hi)⟩
def Runs(g:G)(call:yv St)(ops:Array Oper)(o:Oper)(s s1:St):Prop:=
 y0L g s=true/\((y10 ops s o=some true/\y09 g call true s o some=some s1)\/(y10 ops s o=some false/\y1h g s o=true/\s1=s.put o.dst .gone))
theorem Runs.sOp{call:yv St}{T:Nat->Bool}{i:Nat}{s1:St}(hi:ops[i]?=some o)(hTi:T i=true)(h:Runs g call ops o s s1){K:St->Prop}(hK:K s1):sOp g call ops T i K s:=by
 unfold Vx.sOp;rw[hi];dsimp only;obtain ⟨hf,h⟩:=h;refine ⟨λ _=>hf,?_⟩
 rcases h with ⟨h1,h2⟩|⟨h1,h0,rfl⟩
 ·rw[h1,hTi];exact ⟨s1,h2,hK⟩
 ·rw[h1];exact ⟨λ _=>h0,hK⟩
theorem y92{call:yv St}{T:Nat->Bool}{i:Nat}{K:St->Prop}(hi:ops[i]?=some o)(hTi:T i=true)(h:sOp g call ops T i K s):∃ s1,Runs g call ops o s s1/\K s1:=by
 unfold sOp at h;rw[hi]at h;dsimp only at h;obtain ⟨hf,h⟩:=h;split at h
 ·rename_i hg;obtain ⟨s1,h1,h2⟩:=h;rw[hTi]at h1;exact ⟨s1,⟨hf hTi,.inl ⟨hg,h1⟩⟩,h2⟩
 ·rename_i hg;exact ⟨_,⟨hf hTi,.inr ⟨hg,h.1 hTi,rfl⟩⟩,h.2⟩
 ·exact h.elim
def yDR(g:G)(ops:Array Oper)(o:Oper)(sv:SV)(s:St):Prop:=
 (y10 ops s o=some true/\yIM g s o=some sv)\/(y10 ops s o=some false/\okD g o .gone=true/\sv=.gone)
theorem y0W{sv:SV}:yIM g s o=some sv ↔ yn g s o=some sv/\okD g o sv=true:=by
 unfold yIM;rw[bind_eq_some_iff];constructor
 ·rintro ⟨x,h1,h2⟩
  obtain ⟨h3,h4⟩:=yG h2;cases h4;exact ⟨h1,h3⟩
 ·rintro ⟨h1,h2⟩
  exact ⟨sv,h1,by rw[if_pos h2]⟩
omit [GT] in
theorem y1b{sv:SV}:okD g o sv=true ↔ ∀ p∈g.ap,sv.has p.2.2=false/\o.dst≠some p.1:=by
 unfold okD;rw[all_eq_true];simp only[and_eq_true,not_eq_true',bne_iff_ne]
theorem y8q{d:Option Nat}(h:apAt g d=none):∀ p∈g.ap,d≠some p.1:=by
 intro p hp hd;subst hd;unfold apAt at h;simp only[bind_some,Option.map_eq_none_iff,List.find?_eq_none]at h;exact h p hp (by simp)
theorem yGj(he:y1U g o=false):y1h g s o=true ↔ okD g o .gone=true:=by
 unfold y1h;rw[y1b,or_eq_true];constructor
 ·rintro (h|h)
  ·have h:=isEmpty_iff.1 h;exact λ p hp=>by rw[h]at hp;cases hp
  ·refine λ p hp=>⟨rfl,λ hd=>?_⟩
   cases ha:apAt g o.dst with
   |none=>exact y8q ha p hp hd
   |some q=>rw[ha,he]at h;simp at h
 ·intro h2;refine .inr ?_
  cases ha:apAt g o.dst with
  |none=>rfl
  |some q =>
   obtain ⟨kill,r⟩:=q;obtain ⟨t,ht,hm⟩:=y4X ha;exact absurd ht (h2 _ hm).2
theorem y1Z{call:yv St}(he:y1U g o=false){s1:St}:Runs g call ops o s s1 ↔ y0L g s=true/\∃ sv,yDR g ops o sv s/\s1=s.put o.dst sv:=by
 unfold Runs yDR;rw[y9o he,yGj he];constructor
 ·rintro ⟨hf,⟨h1,h2⟩|⟨h1,h0,rfl⟩⟩
  ·rw[map_eq_some_iff]at h2;obtain ⟨sv,h3,rfl⟩:=h2;exact ⟨hf,sv,.inl ⟨h1,h3⟩,rfl⟩
  ·exact ⟨hf,.gone,.inr ⟨h1,h0,rfl⟩,rfl⟩
 ·rintro ⟨hf,sv,⟨h1,h2⟩|⟨h1,h0,rfl⟩,rfl⟩
  ·exact ⟨hf,.inl ⟨h1,by rw[h2];rfl⟩⟩
  ·exact ⟨hf,.inr ⟨h1,h0,rfl⟩⟩
theorem y4p{sv:SV}(h:yDR g ops o sv s):∀ p∈g.ap,sv.has p.2.2=false/\o.dst≠some p.1:=by
 rcases h with ⟨_,h⟩|⟨_,h,rfl⟩
 ·exact y1b.1 (y0W.1 h).2
 ·exact y1b.1 h
theorem y42{q:Nat}{d:Option Nat}{sv:SV}(h:y4q q s=true)(hs:sv.has q=false):y4q q (s.put d sv)=true:=by
 cases d with
 |none=>exact h
 |some t =>
  unfold y4q at h ⊢;simp only[and_eq_true]at h ⊢;refine ⟨⟨?_,h.1.2⟩,h.2⟩;refine all_eq_true.2 λ x hx=>?_
  rw[St.put_slots]at hx;rcases List.mem_or_eq_of_mem_set hx with hx|rfl
  ·exact all_eq_true.1 h.1.1 x hx
  ·rw[hs];rfl
theorem yCH{d:Nat}{sv:SV}(h:d < s.slots.length):(s.put (some d) sv).get d=sv:=by
 rw[St.get_def,St.put_slots];simp only[getD_eq_getElem?_getD];rw[getElem?_set_self h];rfl
theorem y11(d:Option Nat)(sv:SV):(s.put d sv).slots.length=s.slots.length:=by cases d<;>simp[St.put_slots,St.put_none]
theorem y0k{p:Nat×Option Nat×Nat}{d:Option Nat}{sv:SV}(h:d≠some p.1):exe (s.put d sv) p=exe s p:=by
 unfold exe;rw[Slots.has_eq,Slots.has_eq,show (s.put d sv).sl.toList.length=s.sl.toList.length from y11 d sv]
 congr 1
 cases d with
 |none=>rfl
 |some t =>
  have:(s.put (some t) sv).get p.1=s.get p.1:=y6E (λ e=>h (by rw[e]))
  rw[this]
theorem y9Z{p:Nat×Option Nat×Nat}{C:List (Option Chunk)}:exe ({ s with cH:=C }:St) p=exe s p:=rfl
theorem y38{d:Option Nat}{sv:SV}(h:y0L g s=true)(hs:∀ p∈g.ap,sv.has p.2.2=false/\d≠some p.1):y0L g (s.put d sv)=true:=by
 refine all_eq_true.2 λ p hp=>?_
 have:=all_eq_true.1 h p hp;rw[yQ,y0k (hs p hp).2];simp only[or_eq_true,and_eq_true]at this ⊢;rcases this with h1|⟨h1,h2⟩
 ·exact .inl h1
 ·exact .inr ⟨h1,y42 h2 (hs p hp).1⟩
theorem yBm{l:List (Nat×Option Nat×Nat)}(h:(l.map (·.1)).Nodup){p q:Nat×Option Nat×Nat}(hp:p∈l)(hq:q∈l)(e:p.1=q.1):p=q:=by
 induction l with
 |nil=>cases hp
 |cons x l ih =>
  rw[map_cons,nodup_cons]at h;rcases mem_cons.1 hp with e1|h1<;>rcases mem_cons.1 hq with e2|h2
  ·rw[e1,e2]
  ·exact absurd (mem_map.2 ⟨q,h2,by rw[<- e,e1]⟩) h.1
  ·exact absurd (mem_map.2 ⟨p,h1,by rw[e,e2]⟩) h.1
  ·exact ih h.2 h1 h2
theorem yK6{l:List (Nat×Option Nat×Nat)}(h:(l.map (·.2.2)).Nodup){p q:Nat×Option Nat×Nat}(hp:p∈l)(hq:q∈l)(e:p.2.2=q.2.2):p=q:=by
 induction l with
 |nil=>cases hp
 |cons x l ih =>
  rw[map_cons,nodup_cons]at h;rcases mem_cons.1 hp with e1|h1<;>rcases mem_cons.1 hq with e2|h2
  ·rw[e1,e2]
  ·exact absurd (mem_map.2 ⟨q,h2,by rw[<- e,e1]⟩) h.1
  ·exact absurd (mem_map.2 ⟨p,h1,by rw[e,e2]⟩) h.1
  ·exact ih h.2 h1 h2
theorem y4k{kill:Option Nat}{q:Nat}{pay:Pay}{d:Nat}(h:y0L g s=true)(hn1:(g.ap.map (·.1)).Nodup)(hn2:(g.ap.map (·.2.2)).Nodup)(ha:apAt g (some d)=some (kill,q))(hd:d < s.slots.length)
  (hx:exe s (d,kill,q)=false):y0L g (({ s with cH:=(kl s.cH kill).set q (pay.c) }:St).put (some d) (pay.v q))=true:=by
 obtain ⟨t,ht,hm⟩:=y4X ha;cases ht;have refs:∀ r:Nat,(q≠r\/pay.fin=true)->y4q r s=true->y4q r (({ s with cH:=(kl s.cH kill).set q (pay.c) }:St).put (some d) (pay.v q))=true:=by
  intro r hr h2;refine y42 ?_ (by
   cases pay with
   |box t=>simp only[Pay.fin,false_eq_true,or_false]at hr;simp[Pay.v,SV.has,SV.names];exact λ hh=>hr hh.symm
   |arr e u xs nn fin =>
    unfold Pay.v vq;cases fin with
    |true=>cases nn<;>rfl
    |false=>simp only[Pay.fin,false_eq_true,or_false]at hr;simp[SV.has,SV.names];exact λ hh=>hr hh.symm)
  unfold y4q at h2 ⊢;simp only[and_eq_true]at h2 ⊢;refine ⟨h2.1,all_eq_true.2 λ c hc=>?_⟩
  rcases List.mem_or_eq_of_mem_set hc with hc|rfl
  ·cases c with
   |none=>rfl
   |some ch =>
    obtain ⟨i,hi⟩:=mem_iff_getElem?.1 hc;exact all_eq_true.1 h2.2 _ (mem_of_getElem? (yKE hi))
  ·cases pay with
   |box t=>have:=Pay.full_has r (.box t);show (!(Chunk.box t (y0U t)).has r)=true;rw[show (Chunk.box t (y0U t)).has r=false from this];rfl
   |arr e u xs nn fin=>cases fin<;>rfl
 refine all_eq_true.2 λ p hp=>?_
 have:=all_eq_true.1 h p hp;rw[yQ];by_cases hpd:p.1=d
 ·have hpe:p=(d,kill,q):=yBm hn1 hp hm hpd;subst hpe;cases hfin:pay.fin with
  |false =>
   have:exe (({ s with cH:=(kl s.cH kill).set q (pay.c) }:St).put (some d) (pay.v q)) (d,kill,q)=true:=by
    unfold exe;rw[Slots.has_eq,show (({ s with cH:=(kl s.cH kill).set q (pay.c) }:St).put (some d) (pay.v q)).sl.toList.length=s.slots.length from y11 _ _]
    dsimp only;rw[yCH (by exact hd),decide_eq_true (show d < s.slots.length from hd)]
    cases pay with
    |box t=>simp[Pay.v]
    |arr e u xs nn fin=>cases (show fin=false from hfin);simp[Pay.v,vq]
   rw[this];rfl
  |true =>
   simp only[hx,Bool.false_or,and_eq_true,decide_eq_true_eq]at this;obtain ⟨⟨h1,h3⟩,h2⟩:=this;simp only[or_eq_true,and_eq_true,decide_eq_true_eq];refine .inr ⟨⟨by rw[length_set,y0b];exact h1,?_⟩,refs q (.inr hfin) h2⟩
   rw[getD_eq_getElem?_getD,getElem?_set_self (by rw[y0b];exact h1)]
   cases pay with
   |box t=>cases hfin
   |arr e u xs nn fin=>cases (show fin=true from hfin);rfl
 ·have hpq:p.2.2≠q:=λ hh=>hpd (by rw[yK6 hn2 hp hm hh])
  rw[y0k (λ hh=>hpd (by simpa using hh.symm))]
  simp only[or_eq_true,and_eq_true,decide_eq_true_eq]at this ⊢;rcases this with h1|⟨⟨h1,h3⟩,h2⟩
  ·exact .inl h1
  ·refine .inr ⟨⟨by rw[length_set,y0b];exact h1,?_⟩,refs p.2.2 (.inl (Ne.symm hpq)) h2⟩
   rw[getD_eq_getElem?_getD,getElem?_set_ne (Ne.symm hpq),<- getD_eq_getElem?_getD,yDy];split
   ·rfl
   ·exact h3
theorem y1q(hn1:(g.ap.map (·.1)).Nodup)(hf:y0L g s=true)(h:y1h g s o=true):y0L g (s.put o.dst .gone)=true:=by
 unfold y1h at h;rw[or_eq_true]at h;rcases h with h|h
 ·exact y4i (isEmpty_iff.1 h)
 cases ha:apAt g o.dst with
 |none=>exact y38 hf λ p hp=>⟨rfl,y8q ha p hp⟩
 |some q =>
  obtain ⟨kill,r⟩:=q;obtain ⟨d,hd,hm⟩:=y4X ha;rw[ha]at h;simp only[and_eq_true]at h;have h4:=h.2;unfold y8p at h4;rw[hd]at h4;simp only[and_eq_true,not_eq_true']at h4;obtain ⟨_,hx⟩:=h4;rw[hd];refine all_eq_true.2 λ p hp=>?_
  have:=all_eq_true.1 hf p hp;rw[yQ];by_cases hpd:p.1=d
  ·have hpe:p=(d,kill,r):=yBm hn1 hp hm hpd;subst hpe;rw[hx]at this;simp only[Bool.false_or,and_eq_true]at this;simp only[or_eq_true,and_eq_true];exact .inr ⟨this.1,y42 this.2 rfl⟩
  ·rw[y0k (λ hh=>hpd (by simpa using hh.symm))]
   simp only[or_eq_true,and_eq_true]at this ⊢;rcases this with h1|⟨h1,h2⟩
   ·exact .inl h1
   ·exact .inr ⟨h1,y42 h2 rfl⟩
theorem y2s{s':St}(h:y1h g s' o=true)(hl:s.slots.length=s'.slots.length)(hx:∀ (d:Nat) (kill:Option Nat) (r:Nat),o.dst=some d->exe s (d,kill,r)=exe s' (d,kill,r)):y1h g s o=true:=by
 unfold y1h at h ⊢;rw[or_eq_true]at h ⊢;rcases h with h|h
 ·exact .inl h
 refine .inr ?_
 cases ha:apAt g o.dst with
 |none=>rfl
 |some q =>
  rw[ha]at h;dsimp only at h ⊢;rw[and_eq_true]at h ⊢;refine ⟨h.1,?_⟩;have h4:=h.2;unfold y8p at h4 ⊢;cases hd:o.dst with
  |none=>rw[hd]at h4;exact h4
  |some d =>
   rw[hd]at h4;dsimp only at h4 ⊢;rw[Slots.has_eq,show s.sl.toList.length=s'.sl.toList.length from hl,hx d _ _ hd,<- Slots.has_eq]
   exact h4
theorem y1v{ch:Chunk}{d:Option Nat}(h:y0L g s=true)(hch:∀ r,ch.has r=false)(hd:apAt g d=none):y0L g (({ s with cH:=s.cH++[some ch] }:St).put d (.bP s.cH.length 0))=true:=by
 refine all_eq_true.2 λ p hp=>?_
 have:=all_eq_true.1 h p hp;have hdp:d≠some p.1:=y8q hd p hp;rw[yQ,y0k (s:={ s with cH:=s.cH++[some ch] }) hdp,y9Z]
 simp only[or_eq_true,and_eq_true,decide_eq_true_eq]at this ⊢;rcases this with h1|⟨⟨h1,h2⟩,h3⟩
 ·exact .inl h1
 ·refine .inr ⟨⟨by simp;omega,?_⟩,y42 ?_ ?_⟩
  ·rw[getD_eq_getElem?_getD,getElem?_append_left h1,<- getD_eq_getElem?_getD];exact h2
  ·unfold y4q at h3 ⊢;simp only[and_eq_true]at h3 ⊢;refine ⟨h3.1,?_⟩;show (s.cH++[some ch]).all _=true
   rw[List.all_append,h3.2];simp[hch]
  ·show [s.cH.length].contains p.2.2=false
   have:p.2.2≠s.cH.length:=by omega
   simpa using this
theorem yHa(d:Option Nat)(sv:SV)(C:List (Option Chunk)):({ s.put d sv with cH:=C }:St)=({ s with cH:=C }:St).put d sv:=by cases d<;>rfl
theorem yHR(r:Nat):∀ (t:Ty) (x:t.den),∀ sv∈y0D t x,sv.has r=false:=by
 intro t;induction t with
 |pair a b iha ihb =>
  intro x sv hs;rcases mem_append.1 hs with hs|hs
  ·exact iha _ sv hs
  ·exact ihb _ sv hs
 |arr m t ih =>
  intro x sv hs;obtain ⟨i,_,hi⟩:=List.mem_flatMap.1 hs;exact ih _ sv hi
 |unit=>intro x sv hs;cases hs
 |_=>intro x sv hs;simp only[y0D,List.mem_singleton]at hs;subst hs;rfl
theorem y4z{s1:St}(ha:y0a g o=false)(hs:y2T g s o=true)(h:y2Z g s o some=some s1):∃ (β:Nat) (u:Ty) (cells cells':List SV),(∃ p∈g.ap,p.2.2=β)/\s.cH.getD β none=some (Chunk.box u cells) /\
  s1={ s with cH:=s.cH.set β (some (Chunk.box u cells')) }/\∀ r,(Chunk.box u cells).has r=false->(Chunk.box u cells').has r=false:=by
 unfold y2Z at h;rw[if_neg (by rw[ha];simp)]at h
 unfold y2T at hs;split at hs
 ·rename_i t p x ho;rw[and_eq_true]at hs;obtain ⟨hd,hs⟩:=hs;split at hs
  ·rename_i i β off hl hv;rw[and_eq_true]at hs;obtain ⟨hag,hin⟩:=hs;unfold y4u at h;rw[ho]at h;dsimp only at h;split at h
   ·cases h
   ·rw[hl,hv]at h;dsimp only at h;cases hc:s.cH.getD β none with
    |none=>rw[hc]at h;cases h
    |some c =>
     rw[hc]at h;cases c with
     |box u cells =>
      dsimp only at h;obtain ⟨q,hq,e⟩:=List.any_eq_true.1 hin;by_cases hag0:i.ty.agg=true;rotate_left
      ·rw[if_neg hag0]at h;obtain ⟨_,h⟩:=yG h;cases h;have hv1:(asFn g.E i.ty (y8 g.T t s x)).isVal=true:=by
        rcases or_eq_true _ _ ▸ hag with h1|h1
        ·exact absurd h1 hag0
        ·exact h1
       refine ⟨β,u,cells,cells.set off (asFn g.E i.ty (y8 g.T t s x)),⟨q,hq,by simpa using e⟩,hc,?_,λ r hr=>?_⟩
       ·rw[isNone_iff_eq_none.1 hd];rfl
       ·have h0:∀ sv∈cells,sv.has r=false:=y22 hr;show (cells.set off (asFn g.E i.ty (y8 g.T t s x))).any (SV.has r)=false
        rw[any_eq_false];intro sv hm;rcases List.mem_or_eq_of_mem_set hm with hm|hm
        ·rw[h0 sv hm];simp
        ·rw[hm];generalize asFn g.E i.ty (y8 g.T t s x)=z at hv1;cases z<;>first|(cases hv1;done)|(simp[SV.has,SV.names])
      rw[if_pos hag0]at h;obtain ⟨y,hy,h⟩:=bind_eq_some_iff.1 h;obtain ⟨hle,h⟩:=yG h;cases h;refine ⟨β,u,cells,cells.take off++y0D i.ty y++cells.drop (off+i.ty.size),⟨q,hq,by simpa using e⟩,hc,?_,λ r hr=>?_⟩
      ·rw[isNone_iff_eq_none.1 hd];rfl
      ·have h0:∀ sv∈cells,sv.has r=false:=y22 hr;show (cells.take off++y0D i.ty y++cells.drop (off+i.ty.size)).any (SV.has r)=false
       rw[any_eq_false];intro sv hm;have:sv.has r=false:=by
        rcases mem_append.1 hm with hm|hm
        ·rcases mem_append.1 hm with hm|hm
         ·exact h0 sv (List.mem_of_mem_take hm)
         ·exact yHR r _ _ sv hm
        ·exact h0 sv (List.mem_of_mem_drop hm)
       rw[this];simp
     |_=>cases h
  ·cases hs
 ·cases hs
theorem y6l{β:Nat}{u:Ty}{cells cells':List SV}(h:y0L g s=true)(hc:s.cH.getD β none=some (Chunk.box u cells))(hn:∀ r,(Chunk.box u cells).has r=false->(Chunk.box u cells').has r=false) :
  y0L g { s with cH:=s.cH.set β (some (Chunk.box u cells')) }=true:=by
 refine all_eq_true.2 λ p hp=>?_
 have:=all_eq_true.1 h p hp;rw[y9Z];simp only[or_eq_true,and_eq_true,decide_eq_true_eq]at this ⊢;rcases this with h1|⟨⟨h1,h2⟩,h3⟩
 ·exact .inl h1
 ·have hne:β≠p.2.2:=λ e=>by rw[<- e,hc]at h2;cases h2
  refine .inr ⟨⟨by simpa using h1,?_⟩,?_⟩
  ·rw[getD_eq_getElem?_getD,getElem?_set_ne hne,<- getD_eq_getElem?_getD];exact h2
  ·unfold y4q at h3 ⊢;simp only[and_eq_true]at h3 ⊢;refine ⟨h3.1,all_eq_true.2 λ c hm=>?_⟩
   rcases List.mem_or_eq_of_mem_set hm with hm|rfl
   ·exact all_eq_true.1 h3.2 c hm
   ·have h4:=all_eq_true.1 h3.2 (some (Chunk.box u cells)) (mem_of_getElem? (getD_some hc));simp only[not_eq_true']at h4 ⊢;exact hn _ h4
theorem y8i{call:yv St}{s':St}(hn1:(g.ap.map (·.1)).Nodup)(hn2:(g.ap.map (·.2.2)).Nodup)(hf:y0L g s=true)(h:y09 g call true s o some=some s'):y0L g s'=true:=by
 cases he:y1U g o with
 |false =>
  rw[y9o he,map_eq_some_iff]at h;obtain ⟨sv,h,rfl⟩:=h;exact y38 hf (y1b.1 (y0W.1 h).2)
 |true =>
  unfold y09 at h;rw[he]at h;simp only[if_true]at h;rcases y1O h with ⟨_,h⟩|⟨_,hemp|hal|hst,h⟩
  ·obtain ⟨kill,q,pay,ha,⟨d,hd,hdl,hx⟩,_,rfl,_,_⟩:=y34 h;rw[hd]at ha ⊢;exact y4k hf hn1 hn2 ha hdl hx
  ·exact y4i (isEmpty_iff.1 hemp)
  ·obtain ⟨ch,h1,h2,h3⟩:=y2e hal h;rw[h3 s]at h;cases h;exact y1v hf h1 h2
  ·cases hal:y0a g o with
   |true =>
    obtain ⟨ch,h1,h2,h3⟩:=y2e hal h;rw[h3 s]at h;cases h;exact y1v hf h1 h2
   |false =>
    obtain ⟨β,u,cells,cells',_,hc,rfl,hn⟩:=y4z hal hst h;exact y6l hf hc hn
theorem y0O.no{n r:Nat}(hr:n<=r):∀ {cs:List Cap},y0O n cs->(cs.filterMap λ|.box β=>some β|_=>none).contains r=false
 |[],_=>rfl
 |.box β::cs,h=>by
  have h1:β < n:=h.1;have h2:=y0O.no hr h.2;rw[List.filterMap_cons];simp only[List.contains_cons,h2,Bool.or_false];simp;omega
 |.val _ _::cs,h=>by
  rw[List.filterMap_cons];exact y0O.no (cs:=cs) hr h
theorem SV.inn_no{n r:Nat}(hr:n<=r):∀ {sv:SV},sv.inn n->sv.has r=false:=by
 intro sv h;cases sv with
 |clo f caps=>exact y0O.no hr h
 |bP β _=>simp only[SV.inn]at h;simp[SV.has,SV.names];omega
 |own β=>simp only[SV.inn]at h;simp[SV.has,SV.names];omega
 |eP β _ _ _=>simp only[SV.inn]at h;simp[SV.has,SV.names];omega
 |mO β=>simp only[SV.inn]at h;simp[SV.has,SV.names];omega
 |yld β=>simp only[SV.inn]at h;simp[SV.has,SV.names];omega
 |mP β _=>simp only[SV.inn]at h;simp[SV.has,SV.names];omega
 |oS β _ _=>simp only[SV.inn]at h;simp[SV.has,SV.names];omega
 |sR β=>simp only[SV.inn]at h;simp[SV.has,SV.names];omega
 |nO β _=>simp only[SV.inn]at h;simp[SV.has,SV.names];omega
 |nP β _ _ _ _=>simp only[SV.inn]at h;simp[SV.has,SV.names];omega
 |meth f β=>simp only[SV.inn]at h;simp[SV.has,SV.names];omega
 |_=>rfl
theorem Chunk.inn_no{n r:Nat}(hr:n<=r){ch:Chunk}(h:ch.inn n):ch.has r=false:=by
 cases ch with
 |box t cells=>exact any_eq_false.2 λ sv hs=>by rw[SV.inn_no hr (h sv hs)];simp
 |lp i info cells st=>exact any_eq_false.2 λ sv hs=>by rw[SV.inn_no hr (h sv hs)];simp
 |rcd t cells=>exact any_eq_false.2 λ sv hs=>by rw[SV.inn_no hr (h sv hs)];simp
 |mps k e u es hole =>
  cases hole with
  |none=>rfl
  |some q =>
   have:=h q rfl;simp only[Chunk.has,beq_eq_false_iff_ne];omega
 |_=>rfl
theorem yGK(h:Rel P A0 w0 ρ s a w)(ha:∀ p∈g.ap,s.cH.length<=p.2.2/\p.2.2 < s.cH.length+g.ap.length):y0L g (s.pad g.ap.length)=true:=by
 refine all_eq_true.2 λ p hp=>?_
 obtain ⟨h1,h2⟩:=ha p hp;rw[or_eq_true];refine .inr ?_
 simp only[and_eq_true,decide_eq_true_eq];refine ⟨⟨by unfold St.pad;simp;omega,?_⟩,?_⟩
 ·unfold St.pad;dsimp only;rw[getD_eq_getElem?_getD,List.getElem?_append_right h1,List.getElem?_replicate];split<;>rfl
 ·unfold y4q;simp only[and_eq_true];refine ⟨⟨all_eq_true.2 λ sv hs=>?_,all_eq_true.2 λ sv hs=>?_⟩,all_eq_true.2 λ c hc=>?_⟩
  ·obtain ⟨i,hi⟩:=mem_iff_getElem?.1 hs;rw[SV.inn_no h1 (h.names i sv hi)];rfl
  ·obtain ⟨i,hi⟩:=mem_iff_getElem?.1 hs;rw[SV.inn_no h1 (h.kN i sv hi)];rfl
  ·cases c with
   |none=>rfl
   |some ch =>
    obtain ⟨i,hi⟩:=mem_iff_getElem?.1 hc;dsimp only;rw[Chunk.inn_no h1 (h.cN i ch (y3t.1 hi))];rfl
theorem y9r{acc:List Nat}{i:Nat}:∀ (l:List Edge) (s:Nat),Nat.testBit (l.foldl (λ s e=>if Region.binds md e then (s ||| 2 ^ e.on) ||| acc.getD e.on 0 else s) s) i=true ->
  Nat.testBit s i=true\/∃ e∈l,Region.binds md e=true/\(e.on=i\/Nat.testBit (acc.getD e.on 0) i=true)
 |[],s,h=>.inl h
 |e::l,s,h=>by
  rw[List.foldl_cons]at h;rcases y9r l _ h with h1|⟨e',h1,h2⟩
  ·split at h1
   ·rename_i hb;simp only[Nat.testBit_or,or_eq_true]at h1;rcases h1 with (h1|h1)|h1
    ·exact .inl h1
    ·refine .inr ⟨e,mem_cons_self ..,hb,.inl ?_⟩;rw[Nat.testBit_two_pow]at h1;simpa using h1
    ·exact .inr ⟨e,mem_cons_self ..,hb,.inr h1⟩
   ·exact .inl h1
  ·exact .inr ⟨e',mem_cons_of_mem _ h1,h2⟩
def y0j(md:Region.Mode)(ops:List Oper)(ms:List Nat):Prop:=
 ∀ j i,y0X ms j i=true->∃ o,ops[j]?=some o/\∃ e∈o.after,Region.binds md e=true/\(e.on=i\/(e.on < j/\y0X ms e.on i=true))
theorem y5s:∀ (l pre:List Oper) (acc:List Nat),acc.length=pre.length->y0j md pre acc->y0j md (pre++l) (y7J md l acc)
 |[],pre,acc,_,h=>by rw[append_nil];exact h
 |o::l,pre,acc,hl,h=>by
  have:=y5s l (pre++[o]) (acc++[yFB md acc o.after.toList]) (by simp[hl]) (λ j i hw=>by
   have old:∀ p,p < acc.length->(acc++[yFB md acc o.after.toList]).getD p 0=acc.getD p 0:=λ p hp=>by
    rw[getD_eq_getElem?_getD,getD_eq_getElem?_getD,getElem?_append_left hp]
   rcases Nat.lt_trichotomy j acc.length with hj|hj|hj
   ·unfold y0X at hw;rw[old j hj]at hw;obtain ⟨q,h1,e,h2,h3,h4⟩:=h j i hw;refine ⟨q,by rw[getElem?_append_left (by omega)];exact h1,e,h2,h3,?_⟩
    rcases h4 with h4|⟨h4,h5⟩
    ·exact .inl h4
    ·refine .inr ⟨h4,?_⟩;unfold y0X;rw[old _ (by omega)]
     exact h5
   ·unfold y0X at hw;rw[getD_eq_getElem?_getD,hj,List.getElem?_append_right (Nat.le_refl _)]at hw;simp only[Nat.sub_self,List.getElem?_cons_zero,Option.getD_some]at hw;unfold yFB at hw;rcases y9r _ _ hw with h1|⟨e,h1,h2,h3⟩
    ·simp at h1
    ·refine ⟨o,by rw[List.getElem?_append_right (by omega)];simp[hj,hl],e,by simpa using h1,h2,?_⟩
     rcases h3 with h3|h3
     ·exact .inl h3
     ·rcases lt_or_ge e.on acc.length with h4|h4
      ·refine .inr ⟨by omega,?_⟩
       unfold y0X;rw[old _ h4];exact h3
      ·rw[getD_eq_getElem?_getD,getElem?_eq_none h4]at h3;simp at h3
   ·unfold y0X at hw;rw[getD_eq_getElem?_getD,getElem?_eq_none (by simp;omega)]at hw
    simp at hw)
  rw[List.append_assoc]at this;exact this
def y2A(md:Region.Mode)(ops:Array Oper)(listed:Array Bool):Prop:=
 ∀ p o,ops[p]?=some o->listed.getD p false=true->∀ e∈o.after,Region.binds md e=true->listed.getD e.on false=true
theorem y2A.step{listed:Array Bool}(h:y2A md ops listed){j:Nat}(hj:j∈Region.ready md ops listed):y2A md ops (listed.setIfInBounds j true):=by
 intro p o hp hl e he hb;by_cases hpj:j=p
 ·subst hpj;obtain ⟨_,o',ho',hall⟩:=mem_ready.1 hj;rw[hp]at ho';cases ho';exact getD_set_true (hall e he hb)
 ·refine getD_set_true (h p o hp ?_ e he hb);rwa[getD_set_ne false hpj]at hl
theorem y2v{ms:List Nat}(hm:y0j md ops.toList ms){listed:Array Bool}(hc:y2A md ops listed){i:Nat}(hi:listed.getD i false=false) :
  ∀ (j:Nat),y0X ms j i=true->∃ o,ops[j]?=some o/\∃ e∈o.after,Region.binds md e=true/\listed.getD e.on false=false:=by
 intro j;induction j using Nat.strongRecOn with
 |ind j ih =>
  intro hw;obtain ⟨o,h1,e,h2,h3,h4⟩:=hm j i hw;refine ⟨o,by simpa using h1,e,h2,h3,?_⟩
  rcases h4 with rfl|⟨h4,h5⟩
  ·exact hi
  ·obtain ⟨o',g1,e',g2,g3,g4⟩:=ih e.on h4 h5;cases hq:listed.getD e.on false with
   |false=>rfl
   |true =>
    have:=hc e.on o' g1 hq e' g2 g3;rw[g4]at this;cases this
theorem y0E{ms:List Nat}(hm:y0j md ops.toList ms){listed:Array Bool}(hc:y2A md ops listed){i j:Nat}(hi:listed.getD i true=false)(hj:j∈Region.ready md ops listed):y0X ms j i=false:=by
 cases hw:y0X ms j i with
 |false=>rfl
 |true =>
  have hi':listed.getD i false=false:=by
   rw[Array.getD_eq_getD_getElem?]at hi ⊢;cases hq:listed[i]? with
   |none=>rfl
   |some b=>rw[hq]at hi;simpa using hi
  obtain ⟨o,h1,e,h2,h3,h4⟩:=y2v hm hc hi' j hw;obtain ⟨_,o',g1,g2⟩:=mem_ready.1 hj;rw[h1]at g1;cases g1;have:=g2 e h2 h3;rw[h4]at this;cases this
def runS(g:G)(call:yv St)(ops:Array Oper)(T:Nat->Bool)(Q:St->Prop):List Oper->Nat->St->Prop
 |[],_,s=>Q s
 |_::l,k,s=>sOp g call ops T k (runS g call ops T Q l (k+1)) s
def marks:List (Nat×Option Nat×Nat)->List Nat
 |[]=>[]
 |p::l=>p.2.2::(p.2.1.toList++marks l)
theorem y8O:∀ {l:List (Nat×Option Nat×Nat)} {t q:Nat} {kill:Option Nat},(t,kill,q)∈l->q∈marks l/\∀ β,kill=some β->β∈marks l
 |p::l,t,q,kill,h=>by
  unfold marks;rcases mem_cons.1 h with e|h
  ·subst e;exact ⟨mem_cons_self ..,λ β hβ=>by subst hβ;simp⟩
  ·obtain ⟨h1,h2⟩:=y8O h;exact ⟨by simp[h1],λ β hβ=>by simp[h2 β hβ]⟩
theorem yCk{cs:List (Option Chunk)}{k:Option Nat}{n:Nat}:(kl cs k)[n]?=if n < cs.length/\k=some n then some none else cs[n]?:=by
 cases k with
 |none=>simp[kl]
 |some γ =>
  unfold kl;rw[getElem?_set];by_cases h:γ=n
  ·subst h;by_cases h2:γ < cs.length
   ·simp[h2]
   ·simp[h2,getElem?_eq_none (Nat.le_of_not_lt h2)]
  ·simp[h]
theorem y8Y{cs:List (Option Chunk)}{q n:Nat}{x:Option Chunk}:(cs.set q x)[n]?=if n < cs.length/\q=n then some x else cs[n]?:=by
 rw[getElem?_set];by_cases h:q=n
 ·subst h;by_cases h2:q < cs.length
  ·simp[h2]
  ·simp[h2,getElem?_eq_none (Nat.le_of_not_lt h2)]
 ·simp[h]
theorem y4m:∀ (l:List (Nat×Option Nat×Nat)) (cs:List (Option Chunk)) (n:Nat),(mskL l cs)[n]?=if n < cs.length/\n∈marks l then some none else cs[n]?
 |[],cs,n=>by simp[mskL,marks]
 |p::l,cs,n=>by
  unfold mskL marks;rw[y4m l,y8Y,yCk,length_set,y0b];by_cases h1:n < cs.length
  ·by_cases h2:n∈marks l
   ·simp[h1,h2]
   ·by_cases h3:p.2.2=n
    ·simp[h1,h2,h3]
    ·by_cases h4:p.2.1=some n
     ·simp[h1,h2,h3,h4]
     ·have h5:n ∉ p.2.1.toList:=λ hh=>h4 (by simpa[Option.mem_toList]using hh)
      simp[h1,h2,h3,h4,h5,Ne.symm h3]
  ·simp[h1]
theorem yEs{l:List (Nat×Option Nat×Nat)}{t q:Nat}{kill:Option Nat}(h:(t,kill,q)∈l)(cs:List (Option Chunk))(x:Option Chunk):mskL l ((kl cs kill).set q x)=mskL l cs:=by
 obtain ⟨h1,h2⟩:=y8O h;apply ext_getElem?;intro n;rw[y4m,y4m,y8Y,yCk,length_set,y0b];by_cases hn:n < cs.length
 ·by_cases hm:n∈marks l
  ·simp[hn,hm]
  ·have e1:q≠n:=λ e=>hm (e ▸ h1)
   have e2:kill≠some n:=λ e=>hm (h2 n e)
   simp[hn,hm,e1,e2]
 ·simp[hn]
theorem yOD{cs:List (Option Chunk)}{ki kj:Option Nat}{qi qj:Nat}{x y:Option Chunk}(h1:qi≠qj)(h2:ki≠some qj)(h3:kj≠some qi) :
  (kl ((kl cs ki).set qi x) kj).set qj y=(kl ((kl cs kj).set qj y) ki).set qi x:=by
 apply ext_getElem?;intro n;simp only[y8Y,yCk,length_set,y0b];by_cases hn:n < cs.length
 ·by_cases a:qj=n
  ·subst a;simp[hn,h1,h2]
  ·by_cases b:qi=n
   ·subst b;simp[hn,a,h3]
   ·simp[hn,a,b];by_cases c:kj=some n<;>by_cases d:ki=some n<;>simp[c,d]
 ·simp[hn]
theorem y91{cs:List (Option Chunk)}{k:Option Nat}{q n:Nat}{x:Option Chunk}(h1:n≠q)(h2:k≠some n):((kl cs k).set q x).getD n none=cs.getD n none:=by
 rw[getD_eq_getElem?_getD,getD_eq_getElem?_getD,y8Y,yCk];simp[Ne.symm h1,h2]
theorem yLr{l:List (Nat×Option Nat×Nat)}{β:Nat}(h:∃ p∈l,p.2.2=β)(cs:List (Option Chunk))(x:Option Chunk):mskL l (cs.set β x)=mskL l cs:=by
 obtain ⟨⟨t,kill,q⟩,hp,rfl⟩:=h;obtain ⟨h1,_⟩:=y8O hp;apply ext_getElem?;intro n;rw[y4m,y4m,length_set];by_cases hn:n < cs.length
 ·by_cases hm:n∈marks l
  ·simp[hn,hm]
  ·have e1:q≠n:=λ e=>hm (e ▸ h1)
   simp only[hm,and_false,if_false];exact getElem?_set_ne e1
 ·simp[hn]
theorem yME(l:List (Nat×Option Nat×Nat))(cs:List (Option Chunk))(c:Option Chunk):Ext (mskL l cs) (mskL l (cs++[c])):=λ β ch h=>by
 rw[getD_eq_getElem?_getD]at h ⊢;rw[y4m]at h ⊢;split at h
 ·cases h
 ·rename_i hn;have hl:β < cs.length:=by
   rcases lt_or_ge β cs.length with hl|hl
   ·exact hl
   ·rw[getElem?_eq_none hl]at h;cases h
  rw[if_neg (λ hh=>hn ⟨hl,hh.2⟩),getElem?_append_left hl]
  exact h
theorem yGm{cs:List (Option Chunk)}{k:Option Nat}{q:Nat}{x c:Option Chunk}(hk:∀ β,k=some β->β < cs.length)(hq:q < cs.length):(kl (cs++[c]) k).set q x=(kl cs k).set q x++[c]:=by
 have h1:kl (cs++[c]) k=kl cs k++[c]:=by
  cases k with
  |none=>rfl
  |some β=>exact List.set_append_left _ _ (hk β rfl)
 rw[h1,List.set_append_left _ _ (by rw[y0b];exact hq)]
theorem y6O{call:yv St}{o:Oper}{ch:Chunk}(ha:y0a g o=true)(he:y1U g o=true)(hf:y0L g s=true)(hg:y10 ops s o=some true)
  (hz:∀ z:St,y2Z g z o some=some ({ z with cH:=z.cH++[some ch] }.put o.dst (.bP z.cH.length 0))):Runs g call ops o s (({ s with cH:=s.cH++[some ch] }:St).put o.dst (.bP s.cH.length 0)):=by
 refine ⟨hf,.inl ⟨hg,?_⟩⟩;unfold y09 effD;rw[he,y59 ha];simp only[if_true,false_eq_true,if_false,ha];have:=hz s;unfold y2Z at this;rw[if_pos ha]at this;exact this
def yIa(g:G)(oi oj:Oper):Prop:=
 (y1U g oi=false/\(y1U g oj=true->(y3E g oj=true/\g.ap≠[])\/y0a g oj=true\/yJk g oi=true\/g.ap≠[])) \/
 (y1U g oi=true/\y3E g oi=true/\g.ap≠[]/\(y1U g oj=false\/y0a g oj=true\/(y3E g oj=true/\apLt g oi oj=true)))
theorem swap{call:yv St}{oi oj:Oper}{s1 s2:St}(hn1:(g.ap.map (·.1)).Nodup)(hn2:(g.ap.map (·.2.2)).Nodup)(hap:oi.apart ops oj=true)(hc:yIa g oi oj)
  (h1:Runs g call ops oi s s1) (h2:Runs g call ops oj s1 s2):∃ s',Runs g call ops oj s s'/\Runs g call ops oi s' s2:=by
 obtain ⟨a1,a2,a3⟩:=Oper.apart_spec hap;have a2':∀ t,oj.dst=some t->oi.dst≠some t:=λ t ht hh=>a2 t hh ht
 rcases hc with ⟨hei,hc⟩|⟨hei,hni,hne,hc⟩
 ·obtain ⟨hfs,sv,yi,rfl⟩:=(y1Z hei).1 h1;have hsv:=y4p yi;have again:∀ (s':St) (u:SV),y10 ops (s'.put oj.dst u) oi=y10 ops s oi->yn g (s'.put oj.dst u) oi=yn g s oi->y0L g (s'.put oj.dst u)=true->Runs g call ops oi (s'.put oj.dst u) ((s'.put oj.dst u).put oi.dst sv):=by
   intro s' u e1 e2 e3;refine (y1Z hei).2 ⟨e3,sv,?_,rfl⟩;rcases yi with ⟨y1,y2⟩|⟨y1,_,y2⟩
   ·exact .inl ⟨by rw[e1];exact y1,y0W.2 ⟨by rw[e2];exact (y0W.1 y2).1,y1b.2 hsv⟩⟩
   ·exact .inr ⟨by rw[e1];exact y1,y1b.2 λ p hp=>⟨rfl,(hsv p hp).2⟩,y2⟩
  cases hej:y1U g oj with
  |false =>
   obtain ⟨_,u,yj,rfl⟩:=(y1Z hej).1 h2;have hu:=y4p yj;refine ⟨s.put oj.dst u,(y1Z hej).2 ⟨hfs,u,?_,rfl⟩,?_⟩
   ·rcases yj with ⟨y1,y2⟩|⟨y1,_,y2⟩
    ·exact .inl ⟨by rw[yd a1]at y1;exact y1,y0W.2 ⟨by rw[<- y1S (sv:=sv) a1];exact (y0W.1 y2).1,y1b.2 hu⟩⟩
    ·exact .inr ⟨by rw[yd a1]at y1;exact y1,y1b.2 λ p hp=>⟨rfl,(hu p hp).2⟩,y2⟩
   ·rw[put_comm a2];exact again s u (yd a3) (y1S a3) (y38 hfs hu)
  |true =>
   rcases h2.2 with ⟨g2,h2⟩|⟨g2,g3,rfl⟩
   ·rw[yd a1]at g2;unfold y09 at h2;rw[hej]at h2;simp only[if_true]at h2;have hop:∀ x∈oj.op.operands.toList,∀ τ,y8 g.T τ s x=y8 g.T τ (s.put oi.dst sv) x:=λ x hx τ=>(y3L a1 x hx τ).symm
    rcases y1O h2 with ⟨hnj,h2⟩|⟨hnj,hemp,h2⟩
    ·obtain ⟨kill,q,pay,ha,⟨d,hd,hdl,hx⟩,_,rfl,_,hz⟩:=y34 h2;rw[hd]at ha;obtain ⟨t,ht,hm⟩:=y4X ha;cases ht;rw[y11]at hdl;rw[y0k (a2' d hd)]at hx;have hs:=hz s (λ d' hd'=>by rw[hd]at hd';cases hd';exact ⟨hdl,hx⟩) (λ β _=>by rw[yQ]) hop
     refine ⟨_,⟨hfs,.inl ⟨g2,by unfold y09 effD;rw[hej,hnj];simp only[if_true];exact hs⟩⟩,?_⟩
     have:=again { s with cH:=(kl s.cH kill).set q (pay.c) } (pay.v q) (yd a3) ((y1S a3).trans (y3e (yEs hm _ _) (λ x _ τ=>by cases x<;>rfl))) (by
      rw[hd];exact y4k hfs hn1 hn2 ha hdl hx)
     rw[put_comm a2']at this;have e3:({ s.put oi.dst sv with cH:=(kl (s.put oi.dst sv).cH kill).set q (pay.c) }:St)=({ s with cH:=(kl s.cH kill).set q (pay.c) }:St).put oi.dst sv:=by
      cases oi.dst<;>rfl
     rw[e3];exact this
    by_cases hal:y0a g oj=true
    ·obtain ⟨ch,k1,k2,k3⟩:=y2e hal h2;rw[k3]at h2;cases h2;refine ⟨_,y6O hal hej hfs g2 k3,?_⟩;have hf':=y1v (d:=oj.dst) hfs k1 k2;have e3:(({ s.put oi.dst sv with cH:=(s.put oi.dst sv).cH++[some ch] }:St).put oj.dst (.bP (s.put oi.dst sv).cH.length 0))=((({ s with cH:=s.cH++[some ch] }:St).put oj.dst (.bP s.cH.length 0)).put oi.dst sv):=by
      rw[yQ,yHa,put_comm a2]
     rw[e3];refine (y1Z hei).2 ⟨hf',sv,?_,rfl⟩;rcases yi with ⟨y1,y2⟩|⟨y1,_,y2⟩
     ·refine .inl ⟨by rw[yd (s:={ s with cH:=s.cH++[some ch] }) a3];exact y1,y0W.2 ⟨?_,y1b.2 hsv⟩⟩
      rw[y1S (s:={ s with cH:=s.cH++[some ch] }) a3]
      exact yGM (y9i _ _) (yME _ _ _) (y0W.1 y2).1
     ·exact .inr ⟨by rw[yd (s:={ s with cH:=s.cH++[some ch] }) a3];exact y1,y1b.2 λ p hp=>⟨rfl,(hsv p hp).2⟩,y2⟩
    ·by_cases hemp0:g.ap.isEmpty=true;rotate_left
     ·have hal':y0a g oj=false:=by simpa using hal
      have hsn:y2T g (s.put oi.dst sv) oj=true:=by
       rcases hemp with h|h|h
       ·exact absurd h hemp0
       ·exact absurd h hal
       ·exact h
      have hsn2:y2T g s oj=true:=by
       unfold y2T at hsn ⊢;split at hsn
       ·rename_i t p x ho;have e:s.get p=(s.put oi.dst sv).get p:=hop (.tmp p) (by rw[ho];simp[Op.operands]) 0
        have e2:=hop x (by rw[ho];simp[Op.operands]) t
        rw[e,e2];exact hsn
       ·cases hsn
      obtain ⟨C,u,_,hst⟩:=y9m h2;have hs:=hst s (yQ _ _).symm hop;rw[hst _ rfl (λ _ _ _=>rfl)]at h2
      cases h2;obtain ⟨β,ty,cells,cells',hp,hc,e0,hn⟩:=y4z hal' hsn2 hs;have eC:C=s.cH.set β (some (Chunk.box ty cells')):=by
       have:=congrArg St.cH e0;rw[yQ]at this;exact this
      refine ⟨_,⟨hfs,.inl ⟨g2,by unfold y09 effD;rw[hej,hnj,hsn2,Bool.or_true];unfold y2Z at hs;rw[if_neg hal]at hs;simp only[if_true,false_eq_true,if_false];rw[if_neg hal];exact hs⟩⟩,?_⟩
      have:=again { s with cH:=C } u (yd a3) ((y1S a3).trans (y3e (by rw[eC];exact yLr hp _ _) (λ x _ τ=>by cases x<;>rfl))) (by rw[e0];exact y6l hfs hc hn)
      rw[put_comm a2']at this;have e3:({ s.put oi.dst sv with cH:=C }:St)=({ s with cH:=C }:St).put oi.dst sv:=by
       cases oi.dst<;>rfl
      rw[e3];exact this
     have hemp:g.ap.isEmpty=true:=hemp0;have hap0:g.ap=[]:=isEmpty_iff.1 hemp;obtain ⟨C,u,hC,hst⟩:=y9m h2;have hs:=hst s (yQ _ _).symm hop;refine ⟨_,⟨hfs,.inl ⟨g2,by unfold y09 effD;rw[hej,hnj,hemp];unfold y2Z at hs;rw[if_neg hal]at hs;simp only[if_true,false_eq_true,if_false];rw[if_neg hal];exact hs⟩⟩,?_⟩
     have e2:yn g (({ s with cH:=C }:St).put oj.dst u) oi=yn g s oi->Runs g call ops oi (({ s with cH:=C }:St).put oj.dst u) s2:=λ e2=>by
      have:=again { s with cH:=C } u (yd a3) e2 (y4i hap0)
      rw[hst _ rfl (λ _ _ _=>rfl)]at h2
      cases h2;rw[put_comm a2']at this;have e3:({ s.put oi.dst sv with cH:=C }:St)=({ s with cH:=C }:St).put oi.dst sv:=by
       cases oi.dst<;>rfl
      rw[e3];exact this
     rcases yi with ⟨y1,y2⟩|⟨y1,_,y2⟩
     ·refine e2 ((y1S a3).trans ?_);have h0:=(y0W.1 y2).1;rcases hc hej with ⟨hn,_⟩|ha|ha|ha
      ·rw[hnj]at hn;cases hn
      ·obtain ⟨c,rfl⟩:=hC ha;rw[yQ,h0];exact yCh hap0 (y9i _ _) h0
      ·exact yGO hap0 ha
      ·exact absurd hap0 ha
     ·
      rw[hst _ rfl (λ _ _ _=>rfl)]at h2
      cases h2;refine ⟨y4i hap0,.inr ⟨by rw[yd a3];exact y1,by unfold y1h;rw[hap0];rfl,?_⟩⟩
      subst y2;have e3:({ s.put oi.dst SV.gone with cH:=C }:St)=({ s with cH:=C }:St).put oi.dst .gone:=by
       cases oi.dst<;>rfl
      rw[e3,put_comm a2]
   ·rw[yd a1]at g2;have g4:y1h g s oj=true:=y2s g3 (y11 ..).symm (λ d _ _ hd=>(y0k (a2' d hd)).symm)
    refine ⟨s.put oj.dst .gone,⟨hfs,.inr ⟨g2,g4,rfl⟩⟩,?_⟩;rw[put_comm a2];exact again s .gone (yd a3) (y1S a3) (y1q hn1 hfs g4)
 ·have runI:∀ {z z':St},y0L g z=true->y10 ops z oi=some true->newD g z oi some=some z'->Runs g call ops oi z z':=λ hf hg h=>⟨hf,.inl ⟨hg,by unfold y09 effD;rw[hei,hni];simp only[if_true];exact h⟩⟩
  have hfs:=h1.1;rcases h1.2 with ⟨gi,h1⟩|⟨gi,gi2,rfl⟩
  ·have r1:newD g s oi some=some s1:=by
    unfold y09 at h1;rw[hei]at h1;simp only[if_true]at h1;rcases y1O h1 with ⟨_,h⟩|⟨h,_⟩
    ·exact h
    ·rw[hni]at h;cases h
   obtain ⟨ki,qi,pi,hai,⟨di,hdi,hdil,hxi⟩,hki,rfl,_,hzi⟩:=y34 r1;rw[hdi]at hai;obtain ⟨t,ht,hmi⟩:=y4X hai;cases ht;obtain ⟨hqi,hqin,hno⟩:=yCd hfs hai hxi;have gj:y10 ops (({ s with cH:=(kl s.cH ki).set qi (pi.c) }:St).put oi.dst (pi.v qi)) oj=y10 ops s oj:=yd (s:={ s with cH:=(kl s.cH ki).set qi (pi.c) }) a1
   have opj:∀ x∈oj.op.operands.toList,∀ τ,y8 g.T τ s x=y8 g.T τ (({ s with cH:=(kl s.cH ki).set qi (pi.c) }:St).put oi.dst (pi.v qi)) x:=λ x hx τ=>by
    rw[y3L a1 x hx τ];cases x<;>rfl
   have behind:∀ u:SV,y0L g (s.put oj.dst u)=true->Runs g call ops oi (s.put oj.dst u) ((({ s with cH:=(kl s.cH ki).set qi (pi.c) }:St).put oi.dst (pi.v qi)).put oj.dst u):=λ u hu=>by
    have:=hzi (s.put oj.dst u) (λ d hd=>by
     rw[hdi]at hd;cases hd;rw[y11,y0k (λ hh=>a2 di hdi hh)]
     exact ⟨hdil,hxi⟩) (λ β _=>by rw[yQ]) (λ x hx τ=>y3L a3 x hx τ)
    have e:(({ s.put oj.dst u with cH:=(kl (s.put oj.dst u).cH ki).set qi (pi.c) }:St).put oi.dst (pi.v qi))=((({ s with cH:=(kl s.cH ki).set qi (pi.c) }:St).put oi.dst (pi.v qi)).put oj.dst u):=by
     rw[yQ,put_comm a2];cases oj.dst<;>rfl
    rw[e]at this;exact runI hu ((yd a3).trans gi) this
   by_cases hej:y1U g oj=false
   ·obtain ⟨_,u,yj,rfl⟩:=(y1Z hej).1 h2;have hu:=y4p yj;refine ⟨s.put oj.dst u,(y1Z hej).2 ⟨hfs,u,?_,rfl⟩,behind u (y38 hfs hu)⟩;rcases yj with ⟨y1,y2⟩|⟨y1,_,y2⟩
    ·refine .inl ⟨gj.symm.trans y1,y0W.2 ⟨?_,y1b.2 hu⟩⟩;rw[<- (y0W.1 y2).1];exact ((y1S a1).trans (y3e (yEs hmi _ _) (λ x _ τ=>by cases x<;>rfl))).symm
    ·exact .inr ⟨gj.symm.trans y1,y1b.2 λ p hp=>⟨rfl,(hu p hp).2⟩,y2⟩
   by_cases hal:y0a g oj=true
   ·have hej':y1U g oj=true:=by simpa using hej
    rcases h2.2 with ⟨g2,h2⟩|⟨g2,g3,rfl⟩
    ·unfold y09 at h2;rw[hej']at h2;simp only[if_true]at h2;have h2:y2Z g (({ s with cH:=(kl s.cH ki).set qi (pi.c) }:St).put oi.dst (pi.v qi)) oj some=some s2:=by
      rcases y1O h2 with ⟨h,_⟩|⟨_,_,h⟩
      ·rw[y59 hal]at h;cases h
      ·exact h
     obtain ⟨ch,k1,k2,k3⟩:=y2e hal h2;rw[k3]at h2;cases h2;refine ⟨_,y6O hal hej' hfs (gj.symm.trans g2) k3,?_⟩;have hi:=hzi (({ s with cH:=s.cH++[some ch] }:St).put oj.dst (.bP s.cH.length 0)) (λ d hd=>by
       rw[hdi]at hd;cases hd;rw[y11,y0k (λ hh=>a2 di hdi hh)]
       exact ⟨hdil,hxi⟩) (λ β hβ=>by
       have:=(hki β hβ).1;rw[yQ,getD_eq_getElem?_getD,getD_eq_getElem?_getD,getElem?_append_left (by omega)]) (λ x hx τ=>by
       rw[y3L a3 x hx τ];cases x<;>rfl)
     refine runI (y1v hfs k1 k2) ((yd (s:={ s with cH:=s.cH++[some ch] }) a3).trans gi) (hi.trans (congrArg some ?_))
     rw[yQ,yQ,yGm (λ β hβ=>by have:=(hki β hβ).1;omega) hqi]
     have e0:((kl s.cH ki).set qi (pi.c)).length=s.cH.length:=by rw[length_set,y0b]
     rw[e0];have e1:∀ (D:List (Option Chunk)),({ (({ s with cH:=s.cH++[some ch] }:St).put oj.dst (.bP s.cH.length 0))with cH:=D }:St)=({ s with cH:=D }:St).put oj.dst (.bP s.cH.length 0):=λ D=>by cases oj.dst<;>rfl
     have e2:∀ (D:List (Option Chunk)),({ (({ s with cH:=(kl s.cH ki).set qi (pi.c) }:St).put oi.dst (pi.v qi))with cH:=D }:St)=({ s with cH:=D }:St).put oi.dst (pi.v qi):=λ D=>by cases oi.dst<;>rfl
     rw[e1,e2,put_comm a2']
    ·have g4:y1h g s oj=true:=y2s g3 (y11 (s:={ s with cH:=(kl s.cH ki).set qi (pi.c) }) ..).symm (λ d _ _ hd=>(y0k (s:={ s with cH:=(kl s.cH ki).set qi (pi.c) }) (a2' d hd)).symm)
     exact ⟨s.put oj.dst .gone,⟨hfs,.inr ⟨gj.symm.trans g2,g4,rfl⟩⟩,behind .gone (y1q hn1 hfs g4)⟩
   ·have hej':y1U g oj=true:=by simpa using hej
    obtain ⟨hnj,hlt⟩:y3E g oj=true/\apLt g oi oj=true:=by
     rcases hc with h|h|h
     ·exact absurd h hej
     ·exact absurd h hal
     ·exact h
    rcases h2.2 with ⟨g2,h2⟩|⟨g2,g3,rfl⟩
    ·have r2:newD g (({ s with cH:=(kl s.cH ki).set qi (pi.c) }:St).put oi.dst (pi.v qi)) oj some=some s2:=by
      unfold y09 at h2;rw[hej']at h2;simp only[if_true]at h2;rcases y1O h2 with ⟨_,h⟩|⟨h,_⟩
      ·exact h
      ·rw[hnj]at h;cases h
     obtain ⟨kj,qj,pj,haj,⟨dj,hdj,hdjl,hxj⟩,hkj,rfl,_,hzj⟩:=y34 r2;rw[hdj]at haj;have hlt:qi < qj:=by
      unfold apLt at hlt;rw[hdi,hdj,hai,haj]at hlt;simpa using hlt
     rw[y11]at hdjl;rw[y0k (a2' dj hdj)]at hxj;have kq:∀ β,kj=some β->β≠qi/\ki≠some β:=by
      intro β hβ;obtain ⟨_,k2,x,hx,hv⟩:=hkj β hβ;rw[<- opj x hx 0]at hv;have h3:=yK9 (T:=g.T) (τ:=0) (x:=x) hno;rw[hv]at h3;have h4:β≠qi:=y3H rfl h3;refine ⟨h4,λ hh=>?_⟩
      rw[yQ,getD_eq_getElem?_getD,y8Y,yCk]at k2;rw[hh]at k2;by_cases hl:β < s.cH.length
      ·simp[hl,Ne.symm h4]at k2
      ·rw[if_neg (λ hh=>hl (by simpa[y0b]using hh.1)),if_neg (λ hh=>hl hh.1),getElem?_eq_none (Nat.le_of_not_lt hl)]at k2
       cases k2
     have hs:=hzj s (λ d hd=>by rw[hdj]at hd;cases hd;exact ⟨hdjl,hxj⟩) (λ β hβ=>by
      rw[yQ];exact (y91 (kq β hβ).1 (kq β hβ).2).symm) opj
     refine ⟨_,⟨hfs,.inl ⟨gj.symm.trans g2,by unfold y09 effD;rw[hej',hnj];simp only[if_true];exact hs⟩⟩,?_⟩
     have hi:=hzi (({ s with cH:=(kl s.cH kj).set qj (pj.c) }:St).put oj.dst (pj.v qj)) (λ d hd=>by
       rw[hdi]at hd;cases hd;rw[y11,y0k (λ hh=>a2 di hdi hh)]
       exact ⟨hdil,hxi⟩) (λ β hβ=>by
       rw[yQ];refine y91 ?_ (λ hh=>(kq β hh).2 hβ)
       have:=(hki β hβ).1;omega) (λ x hx τ=>by
       rw[y3L a3 x hx τ];cases x<;>rfl)
     refine runI (by rw[hdj];exact y4k hfs hn1 hn2 haj hdjl hxj) ((yd (s:={ s with cH:=(kl s.cH kj).set qj (pj.c) }) a3).trans gi) (hi.trans (congrArg some ?_))
     rw[yQ,yQ];have ec:=yOD (cs:=s.cH) (ki:=ki) (kj:=kj) (qi:=qi) (qj:=qj) (x:=pi.c) (y:=pj.c) (by omega) (λ hh=>by have:=(hki qj hh).1;omega) (λ hh=>(kq qi hh).1 rfl)
     rw[<- ec];have e1:∀ (D:List (Option Chunk)),({ (({ s with cH:=(kl s.cH kj).set qj (pj.c) }:St).put oj.dst (pj.v qj))with cH:=D }:St)=({ s with cH:=D }:St).put oj.dst (pj.v qj):=λ D=>by cases oj.dst<;>rfl
     have e2:∀ (D:List (Option Chunk)),({ (({ s with cH:=(kl s.cH ki).set qi (pi.c) }:St).put oi.dst (pi.v qi))with cH:=D }:St)=({ s with cH:=D }:St).put oi.dst (pi.v qi):=λ D=>by cases oi.dst<;>rfl
     rw[e1,e2,put_comm a2']
    ·have g4:y1h g s oj=true:=y2s g3 (y11 (s:={ s with cH:=(kl s.cH ki).set qi (pi.c) }) ..).symm (λ d _ _ hd=>(y0k (s:={ s with cH:=(kl s.cH ki).set qi (pi.c) }) (a2' d hd)).symm)
     exact ⟨s.put oj.dst .gone,⟨hfs,.inr ⟨gj.symm.trans g2,g4,rfl⟩⟩,behind .gone (y1q hn1 hfs g4)⟩
  ·
   have gj:y10 ops (s.put oi.dst .gone) oj=y10 ops s oj:=yd a1;have behind:∀ u:SV,y0L g (s.put oj.dst u)=true->Runs g call ops oi (s.put oj.dst u) ((s.put oi.dst .gone).put oj.dst u):=λ u hu=>by
    rw[put_comm a2];exact ⟨hu,.inr ⟨(yd a3).trans gi,y2s gi2 (y11 ..) (λ d _ _ hd=>y0k (λ hh=>a2 d hd hh)),rfl⟩⟩
   by_cases hej:y1U g oj=false
   ·obtain ⟨_,u,yj,rfl⟩:=(y1Z hej).1 h2;have hu:=y4p yj;refine ⟨s.put oj.dst u,(y1Z hej).2 ⟨hfs,u,?_,rfl⟩,behind u (y38 hfs hu)⟩;rcases yj with ⟨y1,y2⟩|⟨y1,_,y2⟩
    ·exact .inl ⟨gj.symm.trans y1,y0W.2 ⟨by rw[<- y1S (sv:=.gone) a1];exact (y0W.1 y2).1,y1b.2 hu⟩⟩
    ·exact .inr ⟨gj.symm.trans y1,y1b.2 λ p hp=>⟨rfl,(hu p hp).2⟩,y2⟩
   by_cases hal:y0a g oj=true
   ·have hej':y1U g oj=true:=by simpa using hej
    rcases h2.2 with ⟨g2,h2⟩|⟨g2,g3,rfl⟩
    ·unfold y09 at h2;rw[hej']at h2;simp only[if_true]at h2;have h2:y2Z g (s.put oi.dst .gone) oj some=some s2:=by
      rcases y1O h2 with ⟨h,_⟩|⟨_,_,h⟩
      ·rw[y59 hal]at h;cases h
      ·exact h
     obtain ⟨ch,k1,k2,k3⟩:=y2e hal h2;rw[k3]at h2;cases h2;refine ⟨_,y6O hal hej' hfs (gj.symm.trans g2) k3,⟨y1v hfs k1 k2,.inr ⟨(yd (s:={ s with cH:=s.cH++[some ch] }) a3).trans gi,y2s gi2 (y11 (s:={ s with cH:=s.cH++[some ch] }) ..) (λ d _ _ hd=>y0k (s:={ s with cH:=s.cH++[some ch] }) (λ hh=>a2 d hd hh)),?_⟩⟩⟩
     rw[yQ,yHa,put_comm a2]
    ·have g4:y1h g s oj=true:=y2s g3 (y11 ..).symm (λ d _ _ hd=>(y0k (a2' d hd)).symm)
     exact ⟨s.put oj.dst .gone,⟨hfs,.inr ⟨gj.symm.trans g2,g4,rfl⟩⟩,behind .gone (y1q hn1 hfs g4)⟩
   ·have hej':y1U g oj=true:=by simpa using hej
    obtain ⟨hnj,_⟩:y3E g oj=true/\apLt g oi oj=true:=by
     rcases hc with h|h|h
     ·exact absurd h hej
     ·exact absurd h hal
     ·exact h
    rcases h2.2 with ⟨g2,h2⟩|⟨g2,g3,rfl⟩
    ·have r2:newD g (s.put oi.dst .gone) oj some=some s2:=by
      unfold y09 at h2;rw[hej']at h2;simp only[if_true]at h2;rcases y1O h2 with ⟨_,h⟩|⟨h,_⟩
      ·exact h
      ·rw[hnj]at h;cases h
     obtain ⟨kj,qj,pj,haj,⟨dj,hdj,hdjl,hxj⟩,hkj,rfl,_,hzj⟩:=y34 r2;rw[hdj]at haj;rw[y11]at hdjl;rw[y0k (a2' dj hdj)]at hxj;have hs:=hzj s (λ d hd=>by rw[hdj]at hd;cases hd;exact ⟨hdjl,hxj⟩) (λ β hβ=>by rw[yQ]) (λ x hx τ=>(y3L a1 x hx τ).symm)
     refine ⟨_,⟨hfs,.inl ⟨gj.symm.trans g2,by unfold y09 effD;rw[hej',hnj];simp only[if_true];exact hs⟩⟩,?_⟩
     refine ⟨by rw[hdj];exact y4k hfs hn1 hn2 haj hdjl hxj,.inr ⟨(yd (s:={ s with cH:=(kl s.cH kj).set qj (pj.c) }) a3).trans gi,y2s gi2 (y11 ..) (λ d _ _ hd=>y0k (s:={ s with cH:=(kl s.cH kj).set qj (pj.c) }) (λ hh=>a2 d hd hh)),?_⟩⟩
     rw[yQ,put_comm a2'];congr 1
     cases oi.dst<;>rfl
    ·have g4:y1h g s oj=true:=y2s g3 (y11 ..).symm (λ d _ _ hd=>(y0k (a2' d hd)).symm)
     exact ⟨s.put oj.dst .gone,⟨hfs,.inr ⟨gj.symm.trans g2,g4,rfl⟩⟩,behind .gone (y1q hn1 hfs g4)⟩
theorem yGZ{call:yv St}{T:Nat->Bool}{Q:St->Prop}{i:Nat}{oi:Oper}{ms:List Nat}(hn1:(g.ap.map (·.1)).Nodup)(hn2:(g.ap.map (·.2.2)).Nodup)(hm:y0j md ops.toList ms)(hi:ops[i]?=some oi)(hTi:T i=true) :
  ∀ (fuel:Nat) (listed:Array Bool) (s s1:St),y2A md ops listed ->
   (∀ j oj,ops[j]?=some oj->j≠i->listed.getD j true=false->y0X ms j i=false->(∀ e∈oj.after,Region.binds md e=true->e.on≠i)->oi.apart ops oj=true/\T j=true/\yIa g oi oj) ->
   i∈Region.ready md ops listed->Runs g call ops oi s s1 ->
   anyS g call md ops T Q fuel (listed.setIfInBounds i true) s1->anyS g call md ops T Q (fuel+1) listed s:=by
 intro fuel;induction fuel with
 |zero =>
  intro listed s s1 _ _ hr hy H;refine ⟨λ h=>(by rw[h]at hr;cases hr),λ j hj=>?_⟩
  by_cases hji:j=i
  ·subst hji;exact hy.sOp hi hTi H
  ·have:=ready_mono hj hji;rw[H.1]at this;cases this
 |succ fuel ih =>
  intro listed s s1 hcl hfree hr hy H;refine ⟨λ h=>(by rw[h]at hr;cases hr),λ j hj=>?_⟩
  by_cases hji:j=i
  ·subst hji;exact hy.sOp hi hTi H
  ·have h1:=H.2 j (ready_mono hj hji);obtain ⟨hjun,oj,hoj,hall⟩:=mem_ready.1 hj;have hnot:∀ e∈oj.after,Region.binds md e=true->e.on≠i:=λ e he hb heq=>by
    have h1:=hall e he hb;have h0:=(mem_ready.1 hr).1;rw[heq]at h1;rcases lt_or_ge i listed.size with h'|h'
    ·simp[h']at h0 h1;rw[h0]at h1;cases h1
    ·simp[Array.getElem?_eq_none h']at h1
   obtain ⟨hap,hTj,hso⟩:=hfree j oj hoj hji hjun (y0E hm hcl (mem_ready.1 hr).1 hj) hnot;obtain ⟨s2,r2,h2⟩:=y92 hoj hTj h1;obtain ⟨s',r3,r4⟩:=swap hn1 hn2 hap hso hy r2;have hfree':∀ k ok,ops[k]?=some ok->k≠i->(listed.setIfInBounds j true).getD k true=false->y0X ms k i=false ->
     (∀ e∈ok.after,Region.binds md e=true->e.on≠i)->oi.apart ops ok=true/\T k=true/\yIa g oi ok:=λ k ok hk hki hun hw hno=>by
    refine hfree k ok hk hki ?_ hw hno;by_cases hjk:j=k
    ·subst hjk;exact hjun
    ·rw[getD_set_ne true hjk]at hun;exact hun
   refine r3.sOp hoj hTj (ih (listed.setIfInBounds j true) s' s2 (hcl.step hj) hfree' (ready_mono hr (Ne.symm hji)) r4 ?_);rw[Array.setIfInBounds_comm _ _ hji];exact h2
theorem yF4{call:yv St}{T:Nat->Bool}{Q:St->Prop}{ms:List Nat}(hn1:(g.ap.map (·.1)).Nodup)(hn2:(g.ap.map (·.2.2)).Nodup)(hm:y0j md ops.toList ms)(hTail:∀ j o,ops[j]?=some o->T j=false->∀ i,i < j->y0X ms j i=true)(hT2:∀ i j,i<=j->T i=false->T j=false)
  (hAl:∀ i o,ops[i]?=some o->y1U g o=true->T i=true->(∀ j oj,ops[j]?=some oj->i < j->y0X ms j i=true\/(y3E g o=true/\g.ap≠[]/\(y1U g oj=false\/y0a g oj=true\/(y3E g oj=true/\apLt g o oj=true))))/\(∀ j oj,ops[j]?=some oj->j < i->y0X ms i j=true\/y0a g o=true\/yJk g oj=true\/(y3E g o=true/\g.ap≠[])\/(y1U g oj=false/\g.ap≠[]))) :
  ∀ (l:List Oper) (k:Nat) (listed:Array Bool) (s:St),(∀ j,l[j]?=ops[k+j]?)->(∀ j,j < ops.size->listed.getD j true=decide (j < k)) ->
  y2A md ops listed->Region.lexFrom md ops l.length k listed=true->runS g call ops T Q l k s->anyS g call md ops T Q l.length listed s
 |[],_,_,_,_,_,_,hB,h=>⟨by simpa[Region.lexFrom]using hB,h⟩
 |o::l,k,listed,s,hl,hlist,hcl,hB,h=>by
  have h0:ops[k]?=some o:=by simpa using (hl 0).symm
  have hksz:k < ops.size:=(Array.getElem?_eq_some_iff.1 h0).1;simp only[List.length_cons,Region.lexFrom,and_eq_true]at hB;obtain ⟨⟨hr,hf⟩,hB'⟩:=hB;have hrk:k∈Region.ready md ops listed:=by simpa using hr
  have hnext:∀ j,j < ops.size->(listed.setIfInBounds k true).getD j true=decide (j < k+1):=by
   intro j hj;by_cases hkj:k=j
   ·subst hkj;have:(listed.setIfInBounds k true).getD k true=true:=by
     rw[Array.getD_eq_getD_getElem?];by_cases hs:k < listed.size
     ·simp[hs]
     ·simp[hs]
    rw[this];simp
   ·rw[getD_set_ne true hkj,hlist j hj];congr 1
    apply propext;omega
  have hrec:=yF4 (call:=call) (Q:=Q) hn1 hn2 hm hTail hT2 hAl l (k+1) (listed.setIfInBounds k true);have hl':∀ j,l[j]?=ops[k+1+j]?:=λ j=>by have:=hl (j+1);simpa[add_assoc,add_comm 1 j]using this
  by_cases hcase:T k=true/\(y1U g o=false\/(y3E g o=true/\g.ap≠[]))
  ·obtain ⟨hTk,he⟩:=hcase;obtain ⟨s1,hy,hK⟩:=y92 h0 hTk h;refine yGZ hn1 hn2 hm h0 hTk l.length listed s s1 hcl (λ j oj hoj hji hun hnw hno=>?_) hrk hy (hrec _ hl' hnext (hcl.step hrk) hB' hK)
   have hj:k < j:=by
    have hjs:=(Array.getElem?_eq_some_iff.1 hoj).1;rw[hlist j hjs]at hun;simp at hun;omega
   have hTj:T j=true:=by
    cases hTj:T j with
    |true=>rfl
    |false =>
     rw[hTail j oj hoj hTj k hj]at hnw;cases hnw
   refine ⟨Region.free_spec h0 hf j oj hoj hji hun hno,hTj,?_⟩;cases hek:y1U g o with
   |false =>
    refine .inl ⟨hek,λ hej=>?_⟩
    rcases (hAl j oj hoj hej hTj).2 k o h0 hj with hw|hq|hq|hq|hq
    ·rw[hw]at hnw;cases hnw
    ·exact .inr (.inl hq)
    ·exact .inr (.inr (.inl hq))
    ·exact .inl hq
    ·exact .inr (.inr (.inr hq.2))
   |true =>
    have he:y3E g o=true/\g.ap≠[]:=by
     rcases he with h|h
     ·rw[hek]at h;cases h
     ·exact h
    rcases (hAl k o h0 hek hTk).1 j oj hoj hj with hw|⟨_,_,hq⟩
    ·rw[hw]at hnw;cases hnw
    ·exact .inr ⟨hek,he.1,he.2,hq⟩
  ·have hafter:∀ j oj,ops[j]?=some oj->k < j->y0X ms j k=true:=λ j oj hoj hj=>by
    cases hTk:T k with
    |false=>exact hTail j oj hoj (hT2 k j (by omega) hTk) k hj
    |true =>
     cases he:y1U g o with
     |true =>
      rcases (hAl k o h0 he hTk).1 j oj hoj hj with h|⟨h1,h2,_⟩
      ·exact h
      ·exact absurd ⟨hTk,.inr ⟨h1,h2⟩⟩ hcase
     |false=>exact absurd ⟨hTk,.inl he⟩ hcase
   refine ⟨λ hn=>(by rw[hn]at hrk;cases hrk),λ j hj=>?_⟩
   have hjk:j=k:=by
    obtain ⟨hjun,oj,hoj,hall⟩:=mem_ready.1 hj;have hjs:=(Array.getElem?_eq_some_iff.1 hoj).1;rw[hlist j hjs]at hjun;simp at hjun;rcases lt_or_ge k j with h'|h'
    ·have:=y0E hm hcl (mem_ready.1 hrk).1 hj;rw[hafter j oj hoj h']at this;cases this
    ·omega
   subst hjk;exact yL5 (λ s' hs'=>hrec s' hl' hnext (hcl.step hrk) hB' hs') h
end
end Go.Vx
end
section
namespace Go.Vx
open Go.RowKit
variable [GT]
section
variable {P:Program} {A0:Nat->Prop} {w0:Base} {ρ:Places} {s s':St} {a b:Act} {w w':World} {g:G} {R:Type} {r:R} {ops:Array Oper} {md:Region.Mode} {o:Oper} {ro:Option Nat}
def yG9(dst:Option Tmp)(a b:Act):Prop:=b.tmps.size=a.tmps.size/\∀ t,dst≠some t->b.tmps[t]?=a.tmps[t]?
def YAt(P:Program)(ops:Array Oper)(w:World)(o:Oper)(v:Value)(a:Act):Prop:=
 (Region.wanted o (yielded ops a.tmps)=true/\(execOp a.eval o).run P w=.ok (.value v) w)\/(Region.wanted o (yielded ops a.tmps)=false/\v=undef)
def y78(o:Oper):Prop:=(∀ cs b,o.op≠.select cs b)/\∀ c,o.op≠.defer c
theorem y9d{x:Operand}(h:∀ t,x=.tmp t->b.tmps[t]?=a.tmps[t]?):b.eval x=a.eval x:=by
 cases x with
 |tmp t =>
  have:=h t rfl;simp only[Act.eval,Array.getD_eq_getD_getElem?,this]
 |_=>rfl
theorem y20(h:∀ t∈o.looksAt ops,b.tmps[t]?=a.tmps[t]?):Region.wanted o (yielded ops b.tmps)=Region.wanted o (yielded ops a.tmps):=by
 unfold Region.wanted;cases hg:o.guard with
 |none=>rfl
 |some gw =>
  obtain ⟨g,want⟩:=gw;have hy:yielded ops b.tmps g=yielded ops a.tmps g:=by
   unfold yielded;cases ht:(ops[g]?).bind (·.dst)with
   |none=>rfl
   |some t=>simp only[bind_some];rw[h t (by simp[Oper.looksAt,hg,ht])]
  simp only[hy]
theorem yHN(hs:y78 o)(h:∀ t∈o.looksAt ops,b.tmps[t]?=a.tmps[t]?):execOp b.eval o=execOp a.eval o:=
 execOp_congr o hs.1 λ x hx=>y9d λ t ht=>h t (by
  subst ht;exact List.mem_append_left _ (mem_filterMap.2 ⟨.tmp t,by simpa using hx,rfl⟩))
theorem YAt.agree{v:Value}(hs:y78 o)(h:YAt P ops w o v a)(he:∀ t∈o.looksAt ops,b.tmps[t]?=a.tmps[t]?):YAt P ops w o v b:=by
 unfold YAt at *;rw[yHN hs he,y20 he];exact h
theorem y1g{d t:Nat}{v:Value}(h:d≠t):(a.put (some d) v).tmps[t]?=a.tmps[t]?:=by
 simp[Act.put,Array.getElem?_setIfInBounds_ne h]
theorem y0G{dst:Option Tmp}{v:Value}:yG9 dst a (a.put dst v):=by
 cases dst with
 |none=>exact ⟨rfl,λ _ _=>rfl⟩
 |some d=>exact ⟨by simp[Act.put],λ t h=>y1g λ e=>h (by rw[e])⟩
theorem YAt.put{v u:Value}{d:Nat}(hs:y78 o)(h:YAt P ops w o v a)(hd:d ∉ o.looksAt ops):YAt P ops w o v (a.put (some d) u):=
 h.agree hs λ t ht=>y1g λ e=>hd (e ▸ ht)
theorem YAt.unput{v u:Value}{d:Nat}(hs:y78 o)(h:YAt P ops w o v (a.put (some d) u))(hd:d ∉ o.looksAt ops):YAt P ops w o v a:=
 h.agree hs λ t ht=>(y1g (a:=a) (v:=u) λ e=>hd (by rw[e];exact ht)).symm
theorem y6G{d:Tmp}{v:Value}(hs:y78 o)(hl:d ∉ o.looksAt ops)(hd:o.dst≠some d){N:Act->World->Prop}{Q:Exit->Act->World->Prop}
  (h:o.wpIn (ym ro) 0 P (a.put (some d) v) w N (λ _ _ _=>False)):o.wpIn (ym ro) 0 P a w (λ a' w'=>N (a'.put (some d) v) w'/\yG9 o.dst a a') Q:=by
 refine ⟨λ _ _=>trivial,?_⟩
 have h:=h.2;rw[Oper.semAt_eq _ _ _ hs.2]at h ⊢;rw[execOp_put (ops:=ops) o hs.1 a (some d) v (by intro d' hd';cases hd';exact hl)]at h
 have hc:∀ (a:Act) u,(a.put (some d) v).put o.dst u=(a.put o.dst u).put (some d) v:=λ a u=>Act.put_comm a v u λ e he=>by cases he;exact hd
 generalize (execOp a.eval o).run P w=r at h ⊢;cases r with
 |ok x w' =>
  cases x with
  |value u=>simp only[Oper.uponIn]at h ⊢;rw[hc]at h;exact ⟨h,y0G⟩
  | skip=>simp only[Oper.uponIn]at h ⊢;rw[hc]at h;exact ⟨h,y0G⟩
  | «defer» dd =>
   simp only[Oper.uponIn]at h ⊢;have e1:({ (a.put (some d) v)with defers:=dd::(a.put (some d) v).defers }:Act)=({ a with defers:=dd::a.defers }:Act).put (some d) v:=rfl
   rw[e1,hc]at h;refine ⟨h,?_⟩;have:=y0G (a:={ a with defers:=dd::a.defers }) (dst:=o.dst) (v:=undef)
   exact this
  |enter f args =>
   simp only[Oper.uponIn]at h ⊢;exact ⟨h.1,CallsIn.mono h.2 λ e w'' he=>by
    cases e with
    |returned u=>dsimp only at he ⊢;rw[hc]at he;exact ⟨he,y0G⟩
    |panicked c=>exact he.elim
    |outgrown=>obtain ⟨_,_,hh⟩:=he;exact hh.elim⟩
  |row f args =>
   simp only[Oper.uponIn]at h ⊢;exact ⟨h.1,RowsIn.mono h.2 λ u w'' he=>by rw[hc]at he;exact ⟨he,y0G⟩⟩
  |round l f t x y =>
   simp only[Oper.uponIn]at h ⊢;exact ⟨h.1,RoundIn.mono h.2 λ e w'' he=>by
    cases e with
    |returned u=>dsimp only at he ⊢;rw[hc]at he;exact ⟨he,y0G⟩
    |panicked c=>exact he.elim
    |outgrown=>obtain ⟨_,_,hh⟩:=he;exact hh.elim⟩
  |_=>exact h.elim
 |halt x w'=>cases x<;>first|exact h.elim|(simp only[Oper.uponIn]at h)
theorem y8f(hs:y78 o){N:Act->World->Prop}{Q:Exit->Act->World->Prop}(h:o.wpIn (ym ro) 0 P a w N (λ _ _ _=>False)) :
  o.wpIn (ym ro) 0 P a w (λ a' w'=>N a' w'/\yG9 o.dst a a') Q:=by
 refine ⟨λ _ _=>trivial,?_⟩
 have h:=h.2;rw[Oper.semAt_eq _ _ _ hs.2]at h ⊢;generalize (execOp a.eval o).run P w=r at h ⊢;cases r with
 |ok x w' =>
  cases x with
  |value u=>exact ⟨h,y0G⟩
  | skip=>exact ⟨h,y0G⟩
  | «defer» dd =>
   refine ⟨h,?_⟩;have:=y0G (a:={ a with defers:=dd::a.defers }) (dst:=o.dst) (v:=undef)
   exact this
  |enter f args =>
   simp only[Oper.uponIn]at h ⊢;exact ⟨h.1,CallsIn.mono h.2 λ e w'' he=>by
    cases e with
    |returned u=>exact ⟨he,y0G⟩
    |panicked c=>exact he.elim
    |outgrown=>obtain ⟨_,_,hh⟩:=he;exact hh.elim⟩
  |row f args =>
   simp only[Oper.uponIn]at h ⊢;exact ⟨h.1,RowsIn.mono h.2 λ u w'' he=>⟨he,y0G⟩⟩
  |round l f t x y =>
   simp only[Oper.uponIn]at h ⊢;exact ⟨h.1,RoundIn.mono h.2 λ e w'' he=>by
    cases e with
    |returned u=>exact ⟨he,y0G⟩
    |panicked c=>exact he.elim
    |outgrown=>obtain ⟨_,_,hh⟩:=he;exact hh.elim⟩
  |_=>exact h.elim
 |halt x w'=>cases x<;>first|exact h.elim|(simp only[Oper.uponIn]at h)
def yD1(P:Program)(ops:Array Oper)(fl:Nat->Bool)(ms:List Nat)(i:Nat)(ls:Array Bool)(a:Act)(w:World):Prop:=
 ∀ j oj d v,ops[j]?=some oj->fl j=true->ls.getD j false=true->y0X ms i j=false->oj.dst=some d->a.tmps[d]?=some v->YAt P ops w oj v a
def anyE(P:Program)(md:Region.Mode)(ops:Array Oper)(ro:Option Nat)(fl:Nat->Bool)(ms:List Nat)(Q:Act->World->Prop):Nat->Array Bool->Act->World->Prop
 |0,ls,a,w=>Region.ready md ops ls=[]/\Q a w
 |fuel+1,ls,a,w=>(Region.ready md ops ls=[]->Q a w)/\∀ i∈Region.ready md ops ls,∀ o,ops[i]?=some o ->
   (fl i=true->∃ v,YAt P ops w o v a/\anyE P md ops ro fl ms Q fuel (ls.setIfInBounds i true) (a.put o.dst v) w) /\
   (fl i=false->(Region.wanted o (yielded ops a.tmps)=true->o.wpIn (ym ro) 0 P a w (λ a' w'=>yD1 P ops fl ms i ls a' w'/\anyE P md ops ro fl ms Q fuel (ls.setIfInBounds i true) a' w') (λ _ _ _=>False)) /\
    (Region.wanted o (yielded ops a.tmps)=false->yD1 P ops fl ms i ls (a.put o.dst undef) w/\anyE P md ops ro fl ms Q fuel (ls.setIfInBounds i true) (a.put o.dst undef) w))
theorem y5O{fl:Nat->Bool}{ms:List Nat}{Q:Act->World->Prop}{Q':Exit->Act->World->Prop}(hpl:∀ (i:Nat) o,ops[i]?=some o->y78 o)(hQ:∀ a w,Q a w->Q' .normal a w) :
  ∀ (fuel:Nat) (ls:Array Bool) (a:Act) (w:World),anyE P md ops ro fl ms Q fuel ls a w->wpAnyIn (ym ro) 0 P md ops Q' fuel ls a w
 |0,ls,a,w,h=>⟨h.1,hQ _ _ h.2⟩
 |fuel+1,ls,a,w,h=>by
  refine ⟨λ h0=>hQ _ _ (h.1 h0),λ i hi=>?_⟩
  have hrec:=λ a w=>y5O (fl:=fl) (ms:=ms) hpl hQ fuel (ls.setIfInBounds i true) a w
  unfold wpOpIn;cases ho:ops[i]? with
  |none =>
   obtain ⟨_,o,h1,_⟩:=mem_ready.1 hi;rw[ho]at h1;cases h1
  |some o =>
   dsimp only;obtain ⟨h1,h2⟩:=h.2 i hi o ho;cases hf:fl i with
   |true =>
    obtain ⟨v,hy,hn⟩:=h1 hf;rcases hy with ⟨hw,hr⟩|⟨hw,rfl⟩
    ·rw[if_pos hw];refine ⟨λ _ _=>trivial,?_⟩
     rw[Oper.semAt_eq _ _ _ (hpl i o ho).2,hr];exact hrec _ _ hn
    ·rw[hw];simp only[false_eq_true,if_false];exact ⟨λ _ _=>trivial,hrec _ _ hn⟩
   |false =>
    obtain ⟨h3,h4⟩:=h2 hf;cases hw:Region.wanted o (yielded ops a.tmps)with
    |true =>
     rw[if_pos rfl];exact Oper.wpIn_mono (λ a' w' ⟨hn,_⟩=>hrec _ _ hn.2) (y8f (Q:=Q') (hpl i o ho) (h3 hw))
    |false =>
     simp only[false_eq_true,if_false];exact ⟨λ _ _=>trivial,hrec _ _ (h4 hw).2⟩
structure Ssa (ops:Array Oper) (ms:List Nat) (n:Nat):Prop where
 plain:∀ (i:Nat) o,ops[i]?=some o->y78 o
 lt:∀ (i:Nat) o d,ops[i]?=some o->o.dst=some d->d < n
 own:∀ (i:Nat) o d,ops[i]?=some o->o.dst=some d->d ∉ o.looksAt ops
 one:∀ (i j:Nat) o q d,ops[i]?=some o->ops[j]?=some q->j≠i->o.dst=some d->q.dst≠some d
 look:∀ (i j:Nat) o q d,ops[i]?=some o->ops[j]?=some q->j≠i->o.dst=some d->y0X ms j i=false->d ∉ q.looksAt ops
theorem y23{ms:List Nat}(hm:y0j md ops.toList ms){ls:Array Bool}(hc:y2A md ops ls){i j:Nat}(hj:ls.getD j false=true)(hi:ls.getD i false=false):y0X ms j i=false:=by
 cases hw:y0X ms j i with
 |false=>rfl
 |true =>
  obtain ⟨o,h1,e,h2,h3,h4⟩:=y2v hm hc hi j hw;rw[hc j o h1 hj e h2 h3]at h4;cases h4
theorem y4o{ls:Array Bool}{i:Nat}(h:ls.getD i true=false):ls.getD i false=false:=by
 rw[Array.getD_eq_getD_getElem?]at h ⊢;cases hq:ls[i]? with
 |none=>rfl
 |some b=>rw[hq]at h;simpa using h
theorem y8t{ls:Array Bool}{i:Nat}(h:ls.getD i true=false):(ls.setIfInBounds i true).getD i false=true:=by
 rw[Array.getD_eq_getD_getElem?]at h ⊢;cases hq:ls[i]? with
 |none=>rw[hq]at h;simp at h
 |some b=>have:=(Array.getElem?_eq_some_iff.1 hq).1;simp[this]
theorem yFF{d:Nat}{v:Value}(h:d < a.tmps.size):(a.put (some d) v).tmps[d]?=some v:=by simp[Act.put,h]
theorem y9g{fl:Nat->Bool}{ms:List Nat}{n:Nat}{Q:Act->World->Prop}(hm:y0j md ops.toList ms)(hS:Ssa ops ms n){i:Nat}{oi:Oper}{di:Tmp}{v:Value}(hi:ops[i]?=some oi)(hfi:fl i=true)(hdi:oi.dst=some di) :
  ∀ (fuel:Nat) (ls:Array Bool) (a:Act) (w:World),a.tmps.size=n->y2A md ops ls->i∈Region.ready md ops ls->YAt P ops w oi v a ->
   anyE P md ops ro fl ms Q fuel (ls.setIfInBounds i true) (a.put oi.dst v) w->anyE P md ops ro fl ms Q (fuel+1) ls a w:=by
 intro fuel;induction fuel with
 |zero =>
  intro ls a w hsz hcl hr hy H;refine ⟨λ h=>(by rw[h]at hr;cases hr),λ j hj oj hoj=>?_⟩
  by_cases hji:j=i
  ·subst hji;rw[hi]at hoj;cases hoj;exact ⟨λ _=>⟨v,hy,H⟩,λ h=>(by rw[hfi]at h;cases h)⟩
  ·have:=ready_mono hj hji;rw[H.1]at this;cases this
 |succ fuel ih =>
  intro ls a w hsz hcl hr hy H;refine ⟨λ h=>(by rw[h]at hr;cases hr),λ j hj oj hoj=>?_⟩
  by_cases hji:j=i
  ·subst hji;rw[hi]at hoj;cases hoj;exact ⟨λ _=>⟨v,hy,H⟩,λ h=>(by rw[hfi]at h;cases h)⟩
  ·obtain ⟨h1,h2⟩:=H.2 j (ready_mono hj hji) oj hoj;have hui:=(mem_ready.1 hr).1;have huj:=(mem_ready.1 hj).1;have hwji:y0X ms j i=false:=y0E hm hcl hui hj;have hwij:y0X ms i j=false:=y0E hm hcl huj hr;have hlj:di ∉ oj.looksAt ops:=hS.look i j oi oj di hi hoj hji hdi hwji;have hne:∀ e,oj.dst=some e->e≠di:=λ e he h=>hS.one j i oj oi e hoj hi (Ne.symm hji) he (by rw[hdi,h])
   have hli:∀ e,oj.dst=some e->e ∉ oi.looksAt ops:=λ e he=>hS.look j i oj oi e hoj hi (Ne.symm hji) he hwij
   have hdi':di < n:=hS.lt i oi di hi hdi;rw[hdi]at h1 h2;have back:∀ (a':Act) (w':World),a'.tmps.size=n->YAt P ops w' oi v a'->anyE P md ops ro fl ms Q fuel ((ls.setIfInBounds i true).setIfInBounds j true) (a'.put (some di) v) w'->anyE P md ops ro fl ms Q (fuel+1) (ls.setIfInBounds j true) a' w':=λ a' w' hsz' hy' H'=>by
    refine ih (ls.setIfInBounds j true) a' w' hsz' (hcl.step hj) (ready_mono hr (Ne.symm hji)) hy' ?_
    rw[Array.setIfInBounds_comm _ _ hji,hdi];exact H'
   have still:∀ (a':Act) (w':World),a'.tmps.size=n->yD1 P ops fl ms j (ls.setIfInBounds i true) (a'.put (some di) v) w'->YAt P ops w' oi v a'/\yD1 P ops fl ms j ls a' w':=λ a' w' hsz' hst=>by
    refine ⟨(hst i oi di v hi hfi (y8t hui) hwji hdi (yFF (by rw[hsz'];exact hdi'))).unput (hS.plain i oi hi) (hS.own i oi di hi hdi),λ k ok d u hk hfk hlk hwk hdk huk=>?_⟩
    have hki:k≠i:=λ h=>by rw[h,y4o hui]at hlk;cases hlk
    have hdne:d≠di:=λ h=>hS.one k i ok oi d hk hi (Ne.symm hki) hdk (by rw[hdi,h])
    have h5:=hst k ok d u hk hfk (by rw[getD_set_ne false (Ne.symm hki)];exact hlk) hwk hdk (by rw[y1g (Ne.symm hdne)];exact huk)
    exact h5.unput (hS.plain k ok hk) (hS.look i k oi ok di hi hk hki hdi (y23 hm hcl hlk (y4o hui)))
   have putc:∀ (a':Act) u,(a'.put (some di) v).put oj.dst u=(a'.put oj.dst u).put (some di) v:=λ a' u=>Act.put_comm a' v u λ e he=>by cases he;exact λ h=>hne di h rfl
   have hsput:∀ u,(a.put oj.dst u).tmps.size=n:=λ u=>by rw[(y0G (a:=a) (dst:=oj.dst) (v:=u)).1,hsz]
   refine ⟨λ hf=>?_,λ hf=>⟨λ hw=>?_,λ hw=>?_⟩⟩
   ·obtain ⟨u,hyu,hn⟩:=h1 hf;refine ⟨u,hyu.unput (hS.plain j oj hoj) hlj,?_⟩;rw[putc]at hn;refine back _ _ (hsput u) ?_ hn;cases hdj:oj.dst with
    |none=>exact hy
    |some e=>exact hy.put (hS.plain i oi hi) (hli e hdj)
   ·have hw':Region.wanted oj (yielded ops (a.put (some di) v).tmps)=true:=by
     rw[y20 (a:=a) (λ t ht=>y1g λ e=>hlj (by rw[e];exact ht))];exact hw
    have h3:=(h2 hf).1 hw';refine Oper.wpIn_mono (λ a' w' hN=>?_) (y6G (ops:=ops) (Q:=λ _ _ _=>False) (hS.plain j oj hoj) hlj (λ h=>hne di h rfl) h3)
    obtain ⟨⟨hst,hn⟩,hsm⟩:=hN;have hsz':a'.tmps.size=n:=by rw[hsm.1,hsz]
    obtain ⟨q1,q2⟩:=still a' w' hsz' hst;exact ⟨q2,back a' w' hsz' q1 hn⟩
   ·have hw':Region.wanted oj (yielded ops (a.put (some di) v).tmps)=false:=by
     rw[y20 (a:=a) (λ t ht=>y1g λ e=>hlj (by rw[e];exact ht))];exact hw
    obtain ⟨hst,hn⟩:=(h2 hf).2 hw';rw[putc]at hst hn;obtain ⟨q1,q2⟩:=still _ _ (hsput undef) hst;exact ⟨q2,back _ _ (hsput undef) q1 hn⟩
omit [GT] in
theorem yOY{j:Nat}{b:Bool}(h:y46 ops s j=some (some b)):setG ops s j b=s:=by
 unfold y46 at h;unfold setG;split at h
 ·rename_i t ht;split at h
  ·rename_i b' hs;cases h;show ({ s with sl:=s.sl.set t (.val .bool b) }:St)=s
   have:s.slots.set t (.val .bool b)=s.slots:=by
    apply ext_getElem?;intro i;by_cases hti:t=i
    ·subst hti;rcases lt_or_ge t s.slots.length with hl|hl
     ·rw[getElem?_set_self hl];rw[St.get_def]at hs;rw[getD_eq_getElem?_getD,List.getElem?_eq_getElem hl]at hs;rw[List.getElem?_eq_getElem hl];exact congrArg some hs.symm
     ·rw[getElem?_eq_none (by simpa using hl),getElem?_eq_none hl]
    ·rw[getElem?_set_ne hti]
   rw[show s.sl.set t (.val .bool b)=s.sl from Slots.ext_list (by rw[Slots.toList_set];exact this)]
  ·cases h
  ·cases h
 ·cases h
theorem y89{call:(R:Type)->yv R}(hN:y0i call){T:Nat->Bool}{Q:St->Prop}{dr:Bool}(hn:dr=true->(g.ap.map (·.1)).Nodup/\(g.ap.map (·.2.2)).Nodup)(l2:List Oper):∀ (l:List Oper) (k:Nat) (s:St) (F:St->Option R),(dr=true->y0L g s=true)->(∀ j,j < l.length->l[j]?=ops[k+j]?)->(∀ j,j < l.length->T (k+j)=dr) ->
  y0c g (call R) dr ops l s F=some r->(∀ s',F s'=some r->runS g (call St) ops T Q l2 (k+l.length) s')->runS g (call St) ops T Q (l++l2) k s
 |[],k,s,F,_,_,_,h,hF=>hF s h
 |o::l,k,s,F,hap,hl,hT,h,hF=>by
  have h0:ops[k]?=some o:=by simpa using (hl 0 (by simp)).symm
  have hTk:T k=dr:=by simpa using hT 0 (by simp)
  have ih:=λ s' (hap':dr=true->y0L g s'=true) (h':y0c g (call R) dr ops l s' F=some r)=>y89 hN hn l2 l (k+1) s' F hap'
   (λ j hj=>by have:=hl (j+1) (by simp;omega);simpa[add_assoc,add_comm 1 j]using this)
   (λ j hj=>by have:=hT (j+1) (by simp;omega);simpa[add_assoc,add_comm 1 j]using this) h'
   (λ s' hs'=>by have:=hF s' hs';simpa[add_assoc,add_comm 1 l.length]using this)
  show sOp g (call St) ops T k (runS g (call St) ops T Q (l++l2) (k+1)) s
  unfold sOp;rw[h0];dsimp only;refine ⟨λ ht=>hap (hTk ▸ ht),?_⟩
  unfold y0c at h;unfold y10;cases hg:o.guard with
  |none =>
   rw[hg]at h;dsimp only at h ⊢;rw[y2P hN,bind_eq_some_iff]at h;obtain ⟨s',h1,h2⟩:=h;rw[hTk];exact ⟨s',h1,ih s' (λ hd=>by subst hd;exact y8i (hn rfl).1 (hn rfl).2 (hap rfl) h1) h2⟩
  |some gw =>
   obtain ⟨j,want⟩:=gw;rw[hg]at h;dsimp only at h ⊢;rw[bind_eq_some_iff]at h;obtain ⟨ob,hb,h⟩:=h;rw[hb];simp only[map_some];have yes:y09 g (call R) dr s o (λ s'=>y0c g (call R) dr ops l s' F)=some r->(match some true with
     |some true=>∃ s',y09 g (call St) (T k) s o some=some s'/\runS g (call St) ops T Q (l++l2) (k+1) s'
     |some false=>(T k=true->y1h g s o=true)/\runS g (call St) ops T Q (l++l2) (k+1) (s.put o.dst .gone)
     |none=>False):=λ h=>by
    rw[y2P hN,bind_eq_some_iff]at h;obtain ⟨s',h1,h2⟩:=h;rw[hTk];exact ⟨s',h1,ih s' (λ hd=>by subst hd;exact y8i (hn rfl).1 (hn rfl).2 (hap rfl) h1) h2⟩
   have no:(bif dr && !y1h g s o then none else y0c g (call R) dr ops l (s.put o.dst .gone) F)=some r->(T k=true->y1h g s o=true)/\runS g (call St) ops T Q (l++l2) (k+1) (s.put o.dst .gone):=λ h=>by
    cases hq:dr && !y1h g s o with
    |true=>rw[hq]at h;cases h
    |false =>
     rw[hq]at h;have hg2:dr=true->y1h g s o=true:=λ hd=>by rw[hd]at hq;simpa using hq
     exact ⟨λ ht=>hg2 (hTk ▸ ht),ih _ (λ hd=>y1q (hn hd).1 (hap hd) (hg2 hd)) h⟩
   cases ob with
   |none=>cases want<;>exact no h
   |some b =>
    dsimp only at h;cases want<;>cases b<;>(
     simp only[cond_true,cond_false]at h;rw[yOY hb]at h;first|exact yes h|exact no h)
theorem yCN{ms:List Nat}{n:Nat}(h:ssaE ops ms n=true):Ssa ops ms n/\∀ (i:Nat) o,ops[i]?=some o->y1c o=true->∃ d,o.dst=some d:=by
 unfold ssaE at h;have hmem:∀ {i:Nat} {o:Oper},ops[i]?=some o->(o,i)∈ops.toList.zipIdx:=λ {i o} hi=>by
  rw[mem_iff_getElem?];refine ⟨i,?_⟩;rw[getElem?_zipIdx];simp[hi]
 have hall:=λ {i:Nat} {o:Oper} (hi:ops[i]?=some o)=>all_eq_true.1 h _ (hmem hi)
 have hd:∀ {i:Nat} {o:Oper} {d:Nat},ops[i]?=some o->o.dst=some d->d < n/\d ∉ o.looksAt ops/\∀ (j:Nat) q,ops[j]?=some q->j≠i->q.dst≠some d/\(d ∉ q.looksAt ops\/y0X ms j i=true):=λ {i o d} hi hdd=>by
  have h1:=hall hi;simp only[hdd,and_eq_true,decide_eq_true_eq,not_eq_true']at h1;obtain ⟨⟨⟨h2,h3⟩,h4⟩,_⟩:=h1;refine ⟨h2,λ hm=>?_,λ j q hj hji=>?_⟩
  ·rw[contains_iff_mem.2 hm]at h3;cases h3
  ·have h5:=all_eq_true.1 h4 _ (hmem hj);simp only[or_eq_true,and_eq_true,beq_iff_eq,bne_iff_ne,ne_eq,not_eq_true']at h5;rcases h5 with h5|⟨h5,h6⟩
   ·exact absurd h5 hji
   ·refine ⟨h5,h6.imp (λ h6 hm=>?_) id⟩
    rw[contains_iff_mem.2 hm]at h6;cases h6
 refine ⟨⟨λ i o hi=>?_,λ i o d hi hdd=>(hd hi hdd).1,λ i o d hi hdd=>(hd hi hdd).2.1,λ i j o q d hi hj hji hdd=>((hd hi hdd).2.2 j q hj hji).1,λ i j o q d hi hj hji hdd hw=>?_⟩,λ i o hi hf=>?_⟩
 ·have h1:=hall hi;simp only[and_eq_true]at h1;have h2:=h1.2;exact ⟨λ cs b he=>(by rw[he]at h2;cases h2),λ c he=>(by rw[he]at h2;cases h2)⟩
 ·rcases ((hd hi hdd).2.2 j q hj hji).2 with h1|h1
  ·exact h1
  ·rw[hw]at h1;cases h1
 ·have h1:=hall hi;cases hdd:o.dst with
  |some d=>exact ⟨d,rfl⟩
  |none =>
   simp only[hdd,hf,and_eq_true]at h1;exact absurd h1.1 (by decide)
def RO{α:Type}(m:Sem α):Prop:=∀ (P:Program) (w:World) (v:α) (w':World),m.run P w=.ok v w'->w'=w
theorem RO.bind{α β:Type}{m:Sem α}{f:α->Sem β}(h1:RO m)(h2:∀ x,RO (f x)):RO (m >>= f):=λ P w v w' h=>by
 rw[Sem.run_bind]at h;cases hm:m.run P w with
 |ok x w1 =>
  rw[hm]at h;have e1:=h1 P w x w1 hm;subst e1;exact h2 x P w1 v w' h
 |halt x w1=>rw[hm]at h;cases h
theorem RO.pure{α:Type}(x:α):RO (Pure.pure x:Sem α):=λ P w v w' h=>by
 simp only[Sem.run_pure]at h;cases h;rfl
theorem RO.halt{α:Type}(x:Halt):RO (Sem.halt x:Sem α):=λ P w v w' h=>by
 simp only[Sem.run]at h;cases h
theorem RO.load(x:Addr)(m:Go.Mode):RO (Go.load x m):=λ P w v w' h=>by
 simp only[Go.load,Sem.run]at h;split at h
 ·cases h;rfl
 ·split at h
  ·cases h;rfl
  ·cases h
theorem RO.program:RO Go.program:=λ P w v w' h=>by
 simp only[Go.program,Sem.run]at h;cases h;rfl
theorem RO.underlying(t:TypeId):RO (Go.underlying t):=by
 unfold Go.underlying;refine RO.program.bind λ p=>?_
 split
 ·exact RO.pure _
 ·exact RO.halt _
theorem RO.typeInfo(t:TypeId):RO (Go.typeInfo t):=by
 unfold Go.typeInfo;refine RO.program.bind λ p=>?_
 split
 ·exact RO.pure _
 ·exact RO.halt _
theorem RO.loadCellsFrom(x:Addr):∀ (n i:Nat) (acc:Array Value),RO (Go.loadCellsFrom x i n acc)
 |0,_,_=>RO.pure _
 |n+1,i,acc=>by
  unfold Go.loadCellsFrom;exact (RO.load _ _).bind λ v=>RO.loadCellsFrom x n _ _
theorem RO.loadAt(t:TypeId)(p:Value):RO (Instr.loadAt t p):=by
 unfold Instr.loadAt;refine RO.bind ?_ λ x=>?_
 ·unfold Instr.sureAddr;split
  ·exact RO.pure _
  ·exact RO.halt _
 ·unfold Go.loadVar;refine RO.bind ?_ λ b=>?_
  ·unfold Go.isAgg;refine (RO.underlying t).bind λ d=>?_
   split<;>exact RO.pure _
  ·split
   ·refine RO.bind ?_ λ n=>RO.bind (RO.loadCellsFrom x n 0 #[]) λ l=>RO.pure _
    unfold Go.sizeOf;exact (RO.typeInfo t).bind λ i=>RO.pure _
   ·exact RO.load _ _
def WFr{α:Type}(m:Sem α):Prop:=∀ (P:Program) (w:World) (v:α) (w':World),m.run P w=.ok v w'->w'=w/\∀ w2,m.run P w2=.ok v w2
def NOk{α:Type}(m:Sem α):Prop:=∀ (P:Program) (w:World) (v:α) (w':World),m.run P w≠.ok v w'
theorem NOk.wf{α:Type}{m:Sem α}(h:NOk m):WFr m:=λ P w v w' hh=>absurd hh (h P w v w')
theorem NOk.bind{α β:Type}{m:Sem α}{f:α->Sem β}(h2:∀ x,NOk (f x)):NOk (m >>= f):=λ P w v w' h=>by
 rw[Sem.run_bind]at h;cases hm:m.run P w with
 |ok x w1=>rw[hm]at h;exact h2 x P w1 v w' h
 |halt x w1=>rw[hm]at h;cases h
theorem NOk.halt{α:Type}(x:Halt):NOk (Sem.halt x:Sem α):=λ P w v w' h=>by
 simp only[Sem.run]at h;cases h
theorem NOk.bounds{α:Type}(k:IntKind)(x y:Int)(c:BoundsCode):NOk (Go.boundsPanic k x y c:Sem α):=by
 have hr:∀ e:RuntimeError,NOk (Go.runtimePanic e:Sem α):=λ e=>by
  unfold Go.runtimePanic;refine NOk.bind λ p=>?_
  cases e<;>first
   | exact NOk.halt _
   | exact NOk.bind λ _=>NOk.bind λ _=>NOk.halt _
 unfold Go.boundsPanic;dsimp only;split
 ·exact NOk.bind λ b=>hr _
 ·exact NOk.bind λ b=>hr _
theorem WFr.bind{α β:Type}{m:Sem α}{f:α->Sem β}(h1:WFr m)(h2:∀ x,WFr (f x)):WFr (m >>= f):=λ P w v w' h=>by
 rw[Sem.run_bind]at h;cases hm:m.run P w with
 |ok x w1 =>
  rw[hm]at h;obtain ⟨e1,h3⟩:=h1 P w x w1 hm;subst e1;obtain ⟨e2,h4⟩:=h2 x P w1 v w' h;refine ⟨e2,λ w2=>?_⟩
  rw[Sem.run_bind,h3 w2];exact h4 w2
 |halt x w1=>rw[hm]at h;cases h
theorem WFr.pure{α:Type}(x:α):WFr (Pure.pure x:Sem α):=λ P w v w' h=>by
 simp only[Sem.run_pure]at h;cases h;exact ⟨rfl,λ w2=>by simp only[Sem.run_pure]⟩
theorem WFr.program:WFr Go.program:=λ P w v w' h=>by
 simp only[Go.program,Sem.run]at h;cases h;exact ⟨rfl,λ w2=>rfl⟩
theorem WFr.underlying(t:TypeId):WFr (Go.underlying t):=by
 unfold Go.underlying;refine WFr.program.bind λ p=>?_
 split
 ·exact WFr.pure _
 ·exact (NOk.halt _).wf
theorem WFr.sizeOf(t:TypeId):WFr (Go.sizeOf t):=by
 unfold Go.sizeOf Go.typeInfo;refine WFr.bind (WFr.program.bind λ p=>?_) λ i=>WFr.pure _
 split
 ·exact WFr.pure _
 ·exact (NOk.halt _).wf
theorem WFr.sureAddr(v:Value):WFr (Instr.sureAddr v):=by
 unfold Instr.sureAddr;split
 ·exact WFr.pure _
 ·exact (NOk.halt _).wf
theorem WFr.indexAt(t:TypeId)(x i:Value):WFr (Instr.indexAt t x i):=by
 unfold Instr.indexAt;refine WFr.bind ?_ λ q=>?_
 ·unfold Go.asIntOf;split
  ·exact WFr.pure _
  ·exact (NOk.halt _).wf
  ·exact (NOk.halt _).wf
 ·refine WFr.bind (WFr.underlying t) λ d=>?_
  have hj:∀ b:Option Addr×Nat×TypeId,WFr (match b with
   | (base,len,elem)=>do
    let __do_lift <- Go.underlying t
    have tiny:Bool:=
     decide (len<=1) &&
      match __do_lift with
      |TypeDesc.array len elem=>true
      |x=>false
    match base with
     |some a =>
      if 0<=q.snd/\q.snd < (len:Int)then do
       let __do_lift <- Go.sizeOf elem
       Pure.pure (Value.pointer (some (a.add (q.snd.toNat * __do_lift))))
      else
       if tiny=true then
        unsupported
         (Unsupported.noEntry "op/indexAddr.an index out of range at an array of length 0 or 1 (ledger 616)")
       else boundsPanic q.fst q.snd (len:Int) BoundsCode.index
     |none=>boundsPanic q.fst q.snd 0 BoundsCode.index:Sem Value):=λ b=>by
   obtain ⟨base,len,elem⟩:=b;dsimp only;refine WFr.bind (WFr.underlying t) λ d=>?_
   cases base with
   |none=>exact (NOk.bounds _ _ _ _).wf
   |some a =>
    dsimp only;split
    ·exact (WFr.sizeOf _).bind λ n=>WFr.pure _
    ·refine NOk.wf ?_
     have two:∀ (b:Bool) (u:Unsupported),NOk (if b=true then (unsupported u:Sem Value)else boundsPanic q.fst q.snd (len:Int) BoundsCode.index):=λ b u=>by
      split
      ·exact NOk.halt _
      ·exact NOk.bounds _ _ _ _
     exact two _ _
  dsimp only;split
  ·exact (WFr.sureAddr _).bind λ a=>(WFr.pure _).bind hj
  ·exact (WFr.pure _).bind hj
  ·exact WFr.bind (NOk.halt _).wf hj
theorem WFr.extract(x:Value)(n:Nat):WFr (Instr.extract x n):=by
 unfold Instr.extract;split
 ·split
  ·exact WFr.pure _
  ·exact (NOk.halt _).wf
 ·exact (NOk.halt _).wf
theorem yIX{K:SV->Option R}(hT:yc P g.T)(h:Rel P A0 w0 ρ s a w)(hf:y1c o=true)(hnl:∀ t x,o.op≠.load t x)(hk:yU g s o K=some r):∃ v,∀ w',(execOp a.eval o).run P w'=.ok (.value v) w':=by
 have wf:WFr (execOp a.eval o)->Yld P A0 ρ s a w o K r->∃ v,∀ w',(execOp a.eval o).run P w'=.ok (.value v) w':=λ hw hy=>by
  obtain ⟨sv,v,w',h1,_⟩:=hy;exact ⟨v,(hw P w _ w' h1).2⟩
 cases ho:o.op with
 |move x=>exact ⟨a.eval x,λ w'=>by simp[execOp,ho]⟩
 |assign x=>exact ⟨a.eval x,λ w'=>by simp[execOp,ho]⟩
 |indexAddr t x ix=>exact wf (by simp only[execOp,ho];exact (WFr.indexAt _ _ _).bind λ v=>WFr.pure _) (y4R hT h ho hk)
 |extract x n=>exact wf (by simp only[execOp,ho];exact (WFr.extract _ _).bind λ v=>WFr.pure _) (y61 h ho hk)
 |load t x=>exact absurd ho (hnl t x)
 |nilCheck x =>
  simp only[yU,ho,ptrK]at hk;have hx:=(y6 (T:=g.T) h 0 x).1;have key:∀ ad,a.eval x=.pointer (some ad)->∃ v,∀ w',(execOp a.eval o).run P w'=.ok (.value v) w':=λ ad he=>⟨_,λ w'=>by simp[execOp,ho,he];rfl⟩
  split at hk
  ·rename_i β off he;rw[he]at hx;obtain ⟨b,_,hv⟩:=hx;exact key _ hv
  ·rename_i β n sz off he;rw[he]at hx;obtain ⟨b,_,hv⟩:=hx;exact key _ hv
  ·rename_i t y he;rw[he]at hx;obtain ⟨b,off,l,hv,_⟩:=y4B hx;exact key _ hv
  ·cases hk
 |unOp op t x =>
  unfold y1c at hf;rw[ho]at hf;cases op with
  |not =>
   simp only[yU,ho]at hk;have hx:=(y6 (T:=g.T) h t x).1;unfold unK at hk;split at hk
   ·cases ‹UnOp.not=_›
   ·cases ‹UnOp.not=_›
   ·rename_i b _ he;rw[he]at hx;have hv:=y2m hx;exact ⟨.bool !b,λ w'=>by simp[execOp,ho,hv,Op.unary]⟩
   ·cases ‹UnOp.not=_›
   ·cases hk
  |_=>cases hf
 |fieldAddr t x f =>
  simp only[yU,ho]at hk;have hx:=(y6 (T:=g.T) h 0 x).1;have key:∀ (b off:Nat) (fs:Array Field) (fd:Field) (u:Ty),a.eval x=.pointer (some ⟨b,off,none⟩)->P.underlying t=some (.struct fs)->fs[f]?=some fd->Fits P fd.type u->u.size≠0->∃ v,∀ w',(execOp a.eval o).run P w'=.ok (.value v) w':=λ b off fs fd u hv h1 h2 h3 h4 =>
   ⟨.pointer (some ⟨b,off+fd.offset,none⟩),λ w'=>by
    have:=y2Y (P:=P) (w:=w') (b:=b) (off:=off) h1 h2 h3 h4;simp only[execOp,ho,hv,Sem.run_bind,this,Result.andThen_ok,Sem.run_pure]⟩
  split at hk
  ·rename_i i u y hi he;rw[he]at hx;split at hk
   ·rename_i hu;subst hu;simp only[bind_eq_some_iff]at hk;obtain ⟨tv,hf,hk⟩:=hk;obtain ⟨b,off,l,hv,h1,h2,h3,h4⟩:=y4B hx;obtain ⟨fs,h5,h6,h7⟩:=y1m (hT.shape hi) (y43 hf);obtain ⟨fd,h8,h9,h10,h11,h12,h13⟩:=y3U _ _ _ _ _ _ _ h7 h4 hf;exact key b off fs fd tv.t hv h5 (by simpa using h8) h9 h10
   ·cases hk
  ·rename_i i β off hi he;rw[he]at hx;obtain ⟨b,hb,hv⟩:=hx;split at hk
   ·rename_i hp;simp only[bind_eq_some_iff]at hk;obtain ⟨p,hf,hk⟩:=hk;obtain ⟨fs,fd,u,h1,h2,h3,h4,rfl⟩:=y1r (hT.shape hi) hp hf;exact key _ _ fs fd u hv h1 h2 h3 h4
   ·cases hk
  ·rename_i i β n sz off hi he;rw[he]at hx;obtain ⟨b,hb,hv⟩:=hx;split at hk
   ·rename_i hp;simp only[bind_eq_some_iff]at hk;obtain ⟨p,hf,hk⟩:=hk;obtain ⟨fs,fd,u,h1,h2,h3,h4,rfl⟩:=y1r (hT.shape hi) hp hf;exact key _ _ fs fd u hv h1 h2 h3 h4
   ·cases hk
  ·rename_i i β n j sz off hi he;rw[he]at hx;obtain ⟨q,b,hq,hb,hv⟩:=hx;split at hk
   ·rename_i hp;simp only[bind_eq_some_iff]at hk;obtain ⟨p,hf,hk⟩:=hk;obtain ⟨fs,fd,u,h1,h2,h3,h4,rfl⟩:=y1r (hT.shape hi) hp hf;exact key _ _ fs fd u hv h1 h2 h3 h4
   ·cases hk
  ·cases hk
 |_=>unfold y1c at hf;rw[ho]at hf;cases hf
theorem y8z{K:SV->Option R}(hE:∀ e∈g.E,FnOK P e)(hT:yc P g.T)(h:Rel P A0 w0 ρ s a w)(hf:y1c o=true)(hk:yU g s o K=some r) :
  ∃ sv v,(execOp a.eval o).run P w=.ok (.value v) w/\((∀ t x,o.op≠.load t x)->∀ w',(execOp a.eval o).run P w'=.ok (.value v) w')/\yD P (Av A0 ρ s.cH) w ρ sv v/\sv.inn s.cH.length/\K sv=some r:=by
 obtain ⟨sv,v,w',h1,h2,h3,h4,h5⟩:=y5H hE hT h hk;by_cases hl:∃ t x,o.op=.load t x
 ·obtain ⟨t,x,ho⟩:=hl;have e1:w'=w:=by
   have hr:RO (execOp a.eval o):=by
    simp only[execOp,ho];exact (RO.loadAt _ _).bind λ v=>RO.pure _
   exact hr P w _ w' h1
  subst e1;exact ⟨sv,v,h1,λ hn=>absurd ho (hn t x),h3,h4,h5⟩
 ·have hnl:∀ t x,o.op≠.load t x:=λ t x he=>hl ⟨t,x,he⟩
  obtain ⟨v',hv'⟩:=yIX hT h hf hnl hk;have h6:=hv' w;rw[h1]at h6;cases h6;exact ⟨sv,v,h1,λ _=>hv',h3,h4,h5⟩
theorem yN4:∀ (t:Ty) (x y:t.den),t.agr=true->eqV t x y=true->x=y:=by
 intro t;induction t with
 |bool=>intro x y _ h;simpa[eqV]using h
 |int k=>intro x y _ h;simpa[eqV]using h
 |str=>intro x y _ h;simpa[eqV]using h
 |unit=>intro x y _ h;rfl
 |code=>intro x y _ h;simpa[eqV]using h
 |pair a b iha ihb =>
  intro x y ht h;simp only[Ty.agr,and_eq_true]at ht;simp only[eqV,and_eq_true]at h;exact Prod.ext (iha _ _ ht.1 h.1) (ihb _ _ ht.2 h.2)
 |_=>intro x y ht;cases ht
theorem yHm{A A':Nat->Prop}:∀ (t:Ty) (x:t.den) (l l':List Value),t.agr=true->Cells P t A w x l->Cells P t A' w' x l'->l=l':=by
 intro t;induction t with
 |bool=>intro x l l' _ h h';simp only[Cells]at h h';rw[h,h']
 |int k=>intro x l l' _ h h';simp only[Cells]at h h';rw[h,h']
 |str=>intro x l l' _ h h';simp only[Cells]at h h';rw[h,h']
 |unit=>intro x l l' _ h h';simp only[Cells]at h h';rw[h,h']
 |code =>
  intro x l l' _ h h';simp only[Cells]at h h';rcases h with ⟨h1,rfl⟩|⟨f,h1,rfl⟩<;>rcases h' with ⟨h2,rfl⟩|⟨f',h2,rfl⟩
  ·rfl
  ·exact absurd (h1.symm.trans h2) (Nat.succ_ne_zero f').symm
  ·exact absurd (h2.symm.trans h1) (Nat.succ_ne_zero f).symm
  ·have:f+1=f'+1:=h1.symm.trans h2;rw[Nat.succ.inj this]
 |pair a b iha ihb =>
  intro x l l' ht h h';simp only[Ty.agr,and_eq_true]at ht;simp only[Cells]at h h';obtain ⟨l1,l2,rfl,h1,h2⟩:=h;obtain ⟨m1,m2,rfl,h3,h4⟩:=h';rw[iha _ _ _ ht.1 h1 h3,ihb _ _ _ ht.2 h2 h4]
 |_=>intro x l l' ht;cases ht
theorem yDN{A:Nat->Prop}{x y:SV}{u v:Value}{K:Option R}(hx:yD P A w ρ x u)(hy:yD P A w ρ y v)(h:y9h x y K=some r):u=v/\K=some r:=by
 unfold y9h at h;split at h
 ·rename_i t a u' b;split at h
  ·rename_i e;subst e;split at h
   ·rename_i ht;cases he:eqV _ a b with
    |false=>simp only[he,cond_false]at h;cases h
    |true =>
     simp only[he,cond_true]at h;have:=yN4 _ _ _ ht he;subst this;obtain ⟨l,h1,rfl⟩:=hx;obtain ⟨l',h2,rfl⟩:=hy;rw[yHm _ _ _ _ ht h1 h2];exact ⟨rfl,h⟩
   ·cases h
  ·cases h
 ·split at h
  ·rename_i e;subst e;exact ⟨hx.trans hy.symm,h⟩
  ·cases h
 ·split at h
  ·rename_i e;obtain ⟨rfl,rfl⟩:=e;obtain ⟨b,hb,rfl⟩:=hx;obtain ⟨b',hb',rfl⟩:=hy;rw[hb]at hb';cases hb';exact ⟨rfl,h⟩
  ·cases h
 ·cases h
theorem yJf:yF1 ops s o=y10 ops s o:=by
 unfold yF1 y10;cases o.guard with
 |none=>rfl
 |some gw =>
  obtain ⟨j,want⟩:=gw;dsimp only;cases y46 ops s j with
  |none=>rfl
  |some b=>cases b with
   |none=>rfl
   |some b=>cases want<;>cases b<;>rfl
theorem yAd{K:Option R}(hE:∀ e∈g.E,FnOK P e)(hT:yc P g.T)(h:Rel P A0 w0 ρ s a w)(hk:y3P g ops s o K=some r) :
  K=some r/\((∃ t x,o.op=.load t x)->∀ d v,o.dst=some d->a.tmps[d]?=some v->YAt P ops w o v a):=by
 unfold y3P at hk;split at hk
 ·rename_i t x ho;split at hk
  ·rename_i d hd;rw[yJf]at hk;obtain ⟨b,hb,hk⟩:=bind_eq_some_iff.1 hk;have hg:=y0t h hb;have hsv:=h.get d;cases b with
   |true =>
    simp only[cond_true]at hk;obtain ⟨sv,v,h1,_,h3,_,h5⟩:=y8z hE hT h (by unfold y1c;rw[ho]) hk
    obtain ⟨h6,h7⟩:=yDN h3 hsv h5;refine ⟨h7,λ _ d' v' hd' hv'=>?_⟩
    rw[hd]at hd';cases hd';refine .inl ⟨hg,?_⟩;have:v=v':=by
     rw[h6];simp[Act.eval,Array.getD_eq_getD_getElem?,hv']
    rw[<- this];exact h1
   |false =>
    simp only[cond_false]at hk;split at hk
    ·rename_i hgone;rw[hgone]at hsv;refine ⟨hk,λ _ d' v' hd' hv'=>?_⟩
     rw[hd]at hd';cases hd';refine .inr ⟨hg,?_⟩;have hsv:a.eval (.tmp d)=undef:=hsv;simpa[Act.eval,Array.getD_eq_getD_getElem?,hv']using hsv
    ·cases hk
  ·cases hk
 ·rename_i hn;exact ⟨hk,λ ⟨t,x,hx⟩=>absurd hx (hn t x)⟩
theorem y4t{K:Option R}(hE:∀ e∈g.E,FnOK P e)(hT:yc P g.T)(h:Rel P A0 w0 ρ s a w):∀ (l:List Oper),y2F g ops s l K=some r ->
  K=some r/\∀ o∈l,(∃ t x,o.op=.load t x)->∀ d v,o.dst=some d->a.tmps[d]?=some v->YAt P ops w o v a
 |[],hk=>⟨hk,λ o ho=>by cases ho⟩
 |o::l,hk=>by
  obtain ⟨h1,h2⟩:=yAd hE hT h (show y3P g ops s o (y2F g ops s l K)=some r from hk)
  obtain ⟨h3,h4⟩:=y4t hE hT h l h1;refine ⟨h3,λ q hq=>?_⟩
  rcases mem_cons.1 hq with rfl|hq
  ·exact h2
  ·exact h4 q hq
def flO(ops:Array Oper)(j:Nat):Bool:=match ops[j]? with|some o=>y1c o|none=>false
theorem y6u{call:(R:Type)->yv R}(hC:y2z P call)(hRd:y1p P call)(hN:y0i call)(hT:yc P g.T)(hE:∀ e∈g.E,FnOK P e){ms:List Nat}{n:Nat}(hm:y0j .any ops.toList ms)(hS:Ssa ops ms n)
  (hfd:∀ (i:Nat) o,ops[i]?=some o->y1c o=true->∃ d,o.dst=some d) {K:St->Option R} :
  ∀ (l:List Nat) (ls:Array Bool) (done:List Nat) {ρ:Places} {s:St} {a:Act} {w:World},Rel P A0 w0 ρ s a w->a.tmps.size=n->(∀ j,ls.getD j false=true->j∈done)->y2A .any ops ls ->
   (∀ j oj d v,ops[j]?=some oj->y1c oj=true->(∀ t x,oj.op≠.load t x)->ls.getD j false=true->oj.dst=some d->a.tmps[d]?=some v->∀ w',YAt P ops w' oj v a) ->
   runE g (call R) ops ms l ls done s K=some r->anyE P .any ops w0.ro (flO ops) ms (λ a w=>∃ ρ s,Rel P A0 w0 ρ s a w/\K s=some r) l.length ls a w
 |[],ls,done,ρ,s,a,w,h,hsz,hdn,hcl,hFI,hk=>by
  unfold runE at hk;obtain ⟨h1,h2⟩:=y07 hk;exact ⟨isEmpty_iff.1 h1,ρ,s,h,h2⟩
 |i::l,ls,done,ρ,s,a,w,h,hsz,hdn,hcl,hFI,hk=>by
  have ih:=λ {ρ:Places} {s:St} {a:Act} {w:World}=>y6u hC hRd hN hT hE hm hS hfd (K:=K) l (ls.setIfInBounds i true) (i::done) (ρ:=ρ) (s:=s) (a:=a) (w:=w)
  have hdn':∀ j,(ls.setIfInBounds i true).getD j false=true->j∈i::done:=λ j hj=>by
   by_cases hij:i=j
   ·subst hij;exact mem_cons_self
   ·rw[getD_set_ne false hij]at hj;exact mem_cons_of_mem _ (hdn j hj)
  unfold runE at hk;split at hk
  ·cases hk
  rename_i o hoi;have one:∀ {F:St->Option R},y0c g (call R) false ops [o] s F=some r->match y10 ops s o with
    |some true=>∃ s',y09 g (call St) false s o some=some s'/\F s'=some r
    |some false=>F (s.put o.dst .gone)=some r
    |none=>False:=λ {F} hh=>by
   have h1:=y89 hN (g:=g) (ops:=ops) (T:=λ _=>false) (Q:=λ s=>F s=some r) (dr:=false) (λ h=>by cases h) [] [o] i s F (λ h=>by cases h) (λ j hj=>by
    have:j=0:=by simpa using hj
    subst this;simpa using hoi.symm) (λ _ _=>rfl) hh (λ s' hs'=>hs')
   have h2:sOp g (call St) ops (λ _=>false) i (λ s=>F s=some r) s:=h1
   unfold sOp at h2;rw[hoi]at h2;dsimp only at h2;have h3:=h2.2;split at h3
   ·rename_i hg;first|exact h3|(rw[hg];exact h3)
   ·rename_i hg;first|exact h3.2|(rw[hg];exact h3.2)
   ·exact h3.elim
  split at hk
  ·rename_i hf;obtain ⟨hr,hk⟩:=y07 hk;simp only[and_eq_true,not_eq_true']at hr;obtain ⟨hr,heff⟩:=hr;have hri:i∈Region.ready .any ops ls:=contains_iff_mem.1 hr;obtain ⟨di,hdi⟩:=hfd i o hoi hf;have hfl:flO ops i=true:=by unfold flO;rw[hoi];exact hf
   have hui:=y4o (mem_ready.1 hri).1;have hlt:=hS.lt i o di hoi hdi;have keepFI:∀ (u:Value),((∀ t x,o.op≠.load t x)->∀ w',YAt P ops w' o u a)->∀ j oj d v,ops[j]?=some oj->y1c oj=true->(∀ t x,oj.op≠.load t x)->(ls.setIfInBounds i true).getD j false=true->oj.dst=some d->(a.put o.dst u).tmps[d]?=some v->∀ w',YAt P ops w' oj v (a.put o.dst u):=λ u hu j oj d v hj hfj hnl hlj hdj hv w'=>by
    rw[hdi]at hv ⊢;by_cases hij:i=j
    ·subst hij;rw[hoi]at hj;cases hj;rw[hdi]at hdj;cases hdj;rw[yFF (by rw[hsz];exact hlt)]at hv
     cases hv;exact (hu hnl w').put (hS.plain i o hoi) (hS.own i o di hoi hdi)
    ·rw[getD_set_ne false hij]at hlj;have hdne:di≠d:=λ e=>hS.one i j o oj di hoi hj (Ne.symm hij) hdi (by rw[hdj,e])
     rw[y1g hdne]at hv;exact (hFI j oj d v hj hfj hnl hlj hdj hv w').put (hS.plain j oj hj) (hS.look i j o oj di hoi hj (Ne.symm hij) hdi (y23 hm hcl hlj hui))
   have hszp:∀ u,(a.put o.dst u).tmps.size=n:=λ u=>by rw[(y0G (a:=a) (dst:=o.dst) (v:=u)).1,hsz]
   have h1:=one hk;split at h1
   ·rename_i hg;obtain ⟨s',hst,hF⟩:=h1;unfold y09 at hst;rw[if_neg (by rw[heff];decide)]at hst
    simp only[false_eq_true,if_false]at hst;have hS1:Rel P A0 w0 ρ (preK g o (settleAll (y8c o) s)) a w:=(Rel.settleAll _ h).preK g o;generalize preK g o (settleAll (y8c o) s)=s1 at hst hS1;have hst':yU g s1 o (λ sv=>some (s1.put o.dst sv))=some s':=by
     split at hst
     ·rename_i f args ts ho;unfold y1c at hf;rw[ho]at hf;cases hf
     ·exact hst
    obtain ⟨sv,v,h3,h4,h5,h6,h7⟩:=y8z hE hT hS1 hf hst';cases h7;have hw:=y0t h hg;exact y9g hm hS hoi hfl hdi _ _ _ _ hsz hcl hri (.inl ⟨hw,h3⟩) (ih (hS1.put o.dst h6 h5) (hszp v) hdn' (hcl.step hri) (keepFI v λ hn w'=>.inl ⟨hw,h4 hn w'⟩) hF)
   ·rename_i hg;have hw:=y0t h hg;exact y9g hm hS hoi hfl hdi _ _ _ _ hsz hcl hri (.inr ⟨hw,rfl⟩) (ih (h.put o.dst (sv:=.gone) (v:=undef) trivial rfl) (hszp undef) hdn' (hcl.step hri) (keepFI undef λ _ w'=>.inr ⟨hw,rfl⟩) h1)
   ·exact h1.elim
  ·rename_i hf;have hf:y1c o=false:=by simpa using hf
   obtain ⟨hr,hk⟩:=y07 hk;have hr:Region.ready .any ops ls=[i]:=by simpa using hr
   have hri:i∈Region.ready .any ops ls:=by rw[hr];exact mem_cons_self
   have hui:=y4o (mem_ready.1 hri).1;have hfl:flO ops i=false:=by unfold flO;rw[hoi];exact hf
   have next:∀ (s2:St) (ρ':Places) (a':Act) (w':World),Rel P A0 w0 ρ' s2 a' w'->yG9 o.dst a a'->y2F g ops s2 (yDa ops ms i done) (runE g (call R) ops ms l (ls.setIfInBounds i true) (i::done) s2 K)=some r ->
     yD1 P ops (flO ops) ms i ls a' w'/\anyE P .any ops w0.ro (flO ops) ms (λ a w=>∃ ρ s,Rel P A0 w0 ρ s a w/\K s=some r) l.length (ls.setIfInBounds i true) a' w':=λ s2 ρ' a' w' hR hsm hh=>by
    obtain ⟨h3,h4⟩:=y4t hE hT hR _ hh;have nl:∀ j oj d v,ops[j]?=some oj->y1c oj=true->(∀ t x,oj.op≠.load t x)->ls.getD j false=true->oj.dst=some d->a'.tmps[d]?=some v->∀ w',YAt P ops w' oj v a':=λ j oj d v hj hfj hnl hlj hdj hv w''=>by
     have hij:i≠j:=λ e=>by rw[<- e,hui]at hlj;cases hlj
     have hdne:o.dst≠some d:=λ e=>hS.one i j o oj d hoi hj (Ne.symm hij) e hdj
     rw[hsm.2 d hdne]at hv;exact (hFI j oj d v hj hfj hnl hlj hdj hv w'').agree (hS.plain j oj hj) λ t ht=>hsm.2 t λ e=>hS.look i j o oj t hoi hj (Ne.symm hij) e (y23 hm hcl hlj hui) ht
    refine ⟨λ j oj d v hj hfj hlj hwj hdj hv=>?_,ih hR (by rw[hsm.1,hsz]) hdn' (hcl.step hri) (λ j oj d v hj hfj hnl hlj hdj hv=>?_) h3⟩
    ·have hfj':y1c oj=true:=by unfold flO at hfj;rw[hj]at hfj;exact hfj
     by_cases hl:∃ t x,oj.op=.load t x
     ·refine h4 oj ?_ hl d v hdj hv;unfold yDa;refine mem_filterMap.2 ⟨j,hdn j hlj,?_⟩;rw[hj];dsimp only;rw[if_pos (by rw[hfj',hwj];rfl)]
     ·exact nl j oj d v hj hfj' (λ t x e=>hl ⟨t,x,e⟩) hlj hdj hv w'
    ·by_cases hij:i=j
     ·subst hij;rw[hoi]at hj;cases hj;rw[hf]at hfj;cases hfj
     ·rw[getD_set_ne false hij]at hlj;exact nl j oj d v hj hfj hnl hlj hdj hv
   have h1:=one hk;refine ⟨λ h0=>(by rw[hr]at h0;cases h0),λ j hj q hq=>?_⟩
   rw[hr]at hj;have hji:j=i:=by simpa using hj
   subst hji;rw[hoi]at hq;cases hq;refine ⟨λ h0=>(by rw[hfl]at h0;cases h0),λ _=>?_⟩
   split at h1
   ·rename_i hg;have hw:=y0t h hg;obtain ⟨s',hst,hF⟩:=h1;refine ⟨λ _=>?_,λ h0=>(by rw[hw]at h0;cases h0)⟩
    have h2:=y6d hC hRd hT hE h (dr:=false) (λ h=>by cases h) hst (λ a' w'=>Goes P A0 w0 some s' a' w') (λ _ _ _=>False) (λ _ _ hh=>hh)
    refine Oper.wpIn_mono (λ a' w' hN=>?_) (y8f (Q:=λ _ _ _=>False) (hS.plain _ o hoi) h2)
    obtain ⟨⟨ρ',s2,hR,hs2⟩,hsm⟩:=hN;cases hs2;exact next s' ρ' a' w' hR hsm hF
   ·rename_i hg;have hw:=y0t h hg;refine ⟨λ h0=>(by rw[hw]at h0;cases h0),λ _=>?_⟩
    exact next _ ρ _ w (h.put o.dst (sv:=.gone) (v:=undef) trivial rfl) y0G h1
   ·exact h1.elim
theorem yAR{call:(R:Type)->yv R}(hC:y2z P call)(hRd:y1p P call)(hN:y0i call)(hm:P.follows .mixedOrders=true)(hT:yc P g.T)(hE:∀ e∈g.E,FnOK P e){K:St->Option R}{Q:Exit->Act->World->Prop}{id:Nat}(h:Rel P A0 w0 ρ s a w)
  (hk:yBN g (call R) ops s K=some r) (hQ:∀ ρ s a w,Rel P A0 w0 ρ s a w->K s=some r->Q .normal a w):(Code.region id ops true).wpIn (ym w0.ro) 0 P Q a w:=by
 unfold yBN at hk;dsimp only at hk;obtain ⟨h1,hk⟩:=y07 hk;simp only[and_eq_true,beq_iff_eq]at h1;obtain ⟨h1,hlen⟩:=h1;obtain ⟨hS,hfd⟩:=yCN h1;have hm0:y0j .any ops.toList (y7J .any ops.toList []):=y5s ops.toList [] [] rfl (λ j i h=>by simp[y0X]at h)
 have hl0:∀ j,(Array.replicate ops.size false).getD j false=false:=λ j=>by
  rw[Array.getD_eq_getD_getElem?,Array.getElem?_replicate];split<;>rfl
 have h2:=y6u hC hRd hN hT hE hm0 hS hfd (yJu ops (y7J .any ops.toList [])) (Array.replicate ops.size false) [] (h.drawn (w.drawn+1)) h.size.symm (λ j hj=>by rw[hl0]at hj;cases hj) (λ p o hp hl=>by rw[hl0]at hl;cases hl)
  (λ j oj d v hj hfj hnl hlj=>by rw[hl0]at hlj;cases hlj) hk
 refine wpIn_region_any hm ?_
 have h3:=y5O (Q':=Q) hS.plain (λ a w ⟨ρ,s,hR,hK⟩=>hQ ρ s a w hR hK) _ _ _ _ h2
 rw[hlen]at h3;exact h3
end
end Go.Vx
end
section
namespace Go.Vx
open Go.RowKit
variable [GT]
section
variable {P:Program} {a b:Act} {w w':World} {ops:Array Oper} {md:Region.Mode} {o:Oper} {ro:Option Nat}
def NQ(Q:Act->World->Prop)(e:Exit)(a:Act)(w:World):Prop:=e=.normal/\Q a w
theorem yAT{Q0 N:Act->World->Prop}{Q:Exit->Act->World->Prop}(h:o.wpIn (ym ro) 0 P a w N (NQ Q0)):o.wpIn (ym ro) 0 P a w N Q:=by
 refine ⟨h.1,?_⟩;have h:=h.2;generalize (o.semAt (ym ro).round a.eval).run P w=r at h ⊢;have out:∀ {a:Act} {w:World},LetsOut (NQ Q0)->False:=λ ⟨_,_,hh⟩=>by cases hh.1
 cases r with
 |ok x w' =>
  cases x with
  |value u=>exact h
  | skip=>exact h
  | «defer» dd=>exact h
  |enter f args =>
   simp only[Oper.uponIn]at h ⊢;exact ⟨h.1,CallsIn.mono h.2 λ e w'' he=>by
    cases e with
    |returned u=>exact he
    |panicked c=>cases he.1
    |outgrown=>exact (out (a:=a) (w:=w) he).elim⟩
  |row f args=>exact h
  |round l f t x y =>
   simp only[Oper.uponIn]at h ⊢;exact ⟨h.1,RoundIn.mono h.2 λ e w'' he=>by
    cases e with
    |returned u=>exact he
    |panicked c=>cases he.1
    |outgrown=>exact (out (a:=a) (w:=w) he).elim⟩
  |_=>exact h.elim
 |halt x w' =>
  cases x with
  |panic v=>cases h.1
  |_=>exact h.elim
theorem yKU{Q0:Act->World->Prop}{Q:Exit->Act->World->Prop}{i:Nat}{K K':Act->World->Prop}(hK:∀ a w,K a w->K' a w)(h:wpOpIn (ym ro) 0 P ops (NQ Q0) i K a w):wpOpIn (ym ro) 0 P ops Q i K' a w:=by
 unfold wpOpIn at h ⊢;cases ho:ops[i]? with
 |none=>rw[ho]at h;exact hK _ _ h
 |some o =>
  rw[ho]at h;dsimp only at h ⊢;cases hw:Region.wanted o (yielded ops a.tmps)with
  |true=>rw[hw]at h;exact Oper.wpIn_mono hK (yAT h)
  |false=>rw[hw]at h;exact ⟨h.1,hK _ _ h.2⟩
theorem yBO{Q0:Act->World->Prop}{Q:Exit->Act->World->Prop}(hQ:∀ a w,Q0 a w->Q .normal a w):∀ (fuel:Nat) (ls:Array Bool) (a:Act) (w:World),
  wpAnyIn (ym ro) 0 P md ops (NQ Q0) fuel ls a w->wpAnyIn (ym ro) 0 P md ops Q fuel ls a w
 |0,_,_,_,h=>⟨h.1,hQ _ _ h.2.2⟩
 |fuel+1,ls,a,w,h=>⟨λ h0=>hQ _ _ (h.1 h0).2,λ i hi=>yKU (λ a w=>yBO hQ fuel _ a w) (h.2 i hi)⟩
structure Early (md:Region.Mode) (ops:Array Oper) (ms:List Nat) (n i:Nat) (oi:Oper) (x:Operand) (d:Tmp):Prop where
 at':ops[i]?=some oi
 op:oi.op=.move x
 grd:oi.guard=none
 dst:oi.dst=some d
 lt:d < n
 free:∀ e∈oi.after,Region.binds md e=false
 one:∀ (j:Nat) q,ops[j]?=some q->j≠i->q.dst≠some d
 look:∀ (j:Nat) q,ops[j]?=some q->j≠i->y0X ms j i=false->d ∉ q.looksAt ops
 src:∀ (j:Nat) q t,ops[j]?=some q->x=.tmp t->q.dst≠some t
variable {ms:List Nat} {n i:Nat} {oi:Oper} {x:Operand} {d:Tmp}
theorem Early.ready(h:Early md ops ms n i oi x d){ls:Array Bool}(hl:ls.getD i true=false):i∈Region.ready md ops ls:=
 mem_ready.2 ⟨hl,oi,h.at',λ e he hb=>by rw[h.free e he]at hb;cases hb⟩
theorem Early.wanted(h:Early md ops ms n i oi x d):Region.wanted oi (yielded ops a.tmps)=true:=by
 unfold Region.wanted;rw[h.grd]
theorem Early.wp(h:Early md ops ms n i oi x d){Q:Exit->Act->World->Prop}{K:Act->World->Prop}:wpOpIn (ym ro) 0 P ops Q i K a w ↔ K (a.put (some d) (a.eval x)) w:=by
 unfold wpOpIn;rw[h.at'];dsimp only;rw[if_pos h.wanted];have he:execOp a.eval oi=pure (.value (a.eval x)):=by simp[execOp,h.op]
 unfold Oper.wpIn;rw[Oper.semAt_eq _ _ _ (λ c hc=>by rw[h.op]at hc;cases hc),he]
 simp only[Sem.run_pure,Oper.uponIn,h.dst];exact ⟨λ hh=>hh.2,λ hh=>⟨λ _ _=>trivial,hh⟩⟩
theorem yGd(hpl:∀ (j:Nat) q,ops[j]?=some q->y78 q)(hm:y0j md ops.toList ms)(h:Early md ops ms n i oi x d){Q0:Act->World->Prop} :
  ∀ (fuel:Nat) (ls:Array Bool) (a:Act) (w:World),a.tmps.size=n->y2A md ops ls->ls.getD i true=false ->
   wpAnyIn (ym ro) 0 P md ops (NQ Q0) fuel (ls.setIfInBounds i true) (a.put (some d) (a.eval x)) w->wpAnyIn (ym ro) 0 P md ops (NQ Q0) (fuel+1) ls a w:=by
 intro fuel;induction fuel with
 |zero =>
  intro ls a w hsz hcl hl H;have hr:=h.ready hl;refine ⟨λ h0=>(by rw[h0]at hr;cases hr),λ j hj=>?_⟩
  by_cases hji:j=i
  ·subst hji;exact h.wp.2 H
  ·have:=ready_mono hj hji;rw[H.1]at this;cases this
 |succ fuel ih =>
  intro ls a w hsz hcl hl H;have hr:=h.ready hl;refine ⟨λ h0=>(by rw[h0]at hr;cases hr),λ j hj=>?_⟩
  by_cases hji:j=i
  ·subst hji;exact h.wp.2 H
  ·have H2:=H.2 j (ready_mono hj hji);obtain ⟨huj,oj,hoj,_⟩:=mem_ready.1 hj;have hwji:y0X ms j i=false:=y0E hm hcl hl hj;have hlj:=h.look j oj hoj hji hwji;have hdj:oj.dst≠some d:=h.one j oj hoj hji;have back:∀ (a':Act) (w':World),a'.tmps.size=n->a'.eval x=a.eval x->wpAnyIn (ym ro) 0 P md ops (NQ Q0) fuel ((ls.setIfInBounds i true).setIfInBounds j true) (a'.put (some d) (a.eval x)) w'->wpAnyIn (ym ro) 0 P md ops (NQ Q0) (fuel+1) (ls.setIfInBounds j true) a' w':=λ a' w' hsz' hx hh=>by
    refine ih (ls.setIfInBounds j true) a' w' hsz' (hcl.step hj) (by rw[getD_set_ne true hji];exact hl) ?_
    rw[Array.setIfInBounds_comm _ _ hji,hx];exact hh
   have same:∀ a':Act,yG9 oj.dst a a'->a'.tmps.size=n/\a'.eval x=a.eval x:=λ a' hs=>⟨by rw[hs.1,hsz],y9d λ t ht=>hs.2 t (h.src j oj t hoj ht)⟩
   unfold wpOpIn at H2 ⊢;rw[hoj]at H2 ⊢;dsimp only at H2 ⊢;rw[y20 (a:=a) (λ t ht=>y1g λ e=>hlj (by rw[e];exact ht))]at H2
   cases hw:Region.wanted oj (yielded ops a.tmps)with
   |true =>
    rw[hw,if_pos rfl]at H2;rw[if_pos rfl];refine Oper.wpIn_mono (λ a' w' hN=>?_) (y6G (ops:=ops) (Q:=NQ Q0) (hpl j oj hoj) hlj hdj (yAT H2))
    obtain ⟨h1,h2⟩:=same a' hN.2;exact back a' w' h1 h2 hN.1
   |false =>
    rw[hw]at H2;simp only[false_eq_true,if_false]at H2 ⊢;refine ⟨λ _ _=>trivial,?_⟩
    obtain ⟨h1,h2⟩:=same _ (y0G (a:=a) (dst:=oj.dst) (v:=undef));refine back _ _ h1 h2 ?_
    have:=H2.2;rwa[Act.put_comm a (a.eval x) undef (λ e he=>by cases he;exact hdj)]at this
theorem y7U(Z:List Nat)(j:Nat):(y6P Z ops)[j]?=(ops[j]?).map λ o=>if Z.contains j then o else { o with after:=o.after++(Z.map λ i=>(⟨i,.data⟩:Edge)).toArray }:=by
 unfold y6P;rw[Array.getElem?_mapIdx]
theorem yJh(Z:List Nat):(y6P Z ops).size=ops.size:=by unfold y6P;simp
theorem yCm(Z:List Nat)(t:Array Value):yielded (y6P Z ops) t=yielded ops t:=by
 funext q
 unfold yielded;have:((y6P Z ops)[q]?).bind (·.dst)=(ops[q]?).bind (·.dst):=by
  rw[y7U];cases ops[q]? with
  |none=>rfl
  |some o=>simp only[map_some,bind_some];split<;>rfl
 rw[this]
theorem yHc{Z:List Nat}{Q:Exit->Act->World->Prop}{K K':Act->World->Prop}{i:Nat}(hK:∀ a w,K a w->K' a w)(h:wpOpIn (ym ro) 0 P (y6P Z ops) Q i K a w):wpOpIn (ym ro) 0 P ops Q i K' a w:=by
 unfold wpOpIn at h ⊢;rw[y7U]at h;cases ho:ops[i]? with
 |none=>rw[ho]at h;exact hK _ _ h
 |some o =>
  rw[ho]at h;simp only[map_some,yCm]at h ⊢;have h':if Region.wanted o (yielded ops a.tmps)=true then o.wpIn (ym ro) 0 P a w K Q else (∀ f,o.about P w a.eval=some f->(ym ro).fn f)/\K (a.put o.dst undef) w:=by
   split at h<;>exact h
  clear h;split at h'
  ·rename_i hw;rw[if_pos hw];exact Oper.wpIn_mono hK h'
  ·rename_i hw;rw[if_neg hw];exact ⟨h'.1,hK _ _ h'.2⟩
theorem y6R{Z:List Nat}{ls:Array Bool}(hZ:∀ i∈Z,ls.getD i false=true)(j:Nat):j∈Region.ready md (y6P Z ops) ls ↔ j∈Region.ready md ops ls:=by
 rw[mem_ready,mem_ready,y7U];constructor
 ·rintro ⟨h1,o,h2,h3⟩
  cases ho:ops[j]? with
  |none=>rw[ho]at h2;cases h2
  |some q =>
   rw[ho]at h2;refine ⟨h1,q,rfl,λ e he hb=>?_⟩
   simp only[map_some,Option.some.injEq]at h2;split at h2
   ·subst h2;exact h3 e he hb
   ·subst h2;exact h3 e (by simp[he]) hb
 ·rintro ⟨h1,o,h2,h3⟩
  rw[h2];refine ⟨h1,_,rfl,λ e he hb=>?_⟩
  split at he
  ·exact h3 e he hb
  ·simp only[Array.mem_append,List.mem_toArray,mem_map]at he;rcases he with he|⟨i,hi,rfl⟩
   ·exact h3 e he hb
   ·exact hZ i hi
theorem yFz{Z:List Nat}{Q:Exit->Act->World->Prop}:∀ (fuel:Nat) (ls:Array Bool) (a:Act) (w:World),(∀ i∈Z,ls.getD i false=true) ->
  wpAnyIn (ym ro) 0 P md (y6P Z ops) Q fuel ls a w->wpAnyIn (ym ro) 0 P md ops Q fuel ls a w
 |0,ls,a,w,hZ,h=>⟨eq_nil_iff_forall_not_mem.2 (λ j hj=>(by have:=(y6R hZ j).2 hj;rw[h.1]at this;cases this)),h.2⟩
 |fuel+1,ls,a,w,hZ,h=>by
  refine ⟨λ h0=>h.1 (eq_nil_iff_forall_not_mem.2 (λ j hj=>(by have:=(y6R hZ j).1 hj;rw[h0]at this;cases this))),λ j hj=>?_⟩
  exact yHc (λ a w hh=>yFz fuel _ a w (λ i hi=>getD_set_true (hZ i hi)) hh) (h.2 j ((y6R hZ j).2 hj))
structure Hoist (md:Region.Mode) (ops:Array Oper) (ms:List Nat) (n:Nat) (Z:List Nat):Prop where
 plain:∀ (j:Nat) q,ops[j]?=some q->y78 q
 early:∀ i∈Z,∃ oi x d,Early md ops ms n i oi x d
 nodup:Z.Nodup
 closed:∀ ls,y2A md ops ls->True
theorem yHC{Z:List Nat}(h:Early md ops ms n i oi x d)(hi:i∈Z){Q:Exit->Act->World->Prop}{K:Act->World->Prop}:wpOpIn (ym ro) 0 P (y6P Z ops) Q i K a w->K (a.put (some d) (a.eval x)) w:=λ hh =>
 h.wp.1 (yHc (λ _ _ hk=>hk) hh)
theorem y7G{Z:List Nat}(h:Early md ops ms n i oi x d)(hi:i∈Z){ls:Array Bool}(hl:ls.getD i true=false):i∈Region.ready md (y6P Z ops) ls:=by
 rw[mem_ready,y7U,h.at'];refine ⟨hl,_,rfl,λ e he hb=>?_⟩
 dsimp only at he;rw[if_pos (contains_iff_mem.2 hi)]at he;rw[h.free e he]at hb;cases hb
theorem yQU{Z:List Nat}(hm:y0j md ops.toList ms)(hH:Hoist md ops ms n Z){Q0:Act->World->Prop}:∀ (l:List Nat) (fuel:Nat) (ls:Array Bool) (a:Act) (w:World),l.Nodup->(∀ i∈l,i∈Z)->(∀ i∈Z,i∈l\/ls.getD i false=true)->(∀ i∈l,ls.getD i true=false) ->
  a.tmps.size=n->y2A md ops ls->l.length<=fuel->wpAnyIn (ym ro) 0 P md (y6P Z ops) (NQ Q0) fuel ls a w->wpAnyIn (ym ro) 0 P md ops (NQ Q0) fuel ls a w
 |[],fuel,ls,a,w,_,_,h2,_,_,_,_,h=>yFz fuel ls a w (λ i hi=>by rcases h2 i hi with h|h;cases h;exact h) h
 |i::l,fuel,ls,a,w,hnd,h1,h2,h3,hsz,hcl,hle,h=>by
  cases fuel with
  |zero=>simp at hle
  |succ fuel =>
   have hiZ:=h1 i (mem_cons_self ..);obtain ⟨oi,x,d,hE⟩:=hH.early i hiZ;have hli:=h3 i (mem_cons_self ..);have hH2:=yHC hE hiZ (h.2 i (y7G hE hiZ hli));have hnd':=nodup_cons.1 hnd;refine yGd hH.plain hm hE fuel ls a w hsz hcl hli ?_
   refine yQU hm hH l fuel (ls.setIfInBounds i true) _ w hnd'.2 (λ j hj=>h1 j (mem_cons_of_mem _ hj)) (λ j hj=>?_) (λ j hj=>?_) (by simp[Act.put,hsz]) (hcl.step (hE.ready hli)) (by simpa using hle) hH2
   ·rcases h2 j hj with h4|h4
    ·rcases mem_cons.1 h4 with rfl|h4
     ·exact .inr (y8t hli)
     ·exact .inl h4
    ·exact .inr (getD_set_true h4)
   ·have hne:i≠j:=λ e=>hnd'.1 (e ▸ hj)
    rw[getD_set_ne true hne];exact h3 j (mem_cons_of_mem _ hj)
theorem y6j:∀ {l:List Nat},y6m l=true->l.Nodup
 |[],_=>nodup_nil
 |a::l,h=>by
  unfold y6m at h;simp only[and_eq_true,not_eq_true']at h;refine nodup_cons.2 ⟨λ hm=>?_,y6j h.2⟩
  have:l.contains a=true:=contains_iff_mem.2 hm;rw[this]at h;cases h.1
theorem yH8{Z:List Nat}(hm:y0j .any ops.toList ms)(h:yDQ ops ms n Z=true):Hoist .any ops ms n Z:=by
 unfold yDQ at h;simp only[and_eq_true]at h;obtain ⟨⟨hnd,hpl⟩,hZ⟩:=h;have hmem:∀ {i:Nat} {o:Oper},ops[i]?=some o->(o,i)∈ops.toList.zipIdx:=λ {i o} hi=>by
  rw[mem_iff_getElem?];refine ⟨i,?_⟩;rw[getElem?_zipIdx];simp[hi]
 refine ⟨λ j q hj=>?_,λ i hi=>?_,y6j hnd,λ _ _=>trivial⟩
 ·have h1:=all_eq_true.1 hpl _ (hmem hj);exact ⟨λ cs b he=>(by dsimp only at h1;rw[he]at h1;cases h1),λ c he=>(by dsimp only at h1;rw[he]at h1;cases h1)⟩
 ·have h1:=all_eq_true.1 hZ i hi;split at h1
  ·rename_i oi hoi;split at h1
   ·rename_i x d hop hd hg;simp only[and_eq_true,decide_eq_true_eq]at h1;obtain ⟨⟨hlt,hfr⟩,hall⟩:=h1;have hq:∀ (j:Nat) q,ops[j]?=some q->_:=λ j q hj=>all_eq_true.1 hall _ (hmem hj)
    refine ⟨oi,x,d,hoi,hop,hg,hd,hlt,λ e he=>?_,λ j q hj hji hdd=>?_,λ j q hj hji hw hm'=>?_,λ j q t hj hx hdt=>?_⟩
    ·have:=Array.all_eq_true_iff_forall_mem.1 hfr e he;simpa using this
    ·have h2:=hq j q hj;simp only[and_eq_true,or_eq_true,beq_iff_eq,bne_iff_ne,ne_eq,not_eq_true']at h2;rcases h2.1 with h3|h3
     ·exact hji h3
     ·exact h3.1 hdd
    ·have h2:=hq j q hj;simp only[and_eq_true,or_eq_true,beq_iff_eq,bne_iff_ne,ne_eq,not_eq_true']at h2;rcases h2.1 with h3|h3
     ·exact hji h3
     ·rcases h3.2 with h4|h4
      ·rw[contains_iff_mem.2 hm']at h4;cases h4
      ·rw[hw]at h4;cases h4
    ·have h2:=hq j q hj;simp only[and_eq_true]at h2;have h3:=h2.2;subst hx;simp only[bne_iff_ne,ne_eq]at h3;exact h3 hdt
   ·cases h1
  ·cases h1
end
end Go.Vx
end
section
namespace Go.Vx
open Go.RowKit
variable [GT]
section
variable {P:Program} {a b:Act} {w w':World} {ops:Array Oper} {md:Region.Mode} {o:Oper} {ro:Option Nat} {ms:List Nat} {n i:Nat} {oi:Oper} {di:Tmp}
theorem yHs(hpl:y78 oi)(hi:ops[i]?=some oi){v:Value}(hy:YAt P ops w oi v a){Q:Exit->Act->World->Prop}{K:Act->World->Prop}(hK:K (a.put oi.dst v) w):wpOpIn (ym ro) 0 P ops Q i K a w:=by
 unfold wpOpIn;rw[hi];dsimp only;rcases hy with ⟨hw,hr⟩|⟨hw,rfl⟩
 ·rw[if_pos hw];refine ⟨λ _ _=>trivial,?_⟩
  rw[Oper.semAt_eq _ _ _ hpl.2,hr];exact hK
 ·rw[hw];simp only[false_eq_true,if_false];exact ⟨λ _ _=>trivial,hK⟩
theorem yGB(hm:y0j md ops.toList ms)(hS:Ssa ops ms n)(hi:ops[i]?=some oi)(hdi:oi.dst=some di){v:Value}{Q0:Act->World->Prop} :
  ∀ (fuel:Nat) (ls:Array Bool) (a:Act) (w:World),a.tmps.size=n->y2A md ops ls->i∈Region.ready md ops ls->(∀ w',YAt P ops w' oi v a) ->
   wpAnyIn (ym ro) 0 P md ops (NQ Q0) fuel (ls.setIfInBounds i true) (a.put oi.dst v) w->wpAnyIn (ym ro) 0 P md ops (NQ Q0) (fuel+1) ls a w:=by
 intro fuel;induction fuel with
 |zero =>
  intro ls a w hsz hcl hr hy H;refine ⟨λ h0=>(by rw[h0]at hr;cases hr),λ j hj=>?_⟩
  by_cases hji:j=i
  ·subst hji;exact yHs (hS.plain j oi hi) hi (hy w) H
  ·have:=ready_mono hj hji;rw[H.1]at this;cases this
 |succ fuel ih =>
  intro ls a w hsz hcl hr hy H;refine ⟨λ h0=>(by rw[h0]at hr;cases hr),λ j hj=>?_⟩
  by_cases hji:j=i
  ·subst hji;exact yHs (hS.plain j oi hi) hi (hy w) H
  ·have H2:=H.2 j (ready_mono hj hji);obtain ⟨huj,oj,hoj,_⟩:=mem_ready.1 hj;have hui:=(mem_ready.1 hr).1;have hwji:y0X ms j i=false:=y0E hm hcl hui hj;have hwij:y0X ms i j=false:=y0E hm hcl huj hr;have hlj:di ∉ oj.looksAt ops:=hS.look i j oi oj di hi hoj hji hdi hwji;have hdj:oj.dst≠some di:=hS.one i j oi oj di hi hoj hji hdi;have hli:∀ d,oj.dst=some d->d ∉ oi.looksAt ops:=λ d hd=>hS.look j i oj oi d hoj hi (Ne.symm hji) hd hwij
   have back:∀ (a':Act) (w':World),yG9 oj.dst a a'->wpAnyIn (ym ro) 0 P md ops (NQ Q0) fuel ((ls.setIfInBounds i true).setIfInBounds j true) (a'.put oi.dst v) w' ->
     wpAnyIn (ym ro) 0 P md ops (NQ Q0) (fuel+1) (ls.setIfInBounds j true) a' w':=λ a' w' hs hh=>by
    refine ih (ls.setIfInBounds j true) a' w' (by rw[hs.1,hsz]) (hcl.step hj) (ready_mono hr (Ne.symm hji)) (λ w''=>(hy w'').agree (hS.plain i oi hi) λ t ht=>hs.2 t λ e=>hli t e ht) ?_
    rw[Array.setIfInBounds_comm _ _ hji];exact hh
   unfold wpOpIn at H2 ⊢;rw[hoj]at H2 ⊢;dsimp only at H2 ⊢;rw[hdi]at H2 back;rw[y20 (a:=a) (λ t ht=>y1g λ e=>hlj (by rw[e];exact ht))]at H2
   cases hw:Region.wanted oj (yielded ops a.tmps)with
   |true =>
    rw[hw,if_pos rfl]at H2;rw[if_pos rfl];refine Oper.wpIn_mono (λ a' w' hN=>?_) (y6G (ops:=ops) (Q:=NQ Q0) (hS.plain j oj hoj) hlj hdj (yAT H2))
    exact back a' w' hN.2 hN.1
   |false =>
    rw[hw]at H2;simp only[false_eq_true,if_false]at H2 ⊢;refine ⟨λ _ _=>trivial,?_⟩
    refine back _ _ (y0G (a:=a) (dst:=oj.dst) (v:=undef)) ?_
    have:=H2.2;rwa[Act.put_comm a v undef (λ e he=>by cases he;exact hdj)]at this
def yFS(o:Oper):Prop:=∀ (f:Operand->Value),∃ m:Sem Value,WFr m/\∀ (P:Program) (w:World),(execOp f o).run P w=(m.run P w).andThen λ v w'=>.ok (.value v) w'
theorem yLO(hs:yFS oi)(hpl:y78 oi)(hi:ops[i]?=some oi){Q0 K:Act->World->Prop}(h:wpOpIn (ym ro) 0 P ops (NQ Q0) i K a w):∃ v,(∀ w',YAt P ops w' oi v a)/\K (a.put oi.dst v) w:=by
 unfold wpOpIn at h;rw[hi]at h;dsimp only at h;cases hw:Region.wanted oi (yielded ops a.tmps)with
 |false =>
  rw[hw]at h;simp only[false_eq_true,if_false]at h;exact ⟨undef,λ _=>.inr ⟨hw,rfl⟩,h.2⟩
 |true =>
  rw[hw,if_pos rfl]at h;obtain ⟨m,hm,hr⟩:=hs a.eval;have h2:=h.2;rw[Oper.semAt_eq _ _ _ hpl.2,hr]at h2;cases hmr:m.run P w with
  |ok v w1 =>
   rw[hmr]at h2;obtain ⟨e1,h3⟩:=hm P w v w1 hmr;subst e1;exact ⟨v,λ w'=>.inl ⟨hw,by rw[hr,h3 w'];rfl⟩,h2⟩
  |halt x w1 =>
   rw[hmr]at h2;cases x with
   |panic v=>cases h2.1
   |_=>exact h2.elim
theorem y8X(i j:Nat):(y6C i ops)[j]?=(ops[j]?).map λ o=>if i < j then { o with after:=o.after.push ⟨i,.data⟩ }else o:=by
 unfold y6C;rw[Array.getElem?_mapIdx]
theorem yGu(i:Nat):(y6C i ops).size=ops.size:=by unfold y6C;simp
theorem yAf(i:Nat)(t:Array Value):yielded (y6C i ops) t=yielded ops t:=by
 funext q
 unfold yielded;have:((y6C i ops)[q]?).bind (·.dst)=(ops[q]?).bind (·.dst):=by
  rw[y8X];cases ops[q]? with
  |none=>rfl
  |some o=>simp only[map_some,bind_some];split<;>rfl
 rw[this]
theorem yBM{Q:Exit->Act->World->Prop}{K K':Act->World->Prop}{j:Nat}(hK:∀ a w,K a w->K' a w)(h:wpOpIn (ym ro) 0 P (y6C i ops) Q j K a w):wpOpIn (ym ro) 0 P ops Q j K' a w:=by
 unfold wpOpIn at h ⊢;rw[y8X]at h;cases ho:ops[j]? with
 |none=>rw[ho]at h;exact hK _ _ h
 |some o =>
  rw[ho]at h;simp only[map_some,yAf]at h ⊢;have h':if Region.wanted o (yielded ops a.tmps)=true then o.wpIn (ym ro) 0 P a w K Q else (∀ f,o.about P w a.eval=some f->(ym ro).fn f)/\K (a.put o.dst undef) w:=by
   by_cases hij:i < j
   ·rw[if_pos hij]at h;exact h
   ·rw[if_neg hij]at h;exact h
  clear h;split at h'
  ·rename_i hw;rw[if_pos hw];exact Oper.wpIn_mono hK h'
  ·rename_i hw;rw[if_neg hw];exact ⟨h'.1,hK _ _ h'.2⟩
theorem y0q{ls:Array Bool}(j:Nat):j∈Region.ready md (y6C i ops) ls ↔ j∈Region.ready md ops ls/\(i < j->ls.getD i false=true):=by
 rw[mem_ready,mem_ready,y8X];constructor
 ·rintro ⟨h1,o,h2,h3⟩
  cases ho:ops[j]? with
  |none=>rw[ho]at h2;cases h2
  |some q =>
   rw[ho]at h2;simp only[map_some,Option.some.injEq]at h2;by_cases hij:i < j
   ·rw[if_pos hij]at h2;subst h2;exact ⟨⟨h1,q,rfl,λ e he hb=>h3 e (by simp[he]) hb⟩,λ _=>h3 ⟨i,.data⟩ (by simp) rfl⟩
   ·rw[if_neg hij]at h2;subst h2;exact ⟨⟨h1,q,rfl,h3⟩,λ h=>absurd h hij⟩
 ·rintro ⟨⟨h1,o,h2,h3⟩,h4⟩
  rw[h2];refine ⟨h1,_,rfl,λ e he hb=>?_⟩
  dsimp only at he;by_cases hij:i < j
  ·rw[if_pos hij]at he;simp only[Array.mem_push]at he;rcases he with he|rfl
   ·exact h3 e he hb
   ·exact h4 hij
  ·rw[if_neg hij]at he;exact h3 e he hb
theorem yBx{Q:Exit->Act->World->Prop}:∀ (fuel:Nat) (ls:Array Bool) (a:Act) (w:World),ls.getD i false=true ->
  wpAnyIn (ym ro) 0 P md (y6C i ops) Q fuel ls a w->wpAnyIn (ym ro) 0 P md ops Q fuel ls a w
 |0,ls,a,w,hZ,h=>⟨eq_nil_iff_forall_not_mem.2 (λ j hj=>(by have:=(y0q j).2 ⟨hj,λ _=>hZ⟩;rw[h.1]at this;cases this)),h.2⟩
 |fuel+1,ls,a,w,hZ,h=>by
  refine ⟨λ h0=>h.1 (eq_nil_iff_forall_not_mem.2 (λ j hj=>(by have:=((y0q j).1 hj).1;rw[h0]at this;cases this))),λ j hj=>?_⟩
  exact yBM (λ a w hh=>yBx fuel _ a w (getD_set_true hZ) hh) (h.2 j ((y0q j).2 ⟨hj,λ _=>hZ⟩))
theorem late(hm:y0j md ops.toList ms)(hS:Ssa ops ms n)(hi:ops[i]?=some oi)(hdi:oi.dst=some di)(hs:yFS oi)
  (hpre:∀ (j:Nat) q,i < j->ops[j]?=some q->∀ e∈oi.after,Region.binds md e=true->y0X ms j e.on=true) {Q0:Act->World->Prop} :
  ∀ (fuel:Nat) (ls:Array Bool) (a:Act) (w:World),a.tmps.size=n->ls.size=ops.size->y2A md ops ls->wpAnyIn (ym ro) 0 P md (y6C i ops) (NQ Q0) fuel ls a w->wpAnyIn (ym ro) 0 P md ops (NQ Q0) fuel ls a w:=by
 have key:∀ (ls:Array Bool) (j:Nat),ls.size=ops.size->y2A md ops ls->j∈Region.ready md ops ls->i < j->ls.getD i false=true\/i∈Region.ready md ops ls:=λ ls j hsl hcl hj hij=>by
  obtain ⟨huj,oj,hoj,hdep⟩:=mem_ready.1 hj;cases hl:ls.getD i true with
  |true =>
   left
   have hlt:i < ops.size:=(Array.getElem?_eq_some_iff.1 hi).1;have hlt':i < ls.size:=by rw[hsl];exact hlt
   rw[Array.getD_eq_getD_getElem?,Array.getElem?_eq_getElem hlt']at hl ⊢;simpa using hl
  |false =>
   right
   refine mem_ready.2 ⟨hl,oi,hi,λ e he hb=>?_⟩
   have hw:=hpre j oj hij hoj e he hb;cases hle:ls.getD e.on false with
   |true=>rfl
   |false =>
    obtain ⟨o',h1,e',h2,h3,h4⟩:=y2v hm hcl hle j hw;rw[hoj]at h1;cases h1;rw[hdep e' h2 h3]at h4;cases h4
 intro fuel;induction fuel with
 |zero =>
  intro ls a w hsz hsl hcl h;refine ⟨eq_nil_iff_forall_not_mem.2 λ j hj=>?_,h.2⟩
  by_cases hc:i < j->ls.getD i false=true
  ·have:=(y0q j).2 ⟨hj,hc⟩;rw[h.1]at this;cases this
  ·have hij:i < j:=Classical.byContradiction λ hn=>hc λ h=>absurd h hn
   rcases key ls j hsl hcl hj hij with h1|h1
   ·exact hc λ _=>h1
   ·have:=(y0q i).2 ⟨h1,λ h=>absurd h (lt_irrefl _)⟩
    rw[h.1]at this;cases this
 |succ fuel ih =>
  intro ls a w hsz hsl hcl h;by_cases hri:i∈Region.ready md ops ls
  ·have h2:=yBM (λ _ _ hk=>hk) (h.2 i ((y0q i).2 ⟨hri,λ h=>absurd h (lt_irrefl _)⟩))
   obtain ⟨v,hy,hk⟩:=yLO hs (hS.plain i oi hi) hi h2;exact yGB hm hS hi hdi fuel ls a w hsz hcl hri hy (yBx fuel _ _ _ (y8t (mem_ready.1 hri).1) hk)
  ·have same:∀ j,j∈Region.ready md ops ls->j∈Region.ready md (y6C i ops) ls:=λ j hj=>(y0q j).2 ⟨hj,λ hij=>(key ls j hsl hcl hj hij).resolve_right hri⟩
   refine ⟨λ h0=>h.1 (eq_nil_iff_forall_not_mem.2 (λ j hj=>(by have:=((y0q j).1 hj).1;rw[h0]at this;cases this))),λ j hj=>?_⟩
   obtain ⟨huj,oj,hoj,_⟩:=mem_ready.1 hj;have h2:=yBM (λ _ _ hk=>hk) (h.2 j (same j hj))
   unfold wpOpIn at h2 ⊢;rw[hoj]at h2 ⊢;dsimp only at h2 ⊢;have hcl':=hcl.step hj;split at h2
   ·rename_i hw;rw[if_pos hw];refine Oper.wpIn_mono (λ a' w' hN=>ih _ a' w' (by rw[hN.2.1,hsz]) (by simpa using hsl) hcl' hN.1) (y8f (hS.plain j oj hoj) (yAT h2))
   ·rename_i hw;rw[if_neg hw];exact ⟨h2.1,ih _ _ w (by rw[(y0G (a:=a) (dst:=oj.dst) (v:=undef)).1,hsz]) (by simpa using hsl) hcl' h2.2⟩
theorem WFr.asIntOf(v:Value):WFr (Go.asIntOf v):=by
 unfold Go.asIntOf;split
 ·exact WFr.pure _
 ·exact (NOk.halt _).wf
 ·exact (NOk.halt _).wf
theorem WFr.bounds(k:IntKind)(x y:Int)(c:BoundsCode){α:Type}:WFr (Go.boundsPanic k x y c:Sem α):=(NOk.bounds _ _ _ _).wf
theorem WFr.sliceBound(x:Value)(y:Nat)(c:BoundsCode):WFr (Instr.sliceBound x y c):=by
 unfold Instr.sliceBound;refine (WFr.asIntOf x).bind λ q=>?_
 dsimp only;split
 ·exact WFr.pure _
 ·exact WFr.bounds _ _ _ _
theorem WFr.stuck{α:Type}(s:String):WFr (Go.stuck s:Sem α):=(NOk.halt _).wf
theorem WFr.sliceBounds(b:Bool)(len cap:Nat)(lo hi mx:Option Value):WFr (Instr.sliceBounds b len cap lo hi mx):=by
 unfold Instr.sliceBounds;cases mx<;>cases hi<;>cases lo<;>dsimp only<;>repeat' first
  | exact WFr.pure _
  | exact WFr.stuck _
  | exact WFr.sliceBound _ _ _
  | refine WFr.bind ?_ λ _=>?_
theorem WFr.asAddr(v:Value):WFr (Go.asAddr v):=by
 have hr:∀ e:RuntimeError,NOk (Go.runtimePanic e:Sem Addr):=λ e=>by
  unfold Go.runtimePanic;refine NOk.bind λ p=>?_
  cases e<;>first
   | exact NOk.halt _
   | exact NOk.bind λ _=>NOk.bind λ _=>NOk.halt _
 unfold Go.asAddr;split
 ·exact WFr.pure _
 ·exact (hr _).wf
 ·exact WFr.stuck _
theorem WFr.slice(t:TypeId)(x:Value)(lo hi mx:Option Value):WFr (Instr.slice t x lo hi mx):=by
 unfold Instr.slice;refine (WFr.underlying t).bind λ d=>?_
 dsimp only;repeat' first
  | exact WFr.pure _
  | exact WFr.stuck _
  | exact WFr.sliceBounds _ _ _ _ _ _
  | exact WFr.underlying _
  | exact WFr.sizeOf _
  | exact WFr.asAddr _
  | refine WFr.bind ?_ λ _=>?_
  | split
theorem WFr.sliceAt(t:TypeId)(x:Value)(lo hi mx:Option Value):WFr (Instr.sliceAt t x lo hi mx):=by
 unfold Instr.sliceAt;refine (WFr.underlying t).bind λ d=>?_
 repeat' first
  | exact WFr.pure _
  | exact WFr.slice _ _ _ _ _
  | exact WFr.sliceBounds _ _ _ _ _ _
  | exact WFr.sizeOf _
  | exact WFr.sureAddr _
  | refine WFr.bind ?_ λ _=>?_
  | split
theorem yH1{o:Oper}(h:yOE o=true):yFS o:=λ f=>by
 unfold yOE at h;split at h
 ·rename_i x ho;refine ⟨Pure.pure (f x),WFr.pure _,λ P w=>?_⟩
  simp only[execOp,ho,Sem.run_pure,Result.andThen_ok]
 ·rename_i t x lo hi mx ho;refine ⟨Instr.sliceAt t (f x) (lo.map f) (hi.map f) (mx.map f),WFr.sliceAt _ _ _ _ _,λ P w=>?_⟩
  simp only[execOp,ho,Sem.run_bind];rfl
 ·cases h
theorem yDz(h:yIo ops ms n i=true):Ssa ops ms n/\∃ oi di,ops[i]?=some oi/\oi.dst=some di/\yFS oi/\∀ (j:Nat) q,i < j->ops[j]?=some q->∀ e∈oi.after,Region.binds .any e=true->y0X ms j e.on=true:=by
 unfold yIo at h;simp only[and_eq_true]at h;obtain ⟨h1,h2⟩:=h;refine ⟨(yCN h1).1,?_⟩;split at h2
 ·rename_i oi hoi;simp only[and_eq_true]at h2;obtain ⟨⟨h3,h4⟩,h5⟩:=h2;obtain ⟨di,hdi⟩:=Option.isSome_iff_exists.1 h4;refine ⟨oi,di,hoi,hdi,yH1 h3,λ j q hij hj e he hb=>?_⟩
  have h6:=Array.all_eq_true_iff_forall_mem.1 h5 e he;rw[hb]at h6;simp only[Bool.not_true,Bool.false_or]at h6;have h7:=all_eq_true.1 h6 (q,j) (by
   rw[mem_iff_getElem?];refine ⟨j,?_⟩;rw[getElem?_zipIdx];simp[hj])
  rw[decide_eq_true hij]at h7;simpa using h7
 ·cases h2
end
end Go.Vx
end
section
namespace Go.Vx
open Go.RowKit
variable [GT]
section
variable {P:Program} {A0:Nat->Prop} {w0:Base} {ρ:Places} {s s':St} {a:Act} {w w':World} {g:G} {R:Type} {r:R} {ops:Array Oper}
theorem y5w{call:(R:Type)->yv R}(hC:y2z P call)(hRd:y1p P call)(hT:yc P g.T)(hE:∀ e∈g.E,FnOK P e){T:Nat->Bool}{Q:St->Prop}{Q':Exit->Act->World->Prop}(hQ:∀ ρ s a w,Rel P A0 w0 ρ s a w->Q s->Q' .normal a w) :
  ∀ (l:List Oper) (k:Nat) {ρ:Places} {s:St} {a:Act} {w:World},Rel P A0 w0 ρ s a w->runS g (call St) ops T Q l k s->wpOpsIn (ym w0.ro) 0 P ops Q' (List.range' k l.length) a w
 |[],_,_,_,_,_,h,hh=>hQ _ _ _ _ h hh
 |_::l,k,_,_,_,_,h,hh=>by
  simp only[List.length_cons,List.range'_succ];rw[wpOpsIn_cons];exact y8A hC hRd hT hE h (λ _ _ _ _ hR hK=>y5w hC hRd hT hE hQ l (k+1) hR hK) hh
omit [GT] in
theorem y5C:∀ {l:List Nat},y6m l=true->l.Nodup
 |[],_=>nodup_nil
 |a::l,h=>by
  unfold y6m at h;simp only[and_eq_true,not_eq_true']at h;refine nodup_cons.2 ⟨λ hm=>?_,y5C h.2⟩
  have:l.contains a=true:=contains_iff_mem.2 hm;rw[this]at h;cases h.1
theorem Rel.sepS:∀ (l:List Oper) {s:St},Rel P A0 w0 ρ s a w->Rel P A0 w0 ρ (Vx.sepS g l s) a w
 |[],_,h=>h
 |o::l,s,h=>by
  unfold Vx.sepS;refine Rel.sepS l ?_
  split
  ·split
   ·split
    ·exact (h.settleIn _).freeze _
    ·exact h
   ·exact h
  ·exact h
theorem y3b{call:(R:Type)->yv R}(hC:y2z P call)(hRd:y1p P call)(hN:y0i call)(hT:yc P g.T)(hE:∀ e∈g.E,FnOK P e){K:St->Option R}{Q:Exit->Act->World->Prop}(h:Rel P A0 w0 ρ s a w)
  (hk:y3u g (call R) ops s K=some r) (hQ:∀ ρ s a w,Rel P A0 w0 ρ s a w->K s=some r->Q .normal a w):wpAnyIn (ym w0.ro) 0 P .any ops Q ops.size (Array.replicate ops.size false) a { w with drawn:=w.drawn+1 }:=by
 unfold y3u at hk;dsimp only at hk;replace h:=Rel.sepS (g:=g) ops.toList h
 generalize Vx.sepS g ops.toList s=s at h hk;replace h:=Rel.settleAll (clos ops.toList s) h
 generalize settleAll (clos ops.toList s) s=s at h hk;replace h:=Rel.settleCells (lent g ops.toList s) h
 generalize settleCells (lent g ops.toList s) s=s at h hk;replace h:=h.splitAt (g:=g) ops.toList
 obtain ⟨ρ,h⟩:=h;generalize Vx.splitAt g ops.toList s=s at h hk;generalize apOf g _ ops.toList _ []=ap at hk;unfold yDb at hk;obtain ⟨hA,hk⟩:=yG hk;obtain ⟨hn1,hn2,hr3⟩:(ap.map (·.1)).Nodup/\(ap.map (·.2.2)).Nodup/\∀ p∈ap,s.cH.length<=p.2.2/\p.2.2 < s.cH.length+ap.length:=by
  rw[or_eq_true]at hA;rcases hA with hA|hA
  ·have hA:=isEmpty_iff.1 hA;subst hA;exact ⟨nodup_nil,nodup_nil,λ p hp=>by cases hp⟩
  ·simp only[and_eq_true]at hA;refine ⟨y5C hA.1.1,y5C hA.1.2,λ p hp=>?_⟩
   have:=all_eq_true.1 hA.2 p hp;simpa using this
 generalize (ops.toList.zipIdx.any λ p=>decide (p.2 < _) && !yKq { g with ap:=ap } _ ops p.1 p.2)=vl at hk
 generalize hg':({ g with ap:=ap,vl:=vl }:G)=g' at hk
 have hT':yc P g'.T:=by rw[<- hg'];exact hT
 have hE':∀ e∈g'.E,FnOK P e:=by rw[<- hg'];exact hE
 have hap:g'.ap=ap:=by rw[<- hg']
 rw[<- hap]at hn1 hn2 hr3 hk;have hfree:y0L g' (s.pad g'.ap.length)=true:=yGK h hr3;replace h:=h.pad g'.ap.length
 generalize s.pad g'.ap.length=s at h hk hfree;clear hT hE;unfold yE7 at hk;obtain ⟨hB,hk⟩:=yG hk;rw[and_eq_true]at hB;obtain ⟨hB,hEf⟩:=hB;rw[and_eq_true]at hB;obtain ⟨hB,hTl⟩:=hB;have hm0:y0j .any ops.toList (y7J .any ops.toList []):=y5s ops.toList [] [] rfl (λ j i h=>by simp[y0X]at h)
 generalize y7J .any ops.toList []=ms at hk hTl hEf hm0;have hn:ops.size - yEI ms ops.size<=ops.size:=Nat.sub_le _ _;have e0:ops.toList.length=ops.size:=Array.length_toList;generalize ops.size - yEI ms ops.size=n at hk hTl hn hEf;simp only[Region.lexB,and_eq_true]at hB;have hr:=y89 hN (g:=g') (ops:=ops) (T:=λ j=>decide (j < n)) (Q:=λ s=>K s=some r) (λ _=>⟨hn1,hn2⟩) (ops.toList.drop n) (ops.toList.take n) 0 s _ (λ _=>hfree)
  (λ j hj=>by
   rw[length_take]at hj;rw[List.getElem?_take,if_pos (by omega)]
   simp)
  (λ j hj=>by
   rw[length_take]at hj;simp;omega) hk (λ s' hs'=>by
   have:=y89 hN (g:=g') (ops:=ops) (T:=λ j=>decide (j < n)) (Q:=λ s=>K s=some r) (λ h=>by cases h) [] (ops.toList.drop n) (0+(ops.toList.take n).length) s' K (λ h=>by cases h)
    (λ j hj=>by
     rw[List.length_drop]at hj;rw[List.getElem?_drop,length_take,Nat.zero_add];rw[Nat.min_eq_left (by omega)]
     simp)
    (λ j hj=>by
     rw[List.length_drop]at hj;simp only[length_take,decide_eq_false_iff_not];omega) hs' (λ s' hs'=>hs')
   rw[append_nil]at this;exact this)
 rw[List.take_append_drop]at hr;have h1:=h.drawn (w.drawn+1);refine (y6B (g:=g') (md:=.any) (T:=λ j=>decide (j < n)) hC hRd hT' hE' hQ _ _ h1 ?_)
 have:=yF4 (g:=g') (call:=call St) (md:=.any) (ops:=ops) (T:=λ j=>decide (j < n)) (Q:=λ s=>K s=some r) hn1 hn2 hm0 (λ j o hj hTj i hi=>by
   simp at hTj;have hm:(o,j)∈ops.toList.zipIdx:=by
    rw[mem_iff_getElem?];refine ⟨j,?_⟩;rw[getElem?_zipIdx];simp[hj]
   have h3:=all_eq_true.1 hTl _ hm;simp only[or_eq_true,decide_eq_true_eq]at h3;rcases h3 with h3|h3
   ·omega
   ·exact all_eq_true.1 h3 i (mem_range.2 hi))
  (λ i j hij hi=>by simp at hi ⊢;omega) (λ i o hi he hTi=>by
   have hm:(o,i)∈ops.toList.zipIdx:=by
    rw[mem_iff_getElem?];refine ⟨i,?_⟩;rw[getElem?_zipIdx];simp[hi]
   have h3:=all_eq_true.1 hEf _ hm;simp only[decide_eq_true_eq]at hTi;simp only[or_eq_true,decide_eq_true_eq]at h3;rcases h3 with h3|h3
   ·omega
   ·unfold yKq at h3;rw[he]at h3;simp only[Bool.not_true,Bool.false_or]at h3;refine ⟨λ j oj hoj hij=>?_,λ j oj hoj hji=>?_⟩
    ·have h4:=all_eq_true.1 h3 j (mem_range.2 (Array.getElem?_eq_some_iff.1 hoj).1);rw[if_pos hij,hoj]at h4;have hne:¬ j=i:=by omega
     simp only[hne,decide_false,Bool.false_or,or_eq_true,and_eq_true,not_eq_true',List.isEmpty_eq_false_iff]at h4;rcases h4 with h4|⟨⟨h4,h5⟩,(h6|h6)|h6⟩
     ·exact .inl h4
     ·exact .inr ⟨h4,h5,.inl h6⟩
     ·exact .inr ⟨h4,h5,.inr (.inl h6)⟩
     ·exact .inr ⟨h4,h5,.inr (.inr h6)⟩
    ·have h4:=all_eq_true.1 h3 j (mem_range.2 (Array.getElem?_eq_some_iff.1 hoj).1);rw[if_neg (by omega),hoj]at h4
     have hne:¬ j=i:=by omega
     simp only[hne,decide_false,Bool.false_or,or_eq_true,and_eq_true,not_eq_true',List.isEmpty_eq_false_iff]at h4;rcases h4 with (h4|h4)|(h4|⟨h4,h5⟩)|⟨⟨_,h5⟩,h6⟩
     ·exact .inl h4
     ·exact .inr (.inl h4)
     ·exact .inr (.inr (.inl h4))
     ·exact .inr (.inr (.inr (.inl ⟨h4,h5⟩)))
     ·exact .inr (.inr (.inr (.inr ⟨h6,h5⟩)))) ops.toList 0 (Array.replicate ops.size false) s (λ j=>by simp) (λ j hj=>by simp[hj]) (λ p o hp hl=>by simp[Array.getD_eq_getD_getElem?,Array.getElem?_replicate]at hl;split at hl<;>simp at hl) (by simpa using hB.2) hr
 simpa using this
theorem y5X{call:(R:Type)->yv R}(hC:y2z P call)(hRd:y1p P call)(hN:y0i call)(hT:yc P g.T)(hE:∀ e∈g.E,FnOK P e){K:St->Option R}(h:Rel P A0 w0 ρ s a w):∀ (l:List Nat) (ops:Array Oper),y53 g (call R) l ops s K=some r ->
  wpAnyIn (ym w0.ro) 0 P .any ops (NQ λ a w=>∃ ρ s,Rel P A0 w0 ρ s a w/\K s=some r) ops.size (Array.replicate ops.size false) a { w with drawn:=w.drawn+1 }
 |[],ops,hk=>y3b hC hRd hN hT hE h hk (λ ρ s a w hR hK=>⟨rfl,ρ,s,hR,hK⟩)
 |i::l,ops,hk=>by
  unfold y53 at hk;obtain ⟨hok,hk⟩:=y07 hk;have ih:=y5X hC hRd hN hT hE h l (y6C i ops) hk;rw[yGu]at ih;obtain ⟨hS,oi,di,hi,hdi,hs,hpre⟩:=yDz hok;have hm0:y0j .any ops.toList (y7J .any ops.toList []):=y5s ops.toList [] [] rfl (λ j i h=>by simp[y0X]at h)
  refine late hm0 hS hi hdi hs hpre _ _ _ _ h.size.symm (by simp) (λ p o hp hl=>?_) ih
  rw[Array.getD_eq_getD_getElem?,Array.getElem?_replicate]at hl;split at hl<;>simp at hl
theorem y6Z{call:(R:Type)->yv R}(hC:y2z P call)(hRd:y1p P call)(hN:y0i call)(hm:P.follows .mixedOrders=true)(hT:yc P g.T)(hE:∀ e∈g.E,FnOK P e){K:St->Option R}{Q:Exit->Act->World->Prop}{id:Nat}{draw:Bool}(h:Rel P A0 w0 ρ s a w)
  (hk:y45 g (call R) ops draw s K=some r) (hQ:∀ ρ s a w,Rel P A0 w0 ρ s a w->K s=some r->Q .normal a w):(Code.region id ops draw).wpIn (ym w0.ro) 0 P Q a w:=by
 unfold y45 at hk;cases draw with
 |false =>
  simp only[false_eq_true,if_false]at hk;have hr:=y89 hN (g:=g) (ops:=ops) (T:=λ _=>false) (Q:=λ s=>K s=some r) (λ h=>by cases h) [] ops.toList 0 s K (λ h=>by cases h) (λ j _=>by simp) (λ _ _=>rfl) hk (λ s' hs'=>hs')
  rw[append_nil]at hr;refine wpIn_region ?_
  have:=y5w hC hRd hT hE hQ ops.toList 0 h hr;rw[List.range_eq_range'];simpa using this
 |true =>
  simp only[if_true]at hk;split at hk
  ·exact yAR hC hRd hN hm hT hE h hk hQ
  split at hk;rotate_left
  ·refine wpIn_region_any hm ?_
   exact yBO (λ a w ⟨ρ,s,hR,hK⟩=>hQ ρ s a w hR hK) _ _ _ _ (y5X hC hRd hN hT hE h (yN3 g ops) ops hk)
  split at hk
  ·exact wpIn_region_any hm (y3b hC hRd hN hT hE h hk hQ)
  unfold yEV at hk;obtain ⟨hH,hk⟩:=y07 hk;refine wpIn_region_any hm ?_
  have hm0:y0j .any ops.toList (y7J .any ops.toList []):=y5s ops.toList [] [] rfl (λ j i h=>by simp[y0X]at h)
  have hS:=yH8 hm0 hH;have h1:=y3b (Q:=NQ (λ a w=>∃ ρ s,Rel P A0 w0 ρ s a w/\K s=some r)) hC hRd hN hT hE h hk (λ ρ s a w hR hK=>⟨rfl,ρ,s,hR,hK⟩)
  rw[yJh]at h1;have hl0:∀ (b:Bool) (j:Nat),j < ops.size->(Array.replicate ops.size false).getD j b=false:=λ b j hj=>by
   rw[Array.getD_eq_getD_getElem?,Array.getElem?_replicate,if_pos hj];rfl
  have hlt:∀ i∈yDC g ops,i < ops.size:=λ i hi=>by
   obtain ⟨oi,x,d,hE⟩:=hS.early i hi;exact (Array.getElem?_eq_some_iff.1 hE.at').1
  refine yBO (λ a w ⟨ρ,s,hR,hK⟩=>hQ ρ s a w hR hK) _ _ _ _ (yQU hm0 hS (yDC g ops) ops.size _ a _ hS.nodup (λ i hi=>hi) (λ i hi=>.inl hi) (λ i hi=>hl0 true i (hlt i hi)) h.size.symm (λ p o hp hl=>?_) ?_ h1)
  ·have hps:=(Array.getElem?_eq_some_iff.1 hp).1;rw[hl0 false p hps]at hl;cases hl
  ·unfold yDC;refine Nat.le_trans (List.length_filterMap_le _ _) ?_
   simp
def yPA:Exit->Bool
 |.normal|.exit _|.ret=>true
 |_=>false
omit [GT] in
theorem yDj{b:Frame}{k:List Item}{cs:List Frame}{c:Code}:step P (lone (b.atR a (.code (.scope c)::k)) cs w)=.next (lone (b.atR a (.code c::.inScope c::k)) cs w):=
 step_lone_go (by simp[stepG,stepG.exec,Frame.atR])
omit [GT] in
theorem yAj{b:Frame}{k:List Item}{cs:List Frame}{c:Code}:step P (lone (b.atR a (.inScope c::k)) cs w)=.next (lone (b.atR a k) cs w):=
 step_lone_go (by simp[stepG,stepG.exec,Frame.atR])
omit [GT] in
theorem y56{F:Fence}{n:Nat}{c:Code}{Q:Exit->Act->World->Prop}(h:c.wpIn F n P (Exit.noGoto Q) a w):(Code.scope c).wpIn F n P Q a w:=by
 intro b k cs hro hb hr;obtain ⟨e,a₁,w₁,hq,harr⟩:=h b (.inScope c::k) cs hro hb hr;have h0:StepsIn (Machine.fenced P F) P (lone (b.atR a (.code (.scope c)::k)) cs w) (lone (b.atR a (.code c::.inScope c::k)) cs w):=.one (fenced_calm hb hr rfl) yDj;have hx:∀ id,exitTo id (.inScope c::k)=exitTo id k:=λ id=>by simp[exitTo]
 cases e with
 |normal=>exact ⟨.normal,a₁,w₁,hq,h0.trans (StepsIn.trans harr (.one (fenced_calm hb hr rfl) yAj))⟩
 |exit id=>exact ⟨.exit id,a₁,w₁,hq,λ k' hk=>h0.trans (harr.1 k' (by rw[hx];exact hk)),λ hro' hk=>let ⟨k₁,h1,h2⟩:=harr.2 hro' (by rw[hx];exact hk);⟨k₁,h1,h0.trans h2⟩⟩
 |goto l=>exact hq.elim
 |ret=>exact ⟨_,a₁,w₁,hq,.of_steps h0 harr⟩
 |panic ch=>exact ⟨_,a₁,w₁,hq,.of_steps h0 harr⟩
 |outgrown=>exact ⟨_,a₁,w₁,hq,.of_steps h0 harr⟩
theorem yAG(cs:List (Option Chunk))(sv:SV):clrV cs sv=sv\/clrV cs sv=.undef:=by
 unfold clrV;split
 ·split
  ·exact .inr rfl
  ·exact .inl rfl
 ·exact .inl rfl
theorem Rel.clr(h:Rel P A0 w0 ρ s a w):Rel P A0 w0 ρ (clrS s) a w:=by
 have hsl:(clrS s).slots=s.slots.map (clrV s.cH):=Slots.toList_map _ _;refine ⟨by rw[hsl,List.length_map];exact h.size,λ i sv hi=>?_,h.cH,h.inj,λ i sv hi=>?_,h.cN,h.below,h.dom,h.defers,h.dep,h.lpi,h.round,h.glob,h.kZ,h.kS,h.kN,h.subs⟩
 ·rw[hsl]at hi;simp only[getElem?_map,map_eq_some_iff]at hi;obtain ⟨sv',h1,rfl⟩:=hi;rcases yAG s.cH sv' with e|e<;>rw[e]
  ·exact h.slots i sv' h1
  ·trivial
 ·rw[hsl]at hi;simp only[getElem?_map,map_eq_some_iff]at hi;obtain ⟨sv',h1,rfl⟩:=hi;rcases yAG s.cH sv' with e|e<;>rw[e]
  ·exact h.names i sv' h1
  ·trivial
def Base.range(w0:Base)(info:LpInfo):Base:={ w0 with infos:=w0.infos++[info] }
theorem Rel.range(h:Rel P A0 w0 ρ s a w)(info:LpInfo):Rel P A0 (w0.range info) ρ { s with dep:=s.dep+1 } a w:=
 ⟨h.size,h.slots,h.cH,h.inj,h.names,h.cN,h.below,h.dom,h.defers,⟨by simp[Base.range,h.dep.1],h.dep.2⟩,λ β ch q hb hq=>by
   have h1:=h.lpi β ch q hb hq;have hlt:=(List.getElem?_eq_some_iff.1 h1).1;show (w0.infos++[info])[q.1]?=some q.2
   rw[getElem?_append_left hlt,h1],h.round,h.glob,h.kZ,h.kS,h.kN,h.subs⟩
theorem Rel.unrange{info:LpInfo}(h:Rel P A0 (w0.range info) ρ s a w)(hlp:∀ (β:Nat) (ch:Chunk) (q:Nat×LpInfo),s.cH[β]?=some (some ch)->ch.lpNo=some q->q.1 < s.dep - 1):Rel P A0 w0 ρ { s with dep:=s.dep - 1 } a w:=
 have hd:s.dep=w0.infos.length+1:=by simpa[Base.range]using h.dep.1
 ⟨h.size,h.slots,h.cH,h.inj,h.names,h.cN,h.below,h.dom,h.defers,⟨by show s.dep - 1=_;omega,h.dep.2⟩,λ β ch q hb hq=>by
   have h1:=h.lpi β ch q hb hq;have hlt:=hlp β ch q hb hq;have h2:(w0.infos++[info])[q.1]?=some q.2:=h1;rwa[getElem?_append_left (by omega)]at h2,h.round,h.glob,h.kZ,h.kS,h.kN,h.subs⟩
theorem Rel.mark(h:Rel P A0 w0 ρ s a w){r:Nat}(hr:w.heap[r]?=some (.deferred (some [])))(hr0:w0.w.heap.size<=r)(hnew:∀ ms:List Nat,a.defers=ms.map markD->r ∉ ms)(hnew':r ∉ w0.marks) :
  Rel P A0 w0 ρ { s with nmk:=s.nmk+1 } { a with defers:=markD r::a.defers } w:=by
 obtain ⟨ms,⟨h1,h2,h3⟩,h4⟩:=h.defers;refine ⟨h.size,h.slots,h.cH,h.inj,h.names,h.cN,h.below,h.dom,⟨r::ms,⟨by simp[h1],λ h0=>by simp at h0,?_⟩,λ q hq=>?_⟩,h.dep,h.lpi,h.round,h.glob,h.kZ,h.kS,h.kN,h.subs⟩
 ·rw[List.cons_append,nodup_cons];refine ⟨λ hm=>?_,h3⟩
  rcases mem_append.1 hm with hm|hm
  ·exact hnew ms h1 hm
  ·exact hnew' hm
 ·rcases hq with hq|hq
  ·rcases mem_cons.1 hq with rfl|hq
   ·exact ⟨hr,hr0⟩
   ·exact h4 q (.inl hq)
  ·exact h4 q (.inr hq)
theorem yFx(h:Rel P A0 w0 ρ s a w):(∀ ms:List Nat,a.defers=ms.map markD->w.heap.size ∉ ms)/\w.heap.size ∉ w0.marks:=by
 obtain ⟨ms0,⟨h1,h2,h3⟩,h4⟩:=h.defers;have key:∀ r,r∈ms0\/r∈w0.marks->r < w.heap.size:=λ r hr=>yJ (h4 r hr).1
 refine ⟨λ ms hms hin=>?_,λ hin=>lt_irrefl _ (key _ (.inr hin))⟩
 have e:ms=ms0:=by
  have:=hms.symm.trans h1;have inj:Function.Injective markD:=λ x y hxy=>by
   have:=congrArg Deferred.target hxy;simpa[markD]using this
  exact (List.map_inj_right (λ x y hxy=>inj hxy)).1 this
 subst e;exact lt_irrefl _ (key _ (.inl hin))
theorem yAx{f:Operand}{l:Nat}{n:FuncId}{caps:List Value}(hf:a.eval f=.func (.func n) #[] caps.toArray)(hE:y28 P n) :
  ∃ d,(resolve a.eval (rangeCall f l) 0).run P w=.ok d w/\(invoke d.target d.args).run P w=.ok (.enter n ((.func (.yield l) #[] #[]::caps).toArray)) w:=by
 obtain ⟨fn,h1,h2,h3⟩:=hE;refine ⟨{ target:=.fn (.func n) caps.toArray,args:=#[.func (.yield l) #[] #[]] },?_,?_⟩
 ·simp only[rangeCall,resolve,hf,Deferred.ofValue,Sem.run_pure];simp[Act.eval]
 ·have e1:(#[Value.func (.yield l) #[] #[]]++caps.toArray)=(Value.func (.yield l) #[] #[]::caps).toArray:=by
   apply Array.toList_inj.1;simp
  simp only[invoke,callFunc,e1,Sem.run_bind];simp[h1];rw[if_neg (by simpa using h2),if_neg (by intro hb;rw[hb]at h3;cases h3)]
theorem Rel.enterRange(h:Rel P A0 w0 ρ s a w)(fn:FuncId)(info:LpInfo) :
  ∃ l mark w1 ρ1,(Instr.enterLoop fn a.tmps info.ps info.assign info.body w0.ro).run P w=.ok (l,mark) w1 /\
   (∀ sv v,sv.inn s.cH.length->yD P (Av A0 ρ s.cH) w ρ sv v->yD P (Av A0 ρ1 (s.cH++[some (.lp s.dep info s.slots .ready)])) w1 ρ1 sv v) /\
   (∃ b,(ρ1 s.cH.length).blk=some b/\b=l) /\
   Rel P A0 ((w0.range info).push (.func (.yield l) #[] #[])) ρ1 { s with cH:=s.cH++[some (.lp s.dep info s.slots .ready)],kept:=.yld s.cH.length::s.kept,dep:=s.dep+1,nmk:=if s.rnd then s.nmk else s.nmk+1 }
    { a with defers:=mark++a.defers } w1:=by
 have hif:(if s.rnd then s.nmk else s.nmk+1)=if w0.ro.isSome then s.nmk else s.nmk+1:=by rw[h.dep.2]
 rw[hif];clear hif;have gen:∀ (wA:World) (d:Nat),Below w.heap.size w wA->∀ {s2:St} {a2:Act},s2.sl=s.sl->s2.cH=s.cH->s2.kept=s.kept->s2.dep=s.dep->a2.tmps=a.tmps->Rel P A0 w0 ρ s2 a2 wA ->
   ∃ ρ1,(∀ sv v,sv.inn s.cH.length->yD P (Av A0 ρ s.cH) w ρ sv v->yD P (Av A0 ρ1 (s.cH++[some (.lp s.dep info s.slots .ready)])) (wA.alloc (.loop { state:=.ready,pending:=none,fn,tmps:=a.tmps,params:=info.ps,assign:=info.assign,body:=info.body,defers:=d })) ρ1 sv v) /\
    (∃ b,(ρ1 s.cH.length).blk=some b/\b=wA.heap.size) /\
    Rel P A0 ((w0.range info).push (.func (.yield wA.heap.size) #[] #[])) ρ1 { s2 with cH:=s.cH++[some (.lp s.dep info s.slots .ready)],kept:=.yld s.cH.length::s.kept,dep:=s.dep+1 } a2
     (wA.alloc (.loop { state:=.ready,pending:=none,fn,tmps:=a.tmps,params:=info.ps,assign:=info.assign,body:=info.body,defers:=d })):=by
  intro wA d hb s2 a2 e1 e2 e3 e4 e5 h2;obtain ⟨sl,ch,ke,de,nm,rd⟩:=s2;simp only at e1 e2 e3 e4;subst e1 e2 e3 e4;have hbl:=y0T wA (.loop { state:=.ready,pending:=none,fn,tmps:=a.tmps,params:=info.ps,assign:=info.assign,body:=info.body,defers:=d });have h3:=(h2.range info).newChunk (.lp s.dep info s.slots .ready) ⟨some wA.heap.size,0,0,[],[],[]⟩ hbl (λ b hb=>by cases hb;exact Nat.le_refl _) (λ sv hs=>by
    obtain ⟨i,hi⟩:=List.getElem?_of_mem hs;exact h2.names i sv hi)
   (λ A hA _=>⟨wA.heap.size,_,rfl,heap_alloc_new wA _,⟨rfl,rfl,rfl,rfl,.inr rfl⟩,by rw[h.size],λ i sv hi=>by
    have h4:=h2.slots i sv hi;have hlt:i < a.tmps.size:=h.size ▸ (List.getElem?_eq_some_iff.1 hi).1;refine ⟨a.tmps.getD i undef,by simp[Array.getD_eq_getD_getElem?,hlt],?_⟩
    rw[e5]at h4;exact h4.mono (λ n hn _=>hbl.block n hn) hA⟩)
   (λ q hq=>by
    cases hq;show (w0.infos++[info])[s.dep]?=some info
    rw[h.dep.1];simp)
  refine ⟨_,λ sv v hi hv=>?_,⟨wA.heap.size,by rw[Places.set_self],rfl⟩,h3.push (sv:=.yld s.cH.length) ⟨wA.heap.size,by rw[Places.set_self],rfl⟩ (by show s.cH.length < (s.cH++[_]).length;simp)⟩
  have he:∀ β,β < s.cH.length->ρ.set s.cH.length ⟨some wA.heap.size,0,0,[],[],[]⟩ β=ρ β:=λ β hβ=>Places.set_lt ρ _ hβ
  refine (hv.congr he hi).mono (λ n hn _=>(hbl.block n (Nat.lt_of_lt_of_le hn hb.size)).trans (hb.block n hn)) (λ n hn hA=>?_)
  rcases hA with (h0|⟨β,c,hc,hbn⟩)|⟨β,c,hc,hbn⟩
  ·exact .inl (.inl h0)
  ·rcases yb hc with ⟨hl,hc⟩|⟨rfl,rfl⟩
   ·rw[he β hl]at hbn;exact .inl (.inr ⟨β,c,hc,hbn⟩)
   ·rw[Places.set_self]at hbn;cases hbn
  ·rcases yb hc with ⟨hl,hc⟩|⟨rfl,rfl⟩
   ·rw[he β hl]at hbn;exact .inr ⟨β,c,hc,hbn⟩
   ·rw[Places.set_self]at hbn;cases hbn;exact absurd hn (Nat.not_lt.2 hb.size)
 cases hro:w0.ro with
 |none =>
  have hb1:=y0T w (.deferred (some []));have h1:=(h.step hb1).mark (r:=w.heap.size) (heap_alloc_new w _) h.below.size (yFx h).1 (yFx h).2;obtain ⟨ρ1,g1,g2,g3⟩:=gen (w.alloc (.deferred (some []))) w.heap.size hb1 (s2:={ s with nmk:=s.nmk+1 }) (a2:={ a with defers:=markD w.heap.size::a.defers }) rfl rfl rfl rfl rfl h1
  rw[World.size_alloc]at g2 g3;exact ⟨_,_,_,ρ1,run_enterLoop_outer ..,g1,g2,g3⟩
 |some l0 =>
  obtain ⟨r0,hr0⟩:=h.round l0 (.inl hro);obtain ⟨ρ1,g1,g2,g3⟩:=gen w r0.defers (Below.refl _ _) rfl rfl rfl rfl rfl h;exact ⟨_,_,_,ρ1,run_enterLoop_inner hr0 ..,g1,g2,g3⟩
theorem yAA{d:Nat}{cs:List (Option Chunk)}{γ:Nat}{c:Chunk}(h:(y5v d cs)[γ]?=some (some c)):cs[γ]?=some (some c)/\∀ q,c.lpNo=some q->q.1 < d:=by
 unfold y5v at h;rw[getElem?_map,map_eq_some_iff]at h;obtain ⟨o,h1,h2⟩:=h;rw[h1];split at h2
 ·split at h2
  ·rename_i hi;cases h2;exact ⟨rfl,λ q hq=>by cases hq;exact hi⟩
  ·cases h2
 ·rename_i hno;subst h2;refine ⟨rfl,λ q hq=>?_⟩
  cases c with
  |lp i info cells st=>exact absurd rfl (hno i info cells st)
  |_=>cases hq
theorem Rel.writeLp(h:Rel P A0 w0 ρ s a w){β l i:Nat}{info:LpInfo}{cells:List SV}{st st':LpSt}{rc rc':Loop}(hc:s.cH[β]?=some (some (.lp i info cells st)))(hb:(ρ β).blk=some l)(hl:w.heap[l]?=some (.loop rc))
  (ht:rc'.tmps=rc.tmps) (hp:rc'.params=rc.params) (ha:rc'.assign=rc.assign) (hbd:rc'.body=rc.body) (hst:rc'.state=st'.state) (hpe:st'=.over\/rc'.pending=st'.pending) :
  Rel P A0 w0 ρ { s with cH:=s.cH.set β (some (.lp i info cells st')) } a (w.putObj l (.loop rc')):=by
 obtain ⟨b',rec',hb',g1,⟨g2,g3,g4,_,_⟩,g5,g6⟩:=(h.cH β _ hc).1;rw[hb]at hb';cases hb';rw[hl]at g1;cases g1;have hlt:=yJ hl;have hK:Keep (Av A0 ρ s.cH) w (w.putObj l (.loop rc')):=λ n hn hnA=>World.putObj_heap_other (λ e=>hnA (.inr ⟨β,_,hc,e ▸ hb⟩))
 exact h.write hc hb (λ n hn=>World.putObj_heap_other hn) (by simp[World.putObj]) rfl rfl rfl (show Chunk.inn s.cH.length (.lp i info cells st')from h.cN β (.lp i info cells st) hc)
  (λ A hA=>⟨l,rc',hb,World.putObj_heap_same hlt,⟨hp.trans g2,ha.trans g3,hbd.trans g4,hst,hpe⟩,by rw[ht];exact g5,λ j sv hj=>by
   obtain ⟨v,h1,h2⟩:=g6 j sv hj;exact ⟨v,by rw[ht];exact h1,h2.mono hK (λ n _ hn=>(hA n).1 hn)⟩⟩)
theorem Rel.endRange{info:LpInfo}{l:Nat}{K:Exit->St->Option R}(h:Rel P A0 ((w0.range info).push (.func (.yield l) #[] #[])) ρ s a w)(hk:Vx.endRange s K=some r) :
  ∃ jump w' s' e,(Instr.endLoop l).run P w=.ok jump w'/\Rel P A0 w0 ρ s' a w'/\K e s'=some r/\((jump=none/\e=.normal)\/(∃ id,jump=some (.exit id)/\e=.exit id)\/(jump=some .ret/\e=.ret)):=by
 unfold Vx.endRange at hk;split at hk
 ·rename_i β kept hkp;split at hk
  ·rename_i i info' cells st hch;obtain ⟨e,he,hk⟩:=bind_eq_some_iff.1 hk;have hc:=getD_some hch;have hh:=h.kS 0 (.yld β) (by rw[hkp];rfl)
   obtain ⟨b,hb,hv⟩:=hh;have hbl:b=l:=by
    simp only[Base.push,List.getD_cons_zero,Value.func.injEq,Fn.yield.injEq]at hv;exact hv.1.symm
   subst hbl;obtain ⟨b',rc,hb',g1,⟨g2,g3,g4,g5,g6⟩,g7,g8⟩:=(h.cH β _ hc).1;rw[hb]at hb';cases hb';have hnb:rc.state≠.busy:=by
    rw[g5];intro hs;cases st<;>simp[LpSt.state,LpSt.exit]at hs he
   have hnv:st≠.over:=by
    intro hs;subst hs;simp[LpSt.exit]at he
   have hpe:rc.pending=st.pending:=g6.resolve_left hnv;have h1:=h.writeLp (st':=.over) (rc':={ rc with state:=.exhausted }) hc hb g1 rfl rfl rfl rfl rfl (.inl rfl)
   have h2:=h1.dropAll (cs:=y5v (s.dep - 1) (s.cH.set β none)) (by simp[y5v]) (λ γ c hg=>by
    obtain ⟨h3,_⟩:=yAA hg;by_cases hbg:β=γ
    ·subst hbg;rw[getElem?_set]at h3;simp at h3
    ·rw[getElem?_set_ne hbg]at h3 ⊢;exact h3)
   have h3:=h2.pop hkp;have h4:=h3.unrange (λ γ c q hg hq=>(yAA hg).2 q hq)
   refine ⟨rc.pending,_,_,e,run_endLoop g1 hnb,h4,hk,?_⟩;rw[hpe];cases st with
   |ready=>cases he;exact .inl ⟨rfl,rfl⟩
   |busy=>cases he
   |over=>cases he
   |done j =>
    cases j with
    |exit id=>cases he;exact .inr (.inl ⟨id,rfl,rfl⟩)
    |ret=>cases he;exact .inr (.inr ⟨rfl,rfl⟩)
  ·cases hk
 ·cases hk
theorem y4e{call:(R:Type)->yv R}(hC:y2z P call)(hRd:y1p P call)(hN:y0i call)(hm:P.follows .mixedOrders=true)(hT:yc P g.T)(hE:∀ e∈g.E,FnOK P e){fuel:Nat}:∀ (c:Code) (kp:List (List Nat)) {ρ:Places} {s:St} {a:Act} {w:World} {K:Exit->St->Option R} {Q:Exit->Act->World->Prop},
  Rel P A0 w0 ρ s a w->exec g (call R) fuel c kp s K=some r->(∀ e ρ s a w,yPA e=true->Rel P A0 w0 ρ s a w->K e s=some r->Q e a w)->c.wpIn (ym w0.ro) 0 P Q a w:=by
 intro c;induction c with
 | skip=>intro kp ρ s a w K Q h hk hQ;exact wpIn_skip (hQ .normal _ _ _ _ rfl h hk)
 |region id ops draw =>
  intro kp ρ s a w K Q h hk hQ;simp only[exec]at hk;unfold cutR at hk;split at hk
  ·rename_i p _;rw[yEX]at hk;obtain ⟨ρ',h'⟩:=h.canon p.2;exact y6Z hC hRd hN hm hT hE h' hk (λ ρ s a w hR hK=>hQ .normal _ _ _ _ rfl hR hK)
  ·exact y6Z hC hRd hN hm hT hE h hk (λ ρ s a w hR hK=>hQ .normal _ _ _ _ rfl hR hK)
 |seq x y ihx ihy =>
  intro kp ρ s a w K Q h hk hQ;refine wpIn_seq (ihx kp h hk λ e ρ s a w he hR hK=>?_)
  cases e with
  |normal=>exact ihy _ hR hK hQ
  |exit id=>exact hQ _ _ _ _ _ rfl hR hK
  |ret=>exact hQ _ _ _ _ _ rfl hR hK
  |_=>cases he
 |cond c x y ihx ihy =>
  intro kp ρ s a w K Q h hk hQ;simp only[exec]at hk;split at hk
  ·rename_i p hp;have hv:=(y6 (T:=g.T) h 0 c).1;rw[hp]at hv;refine wpIn_cond (y2m hv) ?_
   cases p with
   |true=>exact ihx _ h hk hQ
   |false=>exact ihy _ h hk hQ
  ·cases hk
 |block id c ih =>
  intro kp ρ s a w K Q h hk hQ;refine wpIn_block (ih kp h hk λ e ρ s a w he hR hK=>?_)
  cases e with
  |normal=>exact hQ _ _ _ _ _ rfl hR hK
  |exit id' =>
   simp only[Exit.inBlock];dsimp only at hK;split at hK
   ·rename_i hid;rw[if_pos hid];exact hQ _ _ _ _ _ rfl hR hK
   ·rename_i hid;rw[if_neg hid];exact hQ _ _ _ _ _ rfl hR hK
  |ret=>exact hQ _ _ _ _ _ rfl hR hK
  |_=>cases he
 |loop c ih =>
  intro kp ρ s a w K Q h hk hQ;simp only[exec]at hk;have hf:=(h.frz c).frzK (kp.headD []);have hs0:(y75 c (kp.headD []) s).Ok:=let h0:=yLY hf (kp.headD []);⟨h0.names,h0.cN,h0.kN⟩
  have hI0:LpI w0.infos (y75 c (kp.headD []) s):=yFH hf.lpi _;have hd0:∀ s':St,s'.dep=w0.infos.length/\s'.rnd=w0.ro.isSome->(y75 c (kp.headD []) s).dep=s'.dep/\(y75 c (kp.headD []) s).rnd=s'.rnd:=λ s' hs'=>⟨hf.dep.1.trans hs'.1.symm,hf.dep.2.trans hs'.2.symm⟩
  clear hf;obtain ⟨ρ1,h1⟩:=yGr h c (kp.headD []);have h2:=h1.weak (yCS h1 hs0 hI0 ⟨rfl,rfl⟩ (yHy _)) (yCt hI0 _);clear h1 h;generalize y75 c (kp.headD []) s=s0 at *;generalize stX s0=y at *;refine wpIn_loop_rounds fuel ?_
  generalize hF:(λ (r:(stTy s0).den->Option R) (y:(stTy s0).den)=>exec g (call R) fuel c kp.tail (y4x s0 y) λ e s'=>match e with
   |.normal=>(stAs s0 (canon (kp.headD []) (frzK (kp.headD []) s'))).bind r
   |e=>K e s')=F at hk
  generalize fuel=n at hk;induction n generalizing ρ1 a w y with
  |zero=>cases hk
  |succ n ihn =>
   have hk2:F (iter F n) y=some r:=hk;rw[<- hF]at hk2;refine ih kp.tail h2 hk2 λ e ρ' s' a' w' he hR hK=>?_
   cases e with
   |normal =>
    dsimp only at hK;obtain ⟨y',hy',hk'⟩:=bind_eq_some_iff.1 hK;rw[hF]at hk';obtain ⟨ρ2,h3⟩:=(hR.frzK (kp.headD [])).canon (kp.headD []);exact ihn ρ2 y' (h3.weak (yCS h3 hs0 hI0 (hd0 _ h3.dep) hy') (yCt hI0 _)) hk'
   |exit id=>exact hQ _ _ _ _ _ rfl hR hK
   |ret=>exact hQ _ _ _ _ _ rfl hR hK
   |_=>cases he
 |scope c ih =>
  intro kp ρ s a w K Q h hk hQ;refine y56 (ih kp h hk λ e ρ s a w he hR hK=>?_)
  cases e with
  |normal=>exact hQ _ _ _ _ _ rfl hR hK
  |exit id=>exact hQ _ _ _ _ _ rfl hR hK
  |ret=>exact hQ _ _ _ _ _ rfl hR hK
  |_=>cases he
 |rangeFunc f ps x y _ _ =>
  intro kp ρ s a w K Q h hk hQ;simp only[exec]at hk;replace h:=(h.live g.lv).clr
  generalize clrS (s.live g.lv)=s at h hk;unfold yJb at hk;split at hk
  ·rename_i n caps hev;obtain ⟨hs,hin⟩:=y6 (T:=g.T) h 0 f;rw[hev]at hs hin;obtain ⟨vs,hfv,hr⟩:=hs;refine wpIn_rangeFunc λ fn _=>?_
   obtain ⟨l,mark,w1,ρ1,e1,e2,⟨b,hb,hbl⟩,h1⟩:=h.enterRange fn { ps:=ps,assign:=x,body:=y,keep:=kp,mU:=g.mU,fz:=g.fz,lv:=g.lv,sep:=g.sep };subst hbl;obtain ⟨hEn,hCalls⟩:=hC h1 (svs:=.yld s.cH.length::y1T caps) (vs:=.func (.yield b) #[] #[]::vs) (by
     have hcv:=y1P hr;refine ⟨by simp[hcv.1],λ i sv hi=>?_⟩
     cases i with
     |zero=>simp at hi;subst hi;exact ⟨_,rfl,b,hb,rfl⟩
     |succ i =>
      obtain ⟨v,q1,q2⟩:=hcv.2 i sv (by simpa using hi)
      exact ⟨v,by simpa using q1,e2 sv v (y3B hin sv (mem_of_getElem? (by simpa using hi))) q2⟩)
    (λ sv hs=>by
     rcases mem_cons.1 hs with rfl|hs
     ·show s.cH.length < (s.cH++[_]).length
      simp
     ·exact SV.inn_mono (by simp) (y3B hin sv hs)) hk
   obtain ⟨d,hres,hinv⟩:=yAx (P:=P) (w:=w1) (l:=b) hfv hEn;refine ⟨b,mark,w1,d,w1,n,_,w1,e1,hres,λ _ _=>trivial,hinv,λ h=>(by cases h),yFa.2 (hCalls.mono λ ex w2 hB=>?_)⟩
   obtain ⟨v,ρ2,s2,sv,rfl,hR,_,_,hK2⟩:=hB;obtain ⟨jump,w3,s3,e,g1,g2,g3,g4⟩:=hR.endRange hK2;refine ⟨jump,w3,g1,?_⟩;rcases g4 with ⟨rfl,rfl⟩|⟨id,rfl,rfl⟩|⟨rfl,rfl⟩
   ·exact hQ .normal _ _ _ _ rfl g2 g3
   ·exact wpIn_exit (hQ _ _ _ _ _ rfl g2 g3)
   ·exact wpIn_ret (hQ _ _ _ _ _ rfl g2 g3)
  ·cases hk
 |exit id=>intro kp ρ s a w K Q h hk hQ;exact wpIn_exit (hQ _ _ _ _ _ rfl h hk)
 |ret=>intro kp ρ s a w K Q h hk hQ;exact wpIn_ret (hQ _ _ _ _ _ rfl h hk)
 |label l=>intro kp ρ s a w K Q h hk hQ;exact wpIn_label (hQ .normal _ _ _ _ rfl h hk)
 |_=>intro kp ρ s a w K Q h hk hQ;simp[exec]at hk
end
end Go.Vx
end
