import Derived.Test.YtpcnkpbpcebokaaGreatDoorPE5
import Derived.Test.YtpcnkpbpcebokaaGreatDoorPE6
set_option linter.all false
set_option maxRecDepth 100000
open List (mem_map)
open Option (bind_some)
namespace Go.Tw
open Go.Vx Go.Vx.B Go.Proofs
theorem yT6:lvE 0=0:=by decide +kernel
theorem nz_0:nz 0=false:=by decide +kernel
theorem yFA(gaps:List Gau):∀ (l:List Nat) (i j:Nat),j < l.length->has gaps ((i+j:Nat):Int)=false->∃ x,(((i+j:Nat):Int),x)∈recd gaps i l
 |[],i,j,h,_=>by simp at h
 |x::l,i,0,h,hh=>by
  rw[Nat.add_zero]at hh ⊢;refine ⟨x,?_⟩;unfold recd;rw[if_neg (by rw[hh];simp)]
  simp
 |x::l,i,j+1,h,hh=>by
  obtain ⟨y,hy⟩:=yFA gaps l (i+1) j (by simpa using h) (by rw[show i+1+j=i+(j+1) by omega];exact hh)
  refine ⟨y,?_⟩;rw[show i+1+j=i+(j+1) by omega]at hy
  unfold recd;split
  ·exact hy
  ·exact List.mem_cons_of_mem _ hy
theorem yEM(gaps:List Gau):∀ (l:List Nat) (i:Nat),∀ q∈recd gaps i l,has gaps q.1=false
 |[],i,q,h=>by cases h
 |x::l,i,q,h=>by
  unfold recd at h;by_cases hh:has gaps (i:Int)=true
  ·rw[if_pos hh]at h;exact yEM gaps l (i+1) q h
  ·rw[if_neg hh]at h;rcases List.mem_cons.1 h with rfl|h
   ·exact Bool.eq_false_iff.2 hh
   ·exact yEM gaps l (i+1) q h
theorem y8i(r:Rec)(t:Int):t∈tks r ↔ ∃ i:Nat,i < r.2.2.1.length/\has r.2.2.2.1 (i:Int)=false/\t=r.2.1+i:=by
 unfold tks;constructor
 ·intro h;obtain ⟨q,hq,rfl⟩:=mem_map.1 h;obtain ⟨⟨h1,h2⟩,_,_⟩:=yG4 _ _ _ q hq;have h3:=yEM _ _ _ q hq;refine ⟨q.1.toNat,by omega,?_,by omega⟩
  rw[show ((q.1.toNat:Nat):Int)=q.1 by omega]
  exact h3
 ·rintro ⟨i,h1,h2,rfl⟩
  obtain ⟨x,hx⟩:=yFA r.2.2.2.1 r.2.2.1 0 i h1 (by rw[Nat.zero_add];exact h2)
  rw[Nat.zero_add]at hx;exact mem_map.2 ⟨_,hx,rfl⟩
theorem y7n(hi:Int):∀ (l:List Gau) (p:Option Gau) (lo:Int),y1a p l=0->lo<=hi->(∀ s∈l,lo<=s.1/\s.2.1<=hi)->(l.length:Int)<=hi - lo
 |[],_,lo,_,h,_=>by simp;omega
 |s::l,p,lo,h,hl,hs=>by
  have h1:=y2j _ _ h s (by simp)
  have h2:=y3y l p s h;have h3:=hs s (by simp)
  have:=y7n hi l (some s) s.2.1 (yH h).2 h3.2 λ t ht=>⟨by have:=h2 t ht;omega,(hs t (by simp[ht])).2⟩
  simp only[List.length_cons];omega
theorem yOL{l:List Gau}{s:Gau}(h:s∈l){k:Int}(h1:s.1<=k)(h2:k < s.2.1):has l k=true:=by
 unfold has;exact List.any_eq_true.2 ⟨s,h,by simp[h1,h2]⟩
theorem yQw{l:List Gau}{k:Int}(h:has l k=true):∃ s∈l,s.1<=k/\k < s.2.1:=by
 unfold has at h;obtain ⟨s,h1,h2⟩:=List.any_eq_true.1 h;exact ⟨s,h1,by simpa using h2⟩
theorem yOy{nm:List UInt8}{st:Int}{lv:List Nat}{g o:List Gau}{i:Nat}(h:y6p (nm,st,lv,g,())=0)(hl:lv.length<=12)(hi:i < lv.length)(ho:y1a none o=0)
  (hh:∀ k:Nat,k < 100001->has o (k:Int)=(has g (k:Int) || has [((i:Int),((i:Int)+1),())] (k:Int))):y6p (nm,st,lv.set i 0,o,())=0/\o.length<=12:=by
 classical
 have hok:=y7L h;have hone:∀ k:Nat,has [((i:Int),((i:Int)+1),())] (k:Int)=decide (k=i):=λ k=>by
  unfold has;rw[List.any_cons,List.any_nil,Bool.or_false];by_cases e:k=i
  ·rw[y8 e,y8 (by simp only;omega)]
  ·rw[y9 e,y9 (by simp only;omega)]
 have hend:∀ s∈o,0<=s.1/\s.1 < s.2.1/\s.2.1<=(lv.length:Int):=λ s hs=>by
  obtain ⟨h1,h2,h3⟩:=y2j _ _ ho s hs;refine ⟨h1,h2,?_⟩;have h4:=yOL hs (k:=s.2.1 - 1) (by omega) (by omega)
  have h5:=hh (s.2.1 - 1).toNat (by omega)
  rw[show (((s.2.1 - 1).toNat:Nat):Int)=s.2.1 - 1 by omega,h4]at h5
  rcases Bool.or_eq_true_iff.1 h5.symm with h6|h6
  ·obtain ⟨u,hu,u1,u2⟩:=yQw h6;have:=hok.ends u hu;simp only at this;omega
  ·rw[show (s.2.1 - 1:Int)=(((s.2.1 - 1).toNat:Nat):Int) by omega,hone]at h6
   have:=of_decide_eq_true h6;omega
 have hol:o.length<=12:=by
  have:=y7n (lv.length:Int) o none 0 ho (by omega) λ s hs=>⟨(hend s hs).1,(hend s hs).2.2⟩
  omega
 refine ⟨?_,hol⟩;unfold y6p at h ⊢;obtain ⟨h1,h2⟩:=yH h;simp only at h1 ⊢;rw[List.length_set,h1,yR];have e1:y08 ((lv.set i 0).map lvE)=0:=by
  have:∀ l:List Int,(∀ x∈l,x=0)->y08 l=0:=λ l=>by
   induction l with
   |nil=>intro _;rfl
   |cons x l ih =>
    intro hx;rw[yS,hx x (by simp),yR]
    exact ih λ y hy=>hx y (by simp[hy])
  refine this _ λ x hx=>?_
  obtain ⟨y,hy,rfl⟩:=mem_map.1 hx;rcases List.mem_or_eq_of_mem_set hy with q|q
  ·exact hok.lev y q
  ·rw[q];exact yT6
 have e2:y2P o=0:=by
  unfold y2P;rw[if_neg (by omega)]
  exact ho
 have e3:o.any (λ s=>decide ((lv.length:Int) < s.2.1))=false:=by
  rw[List.any_eq_false];intro s hs;have:=hend s hs;simp only[decide_eq_true_eq];omega
 have e4:¬ yEs (lv.set i 0) o:=by
  rintro ⟨k,x,k1,k2,k3⟩
  rw[List.getElem?_set]at k1;by_cases e:i=k
  ·rw[if_pos e,if_pos (by omega)]at k1
   rw[<- Option.some.inj k1,nz_0]at k2;cases k2
  ·rw[if_neg e]at k1;have hk:k < lv.length:=(List.getElem?_eq_some_iff.1 k1).1;rw[hh k (by omega),hone,y9 (show ¬ k=i from λ h=>e h.symm),Bool.or_false]at k3
   exact hok.zero ⟨k,x,k1,k2,k3⟩
 rw[e1,yR,e2,yR,e3,if_neg (by simp),yR,if_neg e4]
theorem yLw{nm:List UInt8}{st:Int}{lv:List Nat}{g o:List Gau}{i:Nat}(hl:lv.length<=12)
  (hh:∀ k:Nat,k < 100001->has o (k:Int)=(has g (k:Int) || has [((i:Int),((i:Int)+1),())] (k:Int))) :
  (∀ t∈tks (nm,st,lv.set i 0,o,()),t∈tks (nm,st,lv,g,()))/\∀ t∈tks (nm,st,lv,g,()),t∈tks (nm,st,lv.set i 0,o,())\/t=st+i:=by
 constructor
 ·intro t ht;obtain ⟨k,h1,h2,h3⟩:=(y8i _ _).1 ht;simp only[List.length_set]at h1 h2 h3;rw[hh k (by omega)]at h2
  exact (y8i _ _).2 ⟨k,h1,(Bool.or_eq_false_iff.1 h2).1,h3⟩
 ·intro t ht;obtain ⟨k,h1,h2,h3⟩:=(y8i _ _).1 ht;simp only at h1 h2 h3;by_cases e:k=i
  ·right
   rw[h3,e]
  ·left
   refine (y8i _ _).2 ⟨k,by simpa using h1,?_,h3⟩
   simp only;rw[hh k (by omega),h2,Bool.false_or]
   unfold has;rw[List.any_cons,List.any_nil,Bool.or_false,y9];simp only;omega
theorem yRQ(r:Rec)(l:List Con)(ll:l.length < lenMax):∃ b,yOA r l=some (b,())/\(b=true->y0a r l=0/\r.2.2.1.length<=12/\r.1.length<=60/\r.2.2.2.1.length<=12/\(∀ n∈l,n.1.length<=60)/\l.length<=5/\∀ x∈r.2.2.1,yT BinOp.gtr FloatKind.f32 x 1082130432=false/\yT BinOp.lss FloatKind.f32 x 3229614080=false):=by
 have hlm:lenMax=9223372036854775808:=rfl;unfold yOA;by_cases c1:(r.2.2.1.length:Int) > 12
 ·exact ⟨false,by rw[bifT (y8 c1)],λ h=>by cases h⟩
 rw[bifF (y9 c1)];by_cases c2:(r.1.length:Int) > 60
 ·exact ⟨false,by rw[bifT (y8 c2)],λ h=>by cases h⟩
 rw[bifF (y9 c2)];by_cases c3:(r.2.2.2.1.length:Int) > 12
 ·exact ⟨false,by rw[bifT (y8 c3)],λ h=>by cases h⟩
 rw[bifF (y9 c3)];obtain ⟨s,hs,hs2⟩:=yJ8 l ll;rw[hs];simp only[bind_some];cases s with
 |false=>exact ⟨false,rfl,λ h=>by cases h⟩
 |true =>
  obtain ⟨l60,l5⟩:=hs2 rfl;rw[bifF (by rfl),yPY r l (by omega)]
  simp only[bind_some];by_cases h:y0a r l=0
  ·rw[bifF (by simpa using h),bifT (y8 (show r.2.2.1.length < lenMax by omega))]
   have key:=y3B (body:=λ i__ e__ s__=>yAE r.2.2.1 i__ e__) (fin:=λ s__=>yDe r.2.2.1) r.2.2.1 (λ x:Nat=>if yT BinOp.gtr FloatKind.f32 x 1082130432 || yT BinOp.lss FloatKind.f32 x 3229614080 then some (false,())else none) r.2.2.1 [] rfl (λ i e he=>by
    unfold yAE;cases yT BinOp.gtr FloatKind.f32 e 1082130432<;>cases yT BinOp.lss FloatKind.f32 e 3229614080<;>rfl)
   cases hf:r.2.2.1.findSome? (λ x:Nat=>if yT BinOp.gtr FloatKind.f32 x 1082130432 || yT BinOp.lss FloatKind.f32 x 3229614080 then some (false,())else none)with
   |some y =>
    rw[hf]at key;obtain ⟨a,_,ha⟩:=List.exists_of_findSome?_eq_some hf;split at ha
    ·refine ⟨false,?_,λ h=>by cases h⟩
     rw[Option.some.inj ha];exact key
    ·cases ha
   |none =>
    rw[hf]at key;refine ⟨true,key,λ _=>⟨h,by omega,by omega,by omega,l60,l5,λ x hx=>?_⟩⟩
    have:=List.findSome?_eq_none_iff.1 hf x hx;cases h1:yT BinOp.gtr FloatKind.f32 x 1082130432<;>cases h2:yT BinOp.lss FloatKind.f32 x 3229614080<;>simp[h1,h2]at this ⊢
  ·exact ⟨false,by rw[bifT (by simpa using h)],λ h=>by cases h⟩
end Go.Tw
