import Derived.Test.YtlaebedgpkiodaaGreatDoorPM1
set_option linter.all false
set_option maxRecDepth 100000
open List (all_eq_true mem_range)
open Option (bind_some)
open Bool (and_eq_true)
open Go.IntKind (i64)
namespace Go.Tw
open Go.Vx Go.Vx.B Go.Proofs
def G0:Gau:=(0,0,())
noncomputable def altC(r:List Gau)(D:List Nat->Gau):List Nat->List Nat->Int->Gau->Gau
 |_,[],_,acc=>acc
 |pre,k::rest,s,acc=>altC r D (pre++[k]) rest (-s) (z0m acc (z0N (z0h ((r[k]?).getD G0) (D (pre++rest))).1 s).1).1
noncomputable def detC:List (List Gau)->List Nat->Gau
 |[],_=>(1,0,())
 |r::rs,cols=>altC r (detC rs) [] cols 1 G0
def yIu(n u:Nat):List Nat:=(List.range n).filter λ k=>!Nat.testBit u k
def preU(u t:Nat):List Nat:=(List.range t).filter λ k=>!Nat.testBit u k
def y4H(n u t:Nat):List Nat:=((List.range n).drop t).filter λ k=>!Nat.testBit u k
theorem yNH:((List.range 16).all λ u=>(List.range 4).all λ t =>
  ((y2q i64 BinOp.and ((u:Int).fdiv ((2:Int) ^ min t i64.bits)) 1 == 1) == Nat.testBit u t) &&
  (y2q i64 BinOp.or (u:Int) (i64.wrap (1 * (2:Int) ^ min t i64.bits)) == ((u ||| 2 ^ t:Nat):Int)) && decide (u ||| 2 ^ t < 16))=true:=by kernel_rfl
theorem yPj{u t:Nat}(hu:u < 16)(ht:t < 4):(y2q i64 BinOp.and ((u:Int).fdiv ((2:Int) ^ min t i64.bits)) 1 == 1)=Nat.testBit u t /\
  y2q i64 BinOp.or (u:Int) (i64.wrap (1 * (2:Int) ^ min t i64.bits))=((u ||| 2 ^ t:Nat):Int)/\u ||| 2 ^ t < 16:=by
 have h:=all_eq_true.1 (all_eq_true.1 yNH u (mem_range.2 hu)) t (mem_range.2 ht);rw[and_eq_true,and_eq_true]at h;exact ⟨by simpa using h.1.1,by simpa using h.1.2,of_decide_eq_true h.2⟩
theorem yMh:((List.range 5).all λ n=>(List.range 16).all λ u=>(List.range n).all λ t =>
  if Nat.testBit u t then y4H n u t == y4H n u (t+1) && preU u (t+1) == preU u t
  else y4H n u t == t::y4H n u (t+1) && preU u (t+1) == preU u t++[t] && yIu n (u ||| 2 ^ t) == preU u t++y4H n u (t+1))=true:=by kernel_rfl
theorem yQH{n u t:Nat}(hn:n<=4)(hu:u < 16)(ht:t < n) :
  (Nat.testBit u t=true->y4H n u t=y4H n u (t+1)/\preU u (t+1)=preU u t) /\
  (Nat.testBit u t=false->y4H n u t=t::y4H n u (t+1)/\preU u (t+1)=preU u t++[t]/\yIu n (u ||| 2 ^ t)=preU u t++y4H n u (t+1)):=by
 have h:=all_eq_true.1 (all_eq_true.1 (all_eq_true.1 yMh n (mem_range.2 (by omega))) u (mem_range.2 hu)) t (mem_range.2 ht)
 constructor
 ·intro hb;rw[if_pos hb,and_eq_true]at h;exact ⟨by simpa using h.1,by simpa using h.2⟩
 ·intro hb;rw[if_neg (by rw[hb];simp),and_eq_true,and_eq_true]at h
  exact ⟨by simpa using h.1.1,by simpa using h.1.2,by simpa using h.2⟩
theorem yKj(m:List (List Gau))(hn:m.length<=4)(hr:∀ r∈m,r.length=m.length):∀ (k row u d:Nat),row+k=m.length->u < 16->k < d ->
  yO d (m,(row:Int),(u:Int),())=some (detC (m.drop row) (yIu m.length u),())
 |0,row,u,d,hk,hu,hd=>by
  obtain ⟨d,rfl⟩:∃ e,d=e+1:=⟨d - 1,by omega⟩
  show @zS_M ⟨yO d⟩ m (row:Int) (u:Int)=_
  unfold zS_M;rw[bifT (by simp;omega),List.drop_eq_nil_of_le (by omega)]
  rfl
 |k+1,row,u,d,hk,hu,hd=>by
  obtain ⟨d,rfl⟩:∃ e,d=e+1:=⟨d - 1,by omega⟩
  have hrow:row < m.length:=by omega
  have hd2:m.drop row=m[row]::m.drop (row+1):=(List.getElem_cons_drop (h:=hrow)).symm;have hlen:m[row].length=m.length:=hr _ (List.getElem_mem hrow);show @zS_M ⟨yO d⟩ m (row:Int) (u:Int)=_
  unfold zS_M;rw[bifF (by simp;omega),bifT (yB (by omega)),show ((m.length:Int) - 0).toNat=m.length by omega,hd2]
  have key:∀ (j t:Nat) (s:Int) (x y:Int),t+j=m.length->(s=1\/s=-1) ->
    y1r (λ i__ s__=>@yEH ⟨yO d⟩ m (row:Int) (u:Int) (m.length:Int) 0 0 i__ s__.1 s__.2.1 s__.2.2) (λ s__=>yOq m (row:Int) (u:Int) (m.length:Int) 0 0 s__.1 s__.2.1 s__.2.2) j (t:Int) (s,x,y) =
     some (altC m[row] (detC (m.drop (row+1))) (preU u t) (y4H m.length u t) s (x,y,()),()):=by
   intro j;induction j with
   |zero =>
    intro t s x y ht _;have:y4H m.length u t=[]:=by unfold y4H;rw[List.drop_eq_nil_of_le (by simp;omega)];rfl
    rw[this];rfl
   |succ j ih =>
    intro t s x y ht hs;have htn:t < m.length:=by omega
    obtain ⟨c1,c2⟩:=yQH (u:=u) hn hu htn;obtain ⟨b1,b2,b3⟩:=yPj (u:=u) (t:=t) hu (by omega)
    rw[yAB];have e1:((t:Int).toNat)=t:=Int.toNat_natCast t;cases hb:Nat.testBit u t with
    |true =>
     obtain ⟨q1,q2⟩:=c1 hb;have hbody:@yEH ⟨yO d⟩ m (row:Int) (u:Int) (m.length:Int) 0 0 (t:Int) s x y=some (.inr (s,x,y)):=by
      unfold yEH;rw[bifF (yK (by omega)),e1,b1,hb]
      rfl
     simp only[hbody,bind_some];have:=ih (t+1) s x y (by omega) hs
     rw[q2,<- q1]at this;exact this
    |false =>
     obtain ⟨q1,q2,q3⟩:=c2 hb;have hrec:=yKj m hn hr k (row+1) (u ||| 2 ^ t) d (by omega) b3 (by omega)
     have hbody:@yEH ⟨yO d⟩ m (row:Int) (u:Int) (m.length:Int) 0 0 (t:Int) s x y=some (.inr (-s,(z0m (x,y,()) (z0N (z0h ((m[row][t]?).getD G0) (detC (m.drop (row+1)) (preU u t++y4H m.length u (t+1)))).1 s).1).1.1,(z0m (x,y,()) (z0N (z0h ((m[row][t]?).getD G0) (detC (m.drop (row+1)) (preU u t++y4H m.length u (t+1)))).1 s).1).1.2.1)):=by
      unfold yEH;have htl:t < m[row].length:=by omega
      rw[bifF (yK (by omega)),e1,b1,hb,cond_false,y17,List.getElem?_eq_getElem hrow]
      simp only[bind_some];rw[y17,List.getElem?_eq_getElem htl];simp only[bind_some];rw[bifF (yK (by omega)),b2,yw (i:=(row:Int)+1) (by omega) (by omega)]
      show Option.bind (yO d (m,(row:Int)+1,((u ||| 2 ^ t:Nat):Int),())) _=_
      rw[show ((row:Int)+1)=((row+1:Nat):Int) by omega,hrec,q3]
      simp only[bind_some];rw[show i64.wrap (0 - s)=-s by rcases hs with rfl|rfl<;>decide]
      rfl
     simp only[hbody,bind_some];have:=ih (t+1) (-s) (z0m (x,y,()) (z0N (z0h ((m[row][t]?).getD G0) (detC (m.drop (row+1)) (preU u t++y4H m.length u (t+1)))).1 s).1).1.1 (z0m (x,y,()) (z0N (z0h ((m[row][t]?).getD G0) (detC (m.drop (row+1)) (preU u t++y4H m.length u (t+1)))).1 s).1).1.2.1 (by omega) (by omega)
     rw[q2]at this;rw[q1];exact this
  have:=key m.length 0 1 0 0 (by omega) (.inl rfl)
  refine (show _=_ from this).trans ?_
  rfl
theorem yLX(m:List (List Gau))(hn:m.length<=4)(hr:∀ r∈m,r.length=m.length):zK_M m=some (detC m (List.range m.length),()):=by
 unfold zK_M zK_m;have:=yKj m hn hr m.length 0 0 8 (by omega) (by decide) (by omega)
 rw[show ((0:Nat):Int)=0 from rfl]at this
 rw[this];have hc:yIu m.length 0=List.range m.length:=by
  unfold yIu;simp
 rw[hc];rfl
end Go.Tw
