import Derived.Test.YtpcnkpbpcebokaaGreatDoorPM1
set_option linter.all false
set_option maxRecDepth 100000
namespace Go.Tw
open Go.Vx Go.Vx.B Go.Proofs
theorem yNf(x:Int):IntKind.i64.wrap (IntKind.i64.wrap x)=IntKind.i64.wrap x:=y1s (yWF x).1 (yWF x).2
def G0:Gau:=(0,0,())
noncomputable def altC(r:List Gau)(D:List Nat->Gau):List Nat->List Nat->Int->Gau->Gau
 |_,[],_,acc=>acc
 |pre,k::rest,s,acc=>altC r D (pre++[k]) rest (-s) (z1E acc (z0i (z17 ((r[k]?).getD G0) (D (pre++rest))).1 s).1).1
noncomputable def detC:List (List Gau)->List Nat->Gau
 |[],_=>(1,0,())
 |r::rs,cols=>altC r (detC rs) [] cols 1 G0
def yJK(n u:Nat):List Nat:=(List.range n).filter λ k=>!Nat.testBit u k
def preU(u t:Nat):List Nat:=(List.range t).filter λ k=>!Nat.testBit u k
def y3y(n u t:Nat):List Nat:=((List.range n).drop t).filter λ k=>!Nat.testBit u k
theorem yNm:((List.range 16).all λ u=>(List.range 4).all λ t =>
  ((y1q IntKind.i64 BinOp.and ((u:Int).fdiv ((2:Int) ^ min t IntKind.i64.bits)) 1 == 1) == Nat.testBit u t) &&
  (y1q IntKind.i64 BinOp.or (u:Int) (IntKind.i64.wrap (1 * (2:Int) ^ min t IntKind.i64.bits)) == ((u ||| 2 ^ t:Nat):Int)) && decide (u ||| 2 ^ t < 16))=true:=by kernel_rfl
theorem yRJ{u t:Nat}(hu:u < 16)(ht:t < 4):(y1q IntKind.i64 BinOp.and ((u:Int).fdiv ((2:Int) ^ min t IntKind.i64.bits)) 1 == 1)=Nat.testBit u t /\
  y1q IntKind.i64 BinOp.or (u:Int) (IntKind.i64.wrap (1 * (2:Int) ^ min t IntKind.i64.bits))=((u ||| 2 ^ t:Nat):Int)/\u ||| 2 ^ t < 16:=by
 have h:=List.all_eq_true.1 (List.all_eq_true.1 yNm u (List.mem_range.2 hu)) t (List.mem_range.2 ht);rw[Bool.and_eq_true,Bool.and_eq_true]at h;exact ⟨by simpa using h.1.1,by simpa using h.1.2,of_decide_eq_true h.2⟩
theorem yNF:((List.range 5).all λ n=>(List.range 16).all λ u=>(List.range n).all λ t =>
  if Nat.testBit u t then y3y n u t == y3y n u (t+1) && preU u (t+1) == preU u t
  else y3y n u t == t::y3y n u (t+1) && preU u (t+1) == preU u t++[t] && yJK n (u ||| 2 ^ t) == preU u t++y3y n u (t+1))=true:=by kernel_rfl
theorem yTC{n u t:Nat}(hn:n<=4)(hu:u < 16)(ht:t < n) :
  (Nat.testBit u t=true->y3y n u t=y3y n u (t+1)/\preU u (t+1)=preU u t) /\
  (Nat.testBit u t=false->y3y n u t=t::y3y n u (t+1)/\preU u (t+1)=preU u t++[t]/\yJK n (u ||| 2 ^ t)=preU u t++y3y n u (t+1)):=by
 have h:=List.all_eq_true.1 (List.all_eq_true.1 (List.all_eq_true.1 yNF n (List.mem_range.2 (by omega))) u (List.mem_range.2 hu)) t (List.mem_range.2 ht)
 constructor
 ·intro hb;rw[if_pos hb,Bool.and_eq_true]at h;exact ⟨by simpa using h.1,by simpa using h.2⟩
 ·intro hb;rw[if_neg (by rw[hb];simp),Bool.and_eq_true,Bool.and_eq_true]at h
  exact ⟨by simpa using h.1.1,by simpa using h.1.2,by simpa using h.2⟩
theorem yIg(m:List (List Gau))(hn:m.length<=4)(hr:∀ r∈m,r.length=m.length):∀ (k row u d:Nat),row+k=m.length->u < 16->k < d ->
  yO d (m,(row:Int),(u:Int),())=some (detC (m.drop row) (yJK m.length u),())
 |0,row,u,d,hk,hu,hd=>by
  obtain ⟨d,rfl⟩:∃ e,d=e+1:=⟨d - 1,by omega⟩
  show @zT_M ⟨yO d⟩ m (row:Int) (u:Int)=_
  unfold zT_M;rw[bifT (by simp;omega),List.drop_eq_nil_of_le (by omega)]
  rfl
 |k+1,row,u,d,hk,hu,hd=>by
  obtain ⟨d,rfl⟩:∃ e,d=e+1:=⟨d - 1,by omega⟩
  have hrow:row < m.length:=by omega
  have hd2:m.drop row=m[row]::m.drop (row+1):=(List.getElem_cons_drop (h:=hrow)).symm;have hlen:m[row].length=m.length:=hr _ (List.getElem_mem hrow);show @zT_M ⟨yO d⟩ m (row:Int) (u:Int)=_
  unfold zT_M;rw[bifF (by simp;omega),bifT (y7 (by omega)),show ((m.length:Int) - 0).toNat=m.length by omega,hd2]
  have key:∀ (j t:Nat) (s:Int) (x y:Int),t+j=m.length->(s=1\/s=-1) ->
    y06 (λ i__ s__=>@yD5 ⟨yO d⟩ m (row:Int) (u:Int) (m.length:Int) 0 0 i__ s__.1 s__.2.1 s__.2.2) (λ s__=>yLx m (row:Int) (u:Int) (m.length:Int) 0 0 s__.1 s__.2.1 s__.2.2) j (t:Int) (s,x,y) =
     some (altC m[row] (detC (m.drop (row+1))) (preU u t) (y3y m.length u t) s (x,y,()),()):=by
   intro j;induction j with
   |zero =>
    intro t s x y ht _;have:y3y m.length u t=[]:=by unfold y3y;rw[List.drop_eq_nil_of_le (by simp;omega)];rfl
    rw[this];rfl
   |succ j ih =>
    intro t s x y ht hs;have htn:t < m.length:=by omega
    obtain ⟨c1,c2⟩:=yTC (u:=u) hn hu htn;obtain ⟨b1,b2,b3⟩:=yRJ (u:=u) (t:=t) hu (by omega)
    rw[y1W];have e1:((t:Int).toNat)=t:=Int.toNat_natCast t;cases hb:Nat.testBit u t with
    |true =>
     obtain ⟨q1,q2⟩:=c1 hb;have hbody:@yD5 ⟨yO d⟩ m (row:Int) (u:Int) (m.length:Int) 0 0 (t:Int) s x y=some (.inr (s,x,y)):=by
      unfold yD5;rw[bifF (yF (by omega)),e1,b1,hb]
      rfl
     simp only[hbody,Option.bind_some];have:=ih (t+1) s x y (by omega) hs
     rw[q2,<- q1]at this;exact this
    |false =>
     obtain ⟨q1,q2,q3⟩:=c2 hb;have hrec:=yIg m hn hr k (row+1) (u ||| 2 ^ t) d (by omega) b3 (by omega)
     have hbody:@yD5 ⟨yO d⟩ m (row:Int) (u:Int) (m.length:Int) 0 0 (t:Int) s x y=some (.inr (-s,(z1E (x,y,()) (z0i (z17 ((m[row][t]?).getD G0) (detC (m.drop (row+1)) (preU u t++y3y m.length u (t+1)))).1 s).1).1.1,(z1E (x,y,()) (z0i (z17 ((m[row][t]?).getD G0) (detC (m.drop (row+1)) (preU u t++y3y m.length u (t+1)))).1 s).1).1.2.1)):=by
      unfold yD5;have htl:t < m[row].length:=by omega
      rw[bifF (yF (by omega)),e1,b1,hb,cond_false,y0X,List.getElem?_eq_getElem hrow]
      simp only[Option.bind_some];rw[y0X,List.getElem?_eq_getElem htl];simp only[Option.bind_some];rw[bifF (yF (by omega)),b2,y1s (i:=(row:Int)+1) (by omega) (by omega)]
      show Option.bind (yO d (m,(row:Int)+1,((u ||| 2 ^ t:Nat):Int),())) _=_
      rw[show ((row:Int)+1)=((row+1:Nat):Int) by omega,hrec,q3]
      simp only[Option.bind_some];rw[show IntKind.i64.wrap (0 - s)=-s by rcases hs with rfl|rfl<;>decide]
      rfl
     simp only[hbody,Option.bind_some];have:=ih (t+1) (-s) (z1E (x,y,()) (z0i (z17 ((m[row][t]?).getD G0) (detC (m.drop (row+1)) (preU u t++y3y m.length u (t+1)))).1 s).1).1.1 (z1E (x,y,()) (z0i (z17 ((m[row][t]?).getD G0) (detC (m.drop (row+1)) (preU u t++y3y m.length u (t+1)))).1 s).1).1.2.1 (by omega) (by omega)
     rw[q2]at this;rw[q1];exact this
  have:=key m.length 0 1 0 0 (by omega) (.inl rfl)
  refine (show _=_ from this).trans ?_
  rfl
theorem yIP(m:List (List Gau))(hn:m.length<=4)(hr:∀ r∈m,r.length=m.length):zK_M m=some (detC m (List.range m.length),()):=by
 unfold zK_M zK_m;have:=yIg m hn hr m.length 0 0 8 (by omega) (by decide) (by omega)
 rw[show ((0:Nat):Int)=0 from rfl]at this
 rw[this];have hc:yJK m.length 0=List.range m.length:=by
  unfold yJK;simp
 rw[hc];rfl
def selC(cols:List Nat)(r:List Gau):List Gau:=cols.map λ k=>(r[k]?).getD G0
theorem yH5{z:Gau}(h0:∃ a b,z=(z17 a b).1):(z0i z 1).1=z/\(z0i z (-1)).1=(IntKind.i64.wrap (0 - z.1),IntKind.i64.wrap (0 - z.2.1),()):=by
 obtain ⟨a,b,rfl⟩:=h0;unfold z0i z17;simp only[Int.one_mul,yNf,Int.neg_mul,Int.zero_sub];exact ⟨trivial,trivial⟩
theorem yKD:∀ (rows:List (List Gau)) (cols:List Nat) (d:Nat),rows.length=cols.length->rows.length<=4->rows.length < d->y0D d (rows.map (selC cols),())=some (detC rows cols,())
 |[],cols,d,hl,_,hd=>by
  obtain ⟨d,rfl⟩:∃ e,d=e+1:=⟨d - 1,by simp at hd;omega⟩
  rfl
 |r::rs,cols,d,hl,h4,hd=>by
  obtain ⟨d,rfl⟩:∃ e,d=e+1:=⟨d - 1,by omega⟩
  have hmem:memMax=68719476736:=rfl;simp only[List.length_cons]at hl h4 hd;generalize hm:(r::rs).map (selC cols)=m;have hml:m.length=rs.length+1:=by rw[<- hm];simp
  have hm0:m[0]?=some (selC cols r):=by rw[<- hm];rfl
  have hmi:∀ i,i < rs.length->m[i+1]?=some (selC cols ((rs[i]?).getD [])):=λ i hi=>by
   rw[<- hm];simp[List.getElem?_map,List.getElem?_eq_getElem hi]
  have hsl:∀ q:List Gau,(selC cols q).length=cols.length:=λ q=>by unfold selC;simp
  show @yGk ⟨y0D d⟩ m=_
  unfold yGk;rw[bifF (show ((m.length:Int) == 0)=false from by rw[beq_eq_false_iff_ne];omega),bifT (y7 (by omega)),show ((m.length:Int) - 0).toNat=cols.length by omega]
  have col:∀ (pre:List Nat) (c:Nat) (rest:List Nat) (x y:Int),cols=pre++c::rest ->
    @y97 ⟨y0D d⟩ m 0 0 (pre.length:Int) x y=some (.inr ((z1E (x,y,()) (z0i (z17 ((r[c]?).getD G0) (detC rs (pre++rest))).1 (if pre.length % 2=1 then -1 else 1)).1).1.1,(z1E (x,y,()) (z0i (z17 ((r[c]?).getD G0) (detC rs (pre++rest))).1 (if pre.length % 2=1 then -1 else 1)).1).1.2.1)):=by
   intro pre c rest x y hc;have hcl:cols.length=pre.length+rest.length+1:=by rw[hc];simp;omega
   have hdrop:∀ q:List Gau,List.take pre.length (selC cols q)++List.drop (pre.length+1) (selC cols q)=selC (pre++rest) q:=λ q=>by
    unfold selC;rw[<- List.map_take,<- List.map_drop,<- List.map_append,hc];congr 1
    rw[List.take_left' rfl,show pre++c::rest=(pre++[c])++rest by simp,List.drop_left' (by simp)]
   unfold y97;rw[bifT (y7 (by omega)),show ((m.length:Int) - 1).toNat=rs.length by omega]
   have hw:IntKind.i64.wrap ((pre.length:Int)+1)=((pre.length+1:Nat):Int):=by rw[y1s (by omega) (by omega)];omega
   rw[y5b (λ i=>selC (pre++rest) ((rs[(i - 1).toNat]?).getD [])) rs.length 1 [] (by simp;omega) λ k s hk hs=>by
    unfold yEs;rw[show (1:Int)+(k:Int)=((k+1:Nat):Int) by omega,y0X,hmi k hk]
    simp only[Option.bind_some];rw[bifT (by rw[hsl];simp;omega),bifT (y7 (by simp[hsl];omega)),hw,bifT (by rw[hsl];simp;omega),Int.toNat_natCast,Int.toNat_natCast,bifT (y7 (by simp[hsl];omega)),bifT (y7 hs),hdrop,show (((k+1:Nat):Int) - 1).toNat=k by omega]]
   have hmin:(List.range rs.length).map (λ k:Nat=>selC (pre++rest) ((rs[((1:Int)+(k:Int) - 1).toNat]?).getD []))=rs.map (selC (pre++rest)):=by
    rw[<- y53 rs (selC (pre++rest)) []];refine List.map_congr_left λ k _=>?_
    rw[show ((1:Int)+(k:Int) - 1).toNat=k by omega]
   rw[List.nil_append,hmin];unfold yG9;have h0:idx m (0:Int)=some (selC cols r):=by
    have:=y0X m 0;rw[hm0]at this;exact this
   have hcc:idx (selC cols r) (pre.length:Int)=some ((r[c]?).getD G0):=by
    rw[y0X];unfold selC;rw[hc];simp
   rw[h0];simp only[Option.bind_some];rw[hcc];simp only[Option.bind_some];show Option.bind (y0D d (rs.map (selC (pre++rest)),())) _=_
   rw[yKD rs (pre++rest) d (by simp;omega) (by omega) (by omega)]
   simp only[Option.bind_some];obtain ⟨s1,s2⟩:=yH5 ⟨(r[c]?).getD G0,detC rs (pre++rest),rfl⟩;have et:(pre.length:Int).tmod 2=((pre.length % 2:Nat):Int):=(Int.ofNat_tmod pre.length 2).symm;by_cases hp:pre.length % 2=1
   ·rw[bifT (by rw[et,hp];rfl),if_pos hp,s2]
    rfl
   ·rw[bifF (by rw[et,show pre.length % 2=0 by omega];rfl),if_neg hp,s1]
    rfl
  have key:∀ (rest pre:List Nat) (x y:Int),cols=pre++rest ->
    y06 (λ i__ s__=>@y97 ⟨y0D d⟩ m 0 0 i__ s__.1 s__.2) (λ s__=>yFb m 0 0 s__.1 s__.2) rest.length (pre.length:Int) (x,y)=some (altC r (detC rs) pre rest (if pre.length % 2=1 then -1 else 1) (x,y,()),()):=by
   intro rest;induction rest with
   |nil=>intro pre x y _;rfl
   |cons c rest ih =>
    intro pre x y hc;rw[List.length_cons,y1W];simp only[col pre c rest x y hc,Option.bind_some];have:=ih (pre++[c]) (z1E (x,y,()) (z0i (z17 ((r[c]?).getD G0) (detC rs (pre++rest))).1 (if pre.length % 2=1 then -1 else 1)).1).1.1 (z1E (x,y,()) (z0i (z17 ((r[c]?).getD G0) (detC rs (pre++rest))).1 (if pre.length % 2=1 then -1 else 1)).1).1.2.1 (by rw[hc];simp)
    have hl2:(pre++[c]).length=pre.length+1:=by simp
    rw[hl2]at this;have hsg:(if (pre.length+1) % 2=1 then (-1:Int)else 1)=-(if pre.length % 2=1 then (-1:Int)else 1):=by
     by_cases hp:pre.length % 2=1
     ·rw[if_pos hp,if_neg (by omega)];rfl
     ·rw[if_neg hp,if_pos (by omega)]
    rw[hsg]at this;exact this
  have:=key cols [] 0 0 rfl;refine (show _=_ from this).trans ?_
  rfl
end Go.Tw
