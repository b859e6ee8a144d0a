import Derived.Test.YtemgjgkbgkeknaaGreatDoorPT
import Derived.Test.YtemgjgkbgkeknaaGreatDoorBAsked
set_option linter.all false
set_option maxRecDepth 100000
open Option (bind_some)
namespace Go.Tw
open Go.Vx Go.Vx.B Go.Proofs
def rdy(r:Rg)(a b:Str):Int:=match gAt (rGs r) a with
 |none=>10
 |some i=>if b≠y0j/\b≠y0p then 13 else mvs r ((rGs r).getD i g0) b
def ver(r:Rg)(a:Str):Int:=match tAt (rTs r) a with|none=>0|some i=>((rTs r).getD i t0).2.1
theorem yNt(r:Rg)(a b:Str)(h:(rGs r).length<=1000):yJk r a b=some (rdy r a b,()):=by
 unfold yJk yNF rdy;rw[y85 r a h];simp only[bind_some,yII];cases hg:gAt (rGs r) a with
 |none=>rw[bifT (y3 (show gI none < 0 by decide))]
 |some i =>
  obtain ⟨g,g1,g2,g3⟩:=y2e hg;rw[bifF (y5 (show ¬ gI (some i) < 0 from Int.not_lt.2 (Int.natCast_nonneg i)))]
  rw[show idx r.2.2.2.2.2.2.2.2.1 (gI (some i))=some g from (yx _ _).trans g1]
  simp only[g3,bind_some];by_cases h1:b=y0j\/b=y0p
  ·rw[y3 h1,if_neg (show ¬ (b≠y0j/\b≠y0p)from λ h=>h1.elim h.1 h.2),mvsR]
   rfl
  ·rw[y5 h1,if_pos (show (b≠y0j/\b≠y0p)from ⟨λ h=>h1 (.inl h),λ h=>h1 (.inr h)⟩)]
   rfl
theorem yJm(r:Rg)(a b:Str)(h:(rGs r).length<=1000)(K:Int->Option (Int×Unit))(hK:∀ n,K n=some (n,())) :
  ((zT_M r a).bind λ v1=>(y12 [(z0b (decide (v1.fst < 0)) 10).fst,(za b).fst]).bind λ v2=>bif v2.fst != 0 then some (v2.fst,())else (idx (rGs r) v1.fst).bind λ v3=>(zQ_M r v3 b).bind λ v4=>some (v4.fst,()))=some (rdy r a b,()):=by
 rw[yGN r a h];simp only[bind_some,y4t,y0X,yL7];unfold rdy;cases hg:gAt (rGs r) a with
 |none =>
  rw[y3 (show gI none < 0 by decide)]
  rfl
 |some i =>
  obtain ⟨g,g1,g2,g3⟩:=y2e hg;rw[y5 (show ¬ gI (some i) < 0 from Int.not_lt.2 (Int.natCast_nonneg i))]
  rw[show idx (rGs r) (gI (some i))=some g from (yx _ _).trans g1]
  simp only[g3,bind_some,mvsC];by_cases h1:b=y0j\/b=y0p
  ·rw[if_pos h1,if_neg (show ¬ (b≠y0j/\b≠y0p)from λ h=>h1.elim h.1 h.2)]
   rfl
  ·rw[if_neg h1,if_pos (show (b≠y0j/\b≠y0p)from ⟨λ h=>h1 (.inl h),λ h=>h1 (.inr h)⟩)]
   rfl
theorem yPI(l:List Ev)(hs:y7t l)(a b:Str):yMz l a b=some (if (rep l).1=0 then rdy (finR rFirst (rep l).2.2) a b else (rep l).1,()):=by
 unfold yMz yMf;rw[yD5 l hs];unfold repL;by_cases h:(rep l).1=0
 ·rw[if_pos h,if_pos h];simp only[bind_some];rw[bifF (show ((0:Int) != 0)=false from rfl)]
  exact yJm (finR rFirst (rep l).2.2) a b (y6K _ _ y40 (yGU h).1).small.g _ (λ n=>rfl)
 ·rw[if_neg h,if_neg h];simp only[bind_some];rw[bifT (show ((rep l).1 != 0)=true by simp[h])]
theorem yLR(l:List Ev)(hs:y7t l):yMQ l=some (if (rep l).1=0 then (adv (finR rFirst (rep l).2.2),0,())else ([],(rep l).1,())):=by
 unfold yMQ yLm;rw[yD5 l hs];unfold repL;by_cases h:(rep l).1=0
 ·rw[if_pos h,if_pos h];simp only[bind_some,advC];rfl
 ·rw[if_neg h,if_neg h];simp only[bind_some];rw[bifT (show ((rep l).1 != 0)=true by simp[h])]
theorem rver(r:Rg)(a:Str)(h:(rTs r).length<=1000):yJi r a=some (ver r a,()):=by
 unfold yJi ver;rw[bifT (y3 (show (rTs r).length < yF by unfold yF;omega))]
 have gen:∀ (q done:List Th),rTs r=done++q->ym (λ i__ e__ (s__:Unit)=>yBP a r i__ e__) (λ s__=>yH2 a r) (done.length:Int) q ()=some (match tAt q a with|none=>0|some i=>(q.getD i t0).2.1,()):=by
  intro q;induction q with
  |nil=>intro done _;rfl
  |cons x q ih =>
   intro done hd;rw[yk];unfold yBP tAt;rw[List.findIdx?_cons];by_cases hx:x.1=a
   ·rw[show (x.1 == a)=true from beq_iff_eq.2 hx,cond_true,show idx r.2.2.2.2.2.2.2.2.2.2.1 (done.length:Int)=some x from (show idx (rTs r) _=_ by rw[hd];exact yCg done x q _ rfl)]
    rfl
   ·rw[show (x.1 == a)=false from by rw[y0M];exact y5 hx,cond_false]
    simp only[bind_some];have:=ih (done++[x]) (by rw[hd];simp)
    simp only[List.length_append,List.length_cons,List.length_nil]at this;unfold yBP at this;refine this.trans ?_
    unfold tAt;cases q.findIdx? (λ g=>g.1 == a)with
    |none=>rfl
    |some i=>rfl
 exact gen (rTs r) [] rfl
theorem cver(r:Rg)(a:Str)(h:(rTs r).length<=1000):zL_M r a=some (ver r a,()):=by
 unfold zL_M zL_m ver;rw[yKv r a h];simp only[bind_some];cases hg:tAt (rTs r) a with
 |none=>rfl
 |some i =>
  obtain ⟨g,g1,g2,g3⟩:=tAt_some hg;rw[bifT (y3 (show gI (some i) >= 0 from Int.natCast_nonneg i))]
  rw[show idx r.2.2.2.2.2.2.2.2.2.2.1 (gI (some i))=some g from (yx _ _).trans g1]
  simp only[g3,bind_some]
def verE(l:List Ev)(a:Str):Int:=y07 (rep l).1 (bif isNm a then 0 else 8)
theorem yKh(l:List Ev)(hs:y7t l)(a:Str)(ha:a.length<=40):yLw l a=some (if verE l a=0 then ver (finR rFirst (rep l).2.2) a else 0,verE l a,()):=by
 unfold yLw yMh verE;rw[yD5 l hs,yEi a (by unfold yF;omega)]
 unfold repL;by_cases h:(rep l).1=0
 ·rw[if_pos h,h];simp only[bind_some,y4t,y0X];cases hn:isNm a with
  |false=>rfl
  |true =>
   show (zL_M (finR rFirst (rep l).2.2) a).bind _=_
   rw[cver _ _ (y6K _ _ y40 (yGU h).1).small.t];rfl
 ·rw[if_neg h];simp only[bind_some,y4t,y0X];rw[show ∀ x,y07 (rep l).1 x=(rep l).1 from λ x=>by unfold y07;simp[h],show ∀ x,y07 (rep l).1 x=(rep l).1 from λ x=>by unfold y07;simp[h],bifT (show ((rep l).1 != 0)=true by simp[h]),if_neg h]
theorem yMU(a b:Int):yNM [a,b]=some (y07 a b,()):=by
 unfold yNM yLr;rw[yGy [a,b] (show 2 < yF by decide),y02,y02,y4S,y2j]
 rfl
theorem yI0(l:List Ev)(x:Str×Str×Str×Unit):zp_M l x=some (true,()):=by
 unfold zp_M zp_m;obtain ⟨b,hb,hs⟩:=yKQ l 24 (by decide)
 rw[show zq_M l 24=some (b,())from hb]
 simp only[bind_some,y4d];cases b with
 |false=>rfl
 |true =>
  have hs:=hs rfl;have sh:=yI1 hs.2;simp only[Bool.not_true,cond_false];by_cases h1:(x.1.length:Int) > 40
  ·rw[bifT (y3 h1)]
  rw[bifF (y5 h1)];by_cases h2:(x.2.1.length:Int) > 40
  ·rw[bifT (y3 h2)]
  rw[bifF (y5 h2)];by_cases h3:(x.2.2.1.length:Int) > 40
  ·rw[bifT (y3 h3)]
  rw[bifF (y5 h3),yLR l sh,yPI l sh,yKh l sh _ (by omega),yMv,yDv]
  simp only[bind_some,yMU];have lw:∀ b:Bool,(z0k (!b) 8).1=bif b then 0 else 8:=λ b=>by cases b<;>rfl
  rw[lw];unfold repL verE yAZ yAb;by_cases h:(rep l).1=0
  ·have sm:=(y6K _ _ y40 (yGU h).1).small;simp only[h,if_true];rw[show ((0:Int) == 0)=true from rfl,cond_true,show yJk _ x.1 x.2.1=some (rdy (finR rFirst (rep l).2.2) x.1 x.2.1,())from yNt (finR rFirst (rep l).2.2) x.1 x.2.1 sm.g]
   simp only[bind_some];rw[show (z0P _).1=adv (finR rFirst (rep l).2.2)from congrArg Prod.fst (advR (finR rFirst (rep l).2.2))]
   cases hn:isNm x.2.2.1 with
   |false =>
    simp[y07,y4d]
   |true =>
    rw[show yJi _ x.2.2.1=some (ver (finR rFirst (rep l).2.2) x.2.2.1,())from rver (finR rFirst (rep l).2.2) x.2.2.1 sm.t]
    simp[y07,y4d]
  ·simp only[if_neg h];rw[show y07 (rep l).1 (bif isNm x.2.2.1 then 0 else 8)=(rep l).1 by unfold y07;simp[h]]
   rw[show ((rep l).1 == 0)=false by simp[h]]
   simp[h,y4d]
end Go.Tw
