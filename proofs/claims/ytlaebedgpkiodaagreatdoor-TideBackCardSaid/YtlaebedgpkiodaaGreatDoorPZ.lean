import Derived.Test.YtlaebedgpkiodaaGreatDoorPY
import Derived.Test.YtlaebedgpkiodaaGreatDoorXA
import Derived.Test.YtlaebedgpkiodaaGreatDoorPB
import Derived.Test.YtlaebedgpkiodaaGreatDoorPA
set_option linter.all false
open List (length_cons mem_cons_of_mem mem_cons_self)
open Option (bind_some)
open Bool (false_eq_true)
open Go.IntKind (i64)
section
set_option maxRecDepth 1000000
namespace Go.Tw
open Go.Vx Go.Vx.B Go.S Go.SA Go.Lib
abbrev PO:=(Tid×Int×Int×Unit)⊕(Str×Int×Int×List Con×List Gau)
theorem yAb{α:Type}(w:Str)(hl:w.length<=281474976710656)(wrong:Bool)(K:Bool->(Int×Bool×Unit)->Option α) :
  (Option.bind (yGK w) λ v=>bif wrong then K true v else (bif !v.2.1 then K true v else (Option.bind (y99 v.1) λ u=>(bif !u.1 == w then K true v else K (decide (((trimPrefix w [45]).length:Int) > 15)) v))))=K (wrong || y7C w) (atv w,atk w,()):=by
 rw[yB8 w hl,bind_some];cases wrong with
 |true=>rfl
 |false =>
  simp only[cond_false,Bool.false_or];unfold y7C;cases atk w with
  |false=>rfl
  |true =>
   simp only[Bool.not_true,cond_false,Bool.false_or];rw[y64 _ (yIF w),bind_some];cases itoa (atv w) == w with
   |false=>rfl
   |true =>
    simp only[Bool.not_true,cond_false,Bool.false_or];congr 1
    by_cases h:15 < (trimPrefix w [45]).length
    ·rw[dT h,dT (by omega)]
    ·rw[dF h,dF (by omega)]
theorem y36{α:Type}(ws:List Str)(wrong:Bool)(K:List Str->Bool->Str->Option α) :
  (bif (ws.length:Int) == (0:Int)then K ws true []else (Option.bind (idx ws (0:Int)) λ w=>(bif decide ((0:Int)<=(1:Int)) && decide ((1:Int)<=(ws.length:Int))then (bif wrong then K (List.drop (Int.toNat (1:Int)) ws) true w else K (List.drop (Int.toNat (1:Int)) ws) (w == []) w)else none))) =
   (match ws with|[]=>K [] true []|w::r=>K r (wrong || w == []) w):=by
 cases ws with
 |nil=>rfl
 |cons w r =>
  rw[bF (by rw[beq_eq_false_iff_ne];simp only[length_cons];omega),show idx (w::r) (0:Int)=some w from y9V (w::r) 0,bind_some,
   bT (by rw[dT (show (0:Int)<=1 by omega),dT (by simp only[length_cons];omega)];rfl)]
  cases wrong<;>rfl
def outP(n:Int)(rest:Str)(n' b1:Int)(o:Option (List Con×List Gau)):Option PO:=some (match o with|none=>.inl (Z0,n,26,())|some c=>.inr (rest,n',b1,c.1,c.2))
section
variable (n b0 b1:Int) (c2:List Con) (c3:List Gau) (v1:Str×Str×Bool×Unit) (nm:Str) (h2:c2.length<=5000) (h3:c3.length<=5000) (a b x:Int×Bool×Unit)
theorem memT{k:Nat}(h:k<=5000):decide (k+1<=memMax)=true:=by
 have:(5000:Nat)+1<=memMax:=by decide
 exact dT (by omega)
include h2 h3
theorem p170(ws:List Str)(wr:Bool)(w:Str)(hl:w.length<=281474976710656) :
  y3y n b0 b1 c2 c3 v1 nm a b x ws wr w=outP n v1.2.1 (i64.wrap (n+1)) b1 (if wr then none else match ws with|[]=>(sgn 15 w).map λ y=>(c2++[(nm,a.1,b.1,())],c3++[(x.1,y,())])|_=>none):=by
 unfold y3y;rw[yB8 w hl,bind_some];simp only[memT h2,memT h3,cond_true];cases wr with
 |true=>rfl
 |false =>
  simp only[cond_false,false_eq_true,if_false];have hs:=y4P w;unfold y7C at hs;cases hk:atk w with
  |false =>
   rw[hk]at hs;simp only[Bool.not_false,Bool.true_or,if_true]at hs;rw[hs];simp only[Bool.not_false,cond_true];cases ws<;>rfl
  |true =>
   rw[hk]at hs;simp only[Bool.not_true,Bool.false_or]at hs;simp only[Bool.not_true,cond_false];rw[y64 _ (yIF w),bind_some];cases hi:itoa (atv w) == w with
   |false =>
    rw[hi]at hs;simp only[Bool.not_false,Bool.true_or,if_true]at hs;rw[hs];simp only[hi,Bool.not_false,cond_true];cases ws<;>rfl
   |true =>
    rw[hi]at hs;simp only[Bool.not_true,Bool.false_or,decide_eq_true_eq]at hs;simp only[hi,Bool.not_true,cond_false];by_cases hlen:15 < (trimPrefix w [45]).length
    ·rw[if_pos hlen]at hs;rw[hs,bT (dT (by omega))]
     cases ws<;>rfl
    ·rw[if_neg hlen]at hs;rw[hs,bF (dF (by omega))]
     cases ws with
     |nil=>rfl
     |cons y ys=>rw[bT (dT (by simp only[length_cons];omega))];rfl
theorem p179(wr:Bool)(ws:List Str)(hl:∀ w∈ws,w.length<=281474976710656) :
  y2q n b0 b1 c2 c3 v1 nm a b wr ws x=outP n v1.2.1 (i64.wrap (n+1)) b1 (if wr then none else match ws with|[w]=>(sgn 15 w).map λ y=>(c2++[(nm,a.1,b.1,())],c3++[(x.1,y,())])|_=>none):=by
 unfold y2q;rw[y36 ws wr (λ ws wr w=>y3y n b0 b1 c2 c3 v1 nm a b x ws wr w)]
 cases ws with
 |nil=>dsimp only;rw[p170 n b0 b1 c2 c3 v1 nm h2 h3 a b x [] true [] (by decide)];cases wr<;>rfl
 |cons w r =>
  dsimp only;rw[p170 n b0 b1 c2 c3 v1 nm h2 h3 a b x r _ w (hl w (mem_cons_self ..))];cases wr with
  |true=>rfl
  |false =>
   simp only[Bool.false_or,false_eq_true,if_false];cases hw:w == []with
   |true=>rw[beq_iff_eq]at hw;subst hw;cases r<;>rfl
   |false=>cases r<;>rfl
theorem p139(ws:List Str)(wr:Bool)(w:Str)(hw:w.length<=281474976710656)(hl:∀ w∈ws,w.length<=281474976710656) :
  y3i n b0 b1 c2 c3 v1 nm a b ws wr w=outP n v1.2.1 (i64.wrap (n+1)) b1 (if wr then none else (sgn 15 w).bind λ x=>match ws with|[w]=>(sgn 15 w).map λ y=>(c2++[(nm,a.1,b.1,())],c3++[(x,y,())])|_=>none):=by
 unfold y3i;rw[yAb w hw wr (λ wr v=>y2q n b0 b1 c2 c3 v1 nm a b wr ws v),p179 n b0 b1 c2 c3 v1 nm h2 h3 a b _ _ ws hl,y4P]
 cases wr with
 |true=>rfl
 |false=>cases y7C w<;>rfl
theorem p180(wr:Bool)(ws:List Str)(hl:∀ w∈ws,w.length<=281474976710656) :
  y2p n b0 b1 c2 c3 v1 nm a wr ws b=outP n v1.2.1 (i64.wrap (n+1)) b1 (if wr then none else match ws with|[w1,w]=>(sgn 15 w1).bind λ x=>(sgn 15 w).map λ y=>(c2++[(nm,a.1,b.1,())],c3++[(x,y,())])|_=>none):=by
 unfold y2p;rw[y36 ws wr (λ ws wr w=>y3i n b0 b1 c2 c3 v1 nm a b ws wr w)]
 cases ws with
 |nil=>dsimp only;rw[p139 n b0 b1 c2 c3 v1 nm h2 h3 a b [] true [] (by decide) (λ _ h=>by cases h)];cases wr<;>rfl
 |cons w r =>
  dsimp only;rw[p139 n b0 b1 c2 c3 v1 nm h2 h3 a b r _ w (hl w (mem_cons_self ..)) (λ u hu=>hl u (mem_cons_of_mem _ hu))]
  cases wr with
  |true=>rfl
  |false =>
   simp only[Bool.false_or,false_eq_true,if_false];have e:∀ (f:Int->Option (List Con×List Gau)),(if (w == [])=true then none else (sgn 15 w).bind f)=(sgn 15 w).bind f:=λ f=>by
    cases hw:w == []with
    |true=>rw[beq_iff_eq]at hw;subst hw;rfl
    |false=>rfl
   rw[e];match r with
   |[]=>cases sgn 15 w<;>rfl
   |[_]=>rfl
   |_::_::_=>cases sgn 15 w<;>rfl
theorem p108(ws:List Str)(wr:Bool)(w:Str)(hw:w.length<=281474976710656)(hl:∀ w∈ws,w.length<=281474976710656) :
  y3m n b0 b1 c2 c3 v1 nm a ws wr w=outP n v1.2.1 (i64.wrap (n+1)) b1 (if wr then none else (sgn 15 w).bind λ b=>match ws with|[w1,w]=>(sgn 15 w1).bind λ x=>(sgn 15 w).map λ y=>(c2++[(nm,a.1,b,())],c3++[(x,y,())])|_=>none):=by
 unfold y3m;rw[yAb w hw wr (λ wr v=>y2p n b0 b1 c2 c3 v1 nm a wr ws v),p180 n b0 b1 c2 c3 v1 nm h2 h3 a _ _ ws hl,y4P]
 cases wr with
 |true=>rfl
 |false=>cases y7C w<;>rfl
theorem p181(wr:Bool)(ws:List Str)(hl:∀ w∈ws,w.length<=281474976710656) :
  y2z n b0 b1 c2 c3 v1 nm wr ws a=outP n v1.2.1 (i64.wrap (n+1)) b1 (if wr then none else match ws with|[w2,w1,w]=>(sgn 15 w2).bind λ b=>(sgn 15 w1).bind λ x=>(sgn 15 w).map λ y=>(c2++[(nm,a.1,b,())],c3++[(x,y,())])|_=>none):=by
 unfold y2z;rw[y36 ws wr (λ ws wr w=>y3m n b0 b1 c2 c3 v1 nm a ws wr w)]
 cases ws with
 |nil=>dsimp only;rw[p108 n b0 b1 c2 c3 v1 nm h2 h3 a [] true [] (by decide) (λ _ h=>by cases h)];cases wr<;>rfl
 |cons w r =>
  dsimp only;rw[p108 n b0 b1 c2 c3 v1 nm h2 h3 a r _ w (hl w (mem_cons_self ..)) (λ u hu=>hl u (mem_cons_of_mem _ hu))]
  cases wr with
  |true=>rfl
  |false =>
   simp only[Bool.false_or,false_eq_true,if_false];have e:∀ (f:Int->Option (List Con×List Gau)),(if (w == [])=true then none else (sgn 15 w).bind f)=(sgn 15 w).bind f:=λ f=>by
    cases hw:w == []with
    |true=>rw[beq_iff_eq]at hw;subst hw;rfl
    |false=>rfl
   rw[e];match r with
   |[]=>cases sgn 15 w<;>rfl
   |[_]=>cases sgn 15 w<;>rfl
   |[_,_]=>rfl
   |_::_::_::_=>cases sgn 15 w<;>rfl
theorem p77(ws:List Str)(wr:Bool)(w:Str)(hw:w.length<=281474976710656)(hl:∀ w∈ws,w.length<=281474976710656) :
  y5P n b0 b1 c2 c3 v1 nm ws wr w=outP n v1.2.1 (i64.wrap (n+1)) b1 (if wr then none else (sgn 15 w).bind λ a=>match ws with|[w2,w1,w]=>(sgn 15 w2).bind λ b=>(sgn 15 w1).bind λ x=>(sgn 15 w).map λ y=>(c2++[(nm,a,b,())],c3++[(x,y,())])|_=>none):=by
 unfold y5P;rw[yAb w hw wr (λ wr v=>y2z n b0 b1 c2 c3 v1 nm wr ws v),p181 n b0 b1 c2 c3 v1 nm h2 h3 _ _ ws hl,y4P]
 cases wr with
 |true=>rfl
 |false=>cases y7C w<;>rfl
theorem p182(ws:List Str)(wr:Bool)(hl:∀ w∈ws,w.length<=281474976710656) :
  y3Y n b0 b1 c2 c3 v1 ws wr nm=outP n v1.2.1 (i64.wrap (n+1)) b1 (if wr then none else match ws with|[w3,w2,w1,w]=>(sgn 15 w3).bind λ a=>(sgn 15 w2).bind λ b=>(sgn 15 w1).bind λ x=>(sgn 15 w).map λ y=>(c2++[(nm,a,b,())],c3++[(x,y,())])|_=>none):=by
 unfold y3Y;rw[y36 ws wr (λ ws wr w=>y5P n b0 b1 c2 c3 v1 nm ws wr w)]
 cases ws with
 |nil=>dsimp only;rw[p77 n b0 b1 c2 c3 v1 nm h2 h3 [] true [] (by decide) (λ _ h=>by cases h)];cases wr<;>rfl
 |cons w r =>
  dsimp only;rw[p77 n b0 b1 c2 c3 v1 nm h2 h3 r _ w (hl w (mem_cons_self ..)) (λ u hu=>hl u (mem_cons_of_mem _ hu))]
  cases wr with
  |true=>rfl
  |false =>
   simp only[Bool.false_or,false_eq_true,if_false];have e:∀ (f:Int->Option (List Con×List Gau)),(if (w == [])=true then none else (sgn 15 w).bind f)=(sgn 15 w).bind f:=λ f=>by
    cases hw:w == []with
    |true=>rw[beq_iff_eq]at hw;subst hw;rfl
    |false=>rfl
   rw[e];match r with
   |[]=>cases sgn 15 w<;>rfl
   |[_]=>cases sgn 15 w<;>rfl
   |[_,_]=>cases sgn 15 w<;>rfl
   |[_,_,_]=>rfl
   |_::_::_::_::_=>cases sgn 15 w<;>rfl
theorem pC(v3:Str×Nat×Unit)(hv:v3.2.1=120)(ws:List Str)(hl:∀ w∈ws,w.length<=281474976710656) :
  y3t n b0 b1 c2 c3 v1 v3 ws false=outP n v1.2.1 (i64.wrap (n+1)) b1 (rdC (c2,c3) (CONS::ws)):=by
 unfold y3t;rw[bF (by show (v3.2.1 == (117:Nat)+1)=false;rw[hv];rfl),bT (by show (v3.2.1 == (119:Nat)+1)=true;rw[hv];rfl),y36 ws false (λ ws wr w=>y3Y n b0 b1 c2 c3 v1 ws wr w)]
 cases ws with
 |nil=>dsimp only;rw[p182 n b0 b1 c2 c3 v1 [] h2 h3 [] true (λ _ h=>by cases h)];rfl
 |cons w r =>
  dsimp only;rw[p182 n b0 b1 c2 c3 v1 w h2 h3 r _ (λ u hu=>hl u (mem_cons_of_mem _ hu))]
  congr 1
  simp only[Bool.false_or];match r with
  |[]=>cases w == []<;>rfl
  |[_]=>cases w == []<;>rfl
  |[_,_]=>cases w == []<;>rfl
  |[_,_,_]=>cases w == []<;>rfl
  |_::_::_::_::_::_=>cases w == []<;>rfl
  |[w3,w2,w1,w0] =>
   unfold rdC;dsimp only;cases hw:w == []with
   |true=>rw[beq_iff_eq]at hw;subst hw;rfl
   |false=>rw[beq_eq_false_iff_ne]at hw;rw[if_pos (show CONS=CONS/\w≠[]from ⟨rfl,hw⟩)];rfl
omit h2 h3 in
theorem p37(ws:List Str)(wr:Bool)(w:Str)(hl:w.length<=281474976710656) :
  y5Z n b0 c2 c3 v1 ws wr w=some (match (if wr then none else match ws with|[]=>sgn 15 w|_=>none)with|none=>.inl (Z0,n,26,())|some d=>.inr (v1.2.1,i64.wrap (n+1),d,c2,c3)):=by
 unfold y5Z;rw[yB8 w hl,bind_some];cases wr with
 |true=>rfl
 |false =>
  simp only[cond_false,false_eq_true,if_false];have hs:=y4P w;unfold y7C at hs;cases hk:atk w with
  |false =>
   rw[hk]at hs;simp only[Bool.not_false,Bool.true_or,if_true]at hs;rw[hs];simp only[Bool.not_false,cond_true];cases ws<;>rfl
  |true =>
   rw[hk]at hs;simp only[Bool.not_true,Bool.false_or]at hs;simp only[Bool.not_true,cond_false];rw[y64 _ (yIF w),bind_some];cases hi:itoa (atv w) == w with
   |false =>
    rw[hi]at hs;simp only[Bool.not_false,Bool.true_or,if_true]at hs;rw[hs];simp only[hi,Bool.not_false,cond_true];cases ws<;>rfl
   |true =>
    rw[hi]at hs;simp only[Bool.not_true,Bool.false_or,decide_eq_true_eq]at hs;simp only[hi,Bool.not_true,cond_false];by_cases hlen:15 < (trimPrefix w [45]).length
    ·rw[if_pos hlen]at hs;rw[hs,bT (dT (by omega))]
     cases ws<;>rfl
    ·rw[if_neg hlen]at hs;rw[hs,bF (dF (by omega))]
     cases ws with
     |nil=>rfl
     |cons y ys=>rw[bT (dT (by simp only[length_cons];omega))];rfl
omit h2 h3 in
theorem pH(v3:Str×Nat×Unit)(hv:v3.2.1=118)(ws:List Str)(hl:∀ w∈ws,w.length<=281474976710656) :
  y3t n b0 b1 c2 c3 v1 v3 ws false=some (match rdH (TIDE::ws)with|none=>.inl (Z0,n,26,())|some d=>.inr (v1.2.1,i64.wrap (n+1),d,c2,c3)):=by
 unfold y3t;rw[bT (by show (v3.2.1 == (117:Nat)+1)=true;rw[hv];rfl),y36 ws false (λ ws wr w=>y5Z n b0 c2 c3 v1 ws wr w)]
 cases ws with
 |nil=>dsimp only;rw[p37 n b0 c2 c3 v1 [] true [] (by decide)];rfl
 |cons w r =>
  dsimp only;rw[p37 n b0 c2 c3 v1 r _ w (hl w (mem_cons_self ..))];congr 1
  simp only[Bool.false_or];cases r with
  |nil =>
   unfold rdH;dsimp only;rw[if_pos rfl];cases hw:w == []with
   |true=>rw[beq_iff_eq]at hw;subst hw;rfl
   |false=>rfl
  |cons y ys=>cases w == []<;>rfl
end
theorem yHS(s:Str)(hs:s.length < 4294967281):∃ l R,yZ 10 s=l::R/\cutM s [10]=some (l,y08 10 R,!R.isEmpty,()):=by
 unfold cutM;rw[bT (dT hs)];unfold Lib.cut;rcases S.index_one s 10 with ⟨h1,h2⟩|⟨x,t,h1,h2,h3⟩
 ·refine ⟨s,[],y2g 10 s h2,?_⟩;rw[h1];rfl
 ·refine ⟨x,yZ 10 t,by rw[h1,y2M 10 x t h2],?_⟩
  rw[h3,if_pos (by omega)]
  have e1:(x.length:Int).toNat=x.length:=by omega
  rw[e1,h1,List.take_left,y0h];have e2:(x++10::t).drop (x.length+[(10:UInt8)].length)=t:=by
   rw[<- List.drop_drop,List.drop_left];rfl
  have e3:(yZ 10 t).isEmpty=false:=by
   have:=y1e 10 t;cases h:yZ 10 t with
   |nil=>exact absurd h this
   |cons a b=>rfl
  rw[e2,e3];rfl
def yPt:List (Str×Nat×Unit):=[(TIDE,118,()),(CONS,120,())]
theorem yRQ(s:Str)(hs0:s≠[])(hs:s.length<=4097)(k:Nat)(hk:k<=4097)(d:Int)(c:List Con×List Gau)(h2:c.1.length<=5000)(h3:c.2.length<=5000){l:Str}{R:List Str}(he:yZ 10 s=l::R) :
  y6p 0 s (k:Int) d c.1 c.2=some (if R=[]then .inl (Z0,(k:Int),26,())else match rdT k d c (yZ 32 l)with|none=>.inl (Z0,(k:Int),26,())|some (d',c')=>.inr (y08 10 R,((k+1:Nat):Int),d',c'.1,c'.2)):=by
 obtain ⟨l',R',he',hcut⟩:=yHS s (by omega)
 rw[he]at he';cases he';have hlen:l.length<=4097:=Nat.le_trans (y2d 10 s l (by rw[he];exact mem_cons_self ..)) hs
 unfold y6p;rw[bT (by rw[Bool.not_eq_true',beq_eq_false_iff_ne];exact hs0),hcut,bind_some]
 dsimp only;rw[yHn 32 l (by omega),bind_some]
 dsimp only;have hwl:∀ w∈yZ 32 l,w.length<=281474976710656:=λ w hw=>by have:=y2d 32 l w hw;omega
 have hwrap:i64.wrap ((k:Int)+1)=((k+1:Nat):Int):=by rw[w64 (by omega) (by omega)];omega
 have hne:=y1e 32 l;generalize yZ 32 l=ws at hwl hne;have hform:idx yPt (if Bool.false=Bool.true then if (1:Int) > (k:Int)then (1:Int)else (k:Int)else if (1:Int) < (k:Int)then (1:Int)else (k:Int))=some (if k=0 then (TIDE,118,())else (CONS,120,())):=by
  rw[if_neg (by decide)]
  by_cases h0:k=0
  ·subst h0;rfl
  ·rw[if_neg h0];by_cases h1:k=1
   ·subst h1;rfl
   ·rw[if_pos (by omega)];rfl
 rw[show (idx [([(116:UInt8),(105:UInt8),(100:UInt8),(101:UInt8)],(117:Nat)+(1:Nat),()),([(99:UInt8),(111:UInt8),(110:UInt8),(115:UInt8),(116:UInt8),(105:UInt8),(116:UInt8),(117:UInt8),(101:UInt8),(110:UInt8),(116:UInt8)],(119:Nat)+(1:Nat),())] _)=_ from hform,bind_some]
 cases R with
 |nil=>rw[bT (by rfl),if_pos rfl];rfl
 |cons y ys =>
  rw[bF (by rfl),if_neg (show ¬ (y::ys:List Str)=[] by simp)]
  cases ws with
  |nil=>exact absurd rfl hne
  |cons w r =>
   have hr:∀ u∈r,u.length<=281474976710656:=λ u hu=>hwl u (mem_cons_of_mem _ hu)
   rw[bF (by rw[beq_eq_false_iff_ne];simp only[length_cons];omega),show idx (w::r) (0:Int)=some w from y9V (w::r) 0,bind_some,
    bT (by rw[dT (show (0:Int)<=1 by omega),dT (by simp only[length_cons];omega)];rfl),bT (by unfold eqV;simp)]
   rw[show List.drop (Int.toNat 1) (w::r)=r from rfl]
   by_cases h0:k=0
   ·simp only[h0,if_true];unfold rdT;simp only[if_true];by_cases hw:w=TIDE
    ·subst hw;rw[bF (by simp),show (TIDE == ([]:Str))=false from rfl,pH _ _ _ _ _ _ _ rfl r hr]
     cases rdH (TIDE::r)with
     |none=>rfl
     |some d'=>rfl
    ·rw[bT (by rw[Bool.not_eq_true',beq_eq_false_iff_ne];exact hw)]
     have:rdH (w::r)=none:=by
      unfold rdH;split
      ·rename_i k x hh;cases hh;rw[if_neg hw]
      ·rfl
     rw[this];rfl
   ·simp only[h0,if_false];unfold rdT;simp only[h0,if_false];by_cases hw:w=CONS
    ·subst hw;rw[bF (by simp),show (CONS == ([]:Str))=false from rfl,pC _ _ _ _ _ _ h2 h3 _ rfl r hr]
     unfold outP;rw[hwrap];cases rdC (c.1,c.2) (CONS::r)with
     |none=>rfl
     |some c'=>rfl
    ·rw[bT (by rw[Bool.not_eq_true',beq_eq_false_iff_ne];exact hw)]
     have:rdC c (w::r)=none:=by
      unfold rdC;split
      ·rename_i hh;cases hh;rw[if_neg (λ h=>hw h.1)]
      ·rfl
     rw[this];rfl
theorem pend(k:Nat)(d:Int)(c:List Con×List Gau)(hn:∀ n∈c.1,n.1.length < lenMax)(hl:c.1.length < lenMax)(ha:c.2.length<=memMax) :
  y6p 0 [] (k:Int) d c.1 c.2=some (.inl (if y0A (c.1,c.2,d,())=0 then ((c.1,c.2,d,()),0,0,())else (Z0,(k:Int),y0A (c.1,c.2,d,()),()))):=by
 unfold y6p;rw[bF (by rfl),yLq (c.1,c.2,d,()) hn hl ha,bind_some]
 by_cases h:y0A (c.1,c.2,d,())=0
 ·rw[bF (by rw[h];rfl),if_pos h]
 ·rw[bT (by rw[bne_iff_ne];exact h),if_neg h];rfl
theorem yPv:∀ (rest:List Str) (k m:Nat) (d:Int) (c:List Con×List Gau),rest≠[]->(∀ x∈rest,(10:UInt8) ∉ x)->(y08 10 rest).length<=4097->Inv k c (rest.length - 1)->rest.length < m->(y08 10 rest=[]->0 < k) ->
  y5d (λ s__=>y6p 0 s__.1 s__.2.1 s__.2.2.1 s__.2.2.2.1 s__.2.2.2.2) m (y08 10 rest,(k:Int),d,c.1,c.2)=some (prsL k d c rest)
 |[],_,_,_,_,h,_,_,_,_,_=>absurd rfl h
 |l::R,k,m,d,c,_,hfree,hlen,hI,hm,h0=>by
  have hI':=hI;obtain ⟨h1,h2,h3,h4⟩:=hI;have hmem:(5000:Nat) < memMax:=by decide
  have hlm:(5000:Nat) < lenMax:=by decide
  obtain ⟨m,rfl⟩:∃ q,m=q+1:=⟨m - 1,by simp only[length_cons]at hm;omega⟩
  have hsp:yZ 10 (y08 10 (l::R))=l::R:=y2k 10 (l::R) (by simp) hfree
  simp only[y5d];by_cases hs:y08 10 (l::R)=[]
  ·have hR:R=[]:=by
    cases R with
    |nil=>rfl
    |cons y ys=>rw[y0x 10 l (by simp)]at hs;simp at hs
   subst hR;have hl:l=[]:=hs;subst hl;rw[show y08 10 [([]:Str)]=[]from rfl,pend k d c (λ n hn=>by have:=h4 n hn;omega) (by omega) (by omega)]
   unfold prsL;rw[if_pos (show ([]:Str)=[]/\0 < k from ⟨rfl,h0 hs⟩)]
   rfl
  ·rw[yRQ _ hs hlen k (by omega) d c (by omega) (by omega) hsp,bind_some]
   cases R with
   |nil =>
    rw[if_pos rfl];unfold prsL;rw[if_neg];rintro ⟨e,_⟩
    exact hs (by rw[e];rfl)
   |cons y ys =>
    rw[if_neg (by simp),y3H k d c l (by simp)]
    cases hr:rdT k d c (yZ 32 l)with
    |none=>rfl
    |some dc =>
     obtain ⟨d',c'⟩:=dc;dsimp only;have hll:l.length<=4097:=Nat.le_trans (y2d 10 _ l (by rw[hsp];exact mem_cons_self ..)) hlen
     rw[y0x 10 l (by simp)]at hlen
     simp only[List.length_append,length_cons]at hlen;exact yPv (y::ys) (k+1) m d' c' (by simp) (λ x hx=>hfree x (mem_cons_of_mem _ hx)) (by omega)
      (yME (m:=ys.length) (by simpa using hI') (λ w hw=>by have:=y2d 32 l w hw;omega) hr) (by simp only[length_cons]at hm ⊢;omega) (λ _=>by omega)
theorem y82(s:Str):yGp s=some (prs s):=by
 unfold yGp prs;by_cases hl:4096 < s.length
 ·rw[bT (dT (by omega)),if_pos hl];rfl
 ·rw[bF (dF (by omega)),if_neg hl]
  by_cases h0:s=[]
  ·subst h0;rfl
  ·rw[bF (by rw[beq_eq_false_iff_ne];exact h0)]
   have hcount:=y2H 10 s;have hcl:s.count 10<=s.length:=List.count_le_length;have:=yPv (yZ 10 s) 0 wMax 0 ([],[]) (y1e 10 s) (λ x hx=>y3l 10 s x hx) (by rw[y0h];omega) ⟨Nat.le_refl _,Nat.le_refl _,by omega,λ x hx=>by cases hx⟩ (by unfold wMax;omega) (λ h=>absurd (by rwa[y0h]at h) h0)
   rw[y0h]at this;exact this
end Go.Tw
end
section
set_option maxRecDepth 1000000
namespace Go.Tw
open Go.Vx Go.Vx.B Go.S Go.SA Go.Lib
theorem yLM{t:Tid}(h:y0A t=0):t.1.length<=5000/\t.2.1.length<=5000/\t.2.1.length=t.1.length:=by
 have ht:=yBW h;have hf:=ht.few;have hl:=ht.len;exact ⟨by omega,by omega,by omega⟩
theorem yKc(t:Tid)(h:y0A t=0):y7e 0 t (prn t,0,())=some (true,()):=by
 unfold y7e;have hp:=yDi t;have hsh:=y5v h;have hw:i64.wrap (((prn t).length:Int) - 1)=(((prn t).length - 1:Nat):Int):=by rw[w64 (by omega) (by omega)];omega
 simp only[hw];rw[bT (by rw[dT (Int.natCast_nonneg _),dT (by omega)];rfl),Int.toNat_natCast,y82,bind_some,yNA h]
 simp
theorem yLA(t:Tid)(s:Str)(hl:t.1.length < lenMax):zp_M t s=some (true,()):=by
 have hmem:(5000:Nat) < memMax:=by decide
 have hlm:(5000:Nat) < lenMax:=by decide
 unfold zp_M zp_m;rw[yFl];simp only[bind_some,Bool.not_true,cond_false];obtain ⟨sh,h1,h2⟩:=yId t hl;rw[h1,bind_some];cases sh with
 |false=>rfl
 |true =>
  obtain ⟨h3,h4,h5⟩:=h2 rfl;simp only[Bool.not_true,cond_false];rw[yPJ t (by omega),bind_some]
  by_cases h:y0A t=0
  ·obtain ⟨g1,g2,g3⟩:=yLM h;rw[bF (by rw[h];rfl)]
   cases decide ((s.length:Int) > 300)with
   |true=>rfl
   |false =>
    simp only[cond_false];rw[yOz t (by omega) (by omega),bind_some,yBX t (λ n hn=>by have:=h3 n hn;omega) (by omega) (by omega),if_pos h,bind_some,y82,yG8 h,bind_some,bF (by rfl),bF (by rfl),bF (by rfl)]
    rw[show yDj (((t,(0:Int),(0:Int),()):Tid×Int×Int×Unit).fst.fst,((t,(0:Int),(0:Int),()):Tid×Int×Int×Unit).fst.snd.fst,((t,(0:Int),(0:Int),()):Tid×Int×Int×Unit).fst.snd.snd.fst,())=yDj t from rfl,yK4 t (by omega),bind_some,yHb t (by omega) (by omega),bind_some,bF (by rfl)]
    have hsp:=yI6 10 (prn t) (by have:=y5v h;omega)
    rw[show (((10:UInt8).toNat:Nat):Int)=10 from rfl]at hsp
    rw[hsp,bind_some,yCv h];have hln:(lns t++[[]]).length=t.1.length+2:=by
     unfold lns;rw[List.length_append,length_cons,List.length_zipWith,List.length_singleton];omega
    rw[bF (by rw[hln,w64 (by omega) (by omega),bne_eq_false_iff_eq];omega),y82 s,bind_some,yKc t h]
    by_cases he:(prs s).2.2.1=0
    ·obtain ⟨p1,p2⟩:=yMV s he;obtain ⟨q1,q2,q3⟩:=yLM p1;rw[bT (by rw[he];rfl)]
     rw[show yFr ((prs s).fst.fst,(prs s).fst.snd.fst,(prs s).fst.snd.snd.fst,())=yFr (prs s).1 from rfl,yBX (prs s).1 (λ n hn=>by have:=(yAZ (y5u p1 n hn)).2;omega) (by omega) (by omega),if_pos p1,bind_some,bF (by rfl),bF (by rw[p2];simp)]
    ·rw[bF (by rw[beq_eq_false_iff_ne];exact he)]
  ·rw[bT (by rw[bne_iff_ne];exact h)]
end Go.Tw
end
