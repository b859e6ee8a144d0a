import Derived.Test.YtpcnkpbpcebokaaGreatDoorPT
set_option linter.all false
set_option maxRecDepth 100000
open Option (bind_some map_some)
open Go.IntKind (i64)
namespace Go.Tw
open Go.Vx Go.Vx.B Go.Proofs
theorem y8T{α β σ:Type}{body:Int->α->σ->Option (β⊕σ)}{fin:σ->Option β}(xs:List α)(h:σ->α->σ)(I:σ->Prop)(hb:∀ (i:Nat) e s,I s->xs[i]?=some e->body (i:Int) e s=some (.inr (h s e))/\I (h s e)) :
  ∀ (l done:List α) (s:σ),I s->xs=done++l->yJ body fin (done.length:Int) l s=fin (l.foldl h s)/\I (l.foldl h s)
 |[],done,s,hs,_=>⟨rfl,hs⟩
 |e::l,done,s,hs,hx=>by
  obtain ⟨b1,b2⟩:=hb done.length e s hs (by rw[hx];simp)
  have ih:=y8T (fin:=fin) xs h I hb l (done++[e]) (h s e) b2 (by rw[hx];simp)
  rw[yk,b1];rw[List.length_append,Int.natCast_add]at ih;exact ih
def addb(n x:Int):Int:=bif y0V i64 BinOp.and x n == 0 then i64.wrap (x+n)else x
def y6G(n:Int)(c:List Int)(s:Gau):List Int:=c.mapIdx λ k x=>if s.1<=(k:Int)/\(k:Int) < s.2.1 then addb n x else x
theorem yMW(n:Int)(c:List Int)(t:Nat)(hi:Int)(h:t < c.length)(ht:(t:Int) < hi) :
  (c.set t (addb n (c[t]))).mapIdx (λ k x=>if ((t+1:Nat):Int)<=(k:Int)/\(k:Int) < hi then addb n x else x)=c.mapIdx λ k x=>if (t:Int)<=(k:Int)/\(k:Int) < hi then addb n x else x:=by
 refine List.ext_getElem (by simp) λ k h1 h2=>?_
 rw[List.getElem_mapIdx,List.getElem_mapIdx,List.getElem_set];by_cases e:t=k
 ·subst e;rw[if_pos rfl,if_neg (by omega),if_pos ⟨by omega,ht⟩]
 ·rw[if_neg e];by_cases q:((t+1:Nat):Int)<=(k:Int)/\(k:Int) < hi
  ·rw[if_pos q,if_pos ⟨by omega,q.2⟩]
  ·rw[if_neg q,if_neg λ h=>q ⟨by omega,h.2⟩]
theorem yKP{β:Type}(n:Int){l1:List Gau}{i6:Int}{s:Gau}(hs:idx l1 i6=some s)(body:Int×List Int->Option ((β⊕List Int)⊕(Int×List Int)))
  (hb:∀ t c,body (t,c)=Option.bind (idx l1 i6) λ v3=>bif decide (t < v3.2.1)then (Option.bind (idx c t) λ v4=>Option.bind (c[t.toNat]?) λ v5=>bif y0V i64 BinOp.and v5 n == 0 then
   (Option.bind (idx c t) λ v6=>Option.bind (c[t.toNat]?) λ v7=>Option.bind (idx c t) λ v8=>Option.bind (c[t.toNat]?) λ v9=>some (Sum.inr ((i64.wrap (t+1)),(c.set t.toNat (i64.wrap (v7+n))))))
   else some (Sum.inr ((i64.wrap (t+1)),c)))else some (Sum.inl (Sum.inr c))) (N:Nat) (hN:s.2.1<=N) (hN2:N<=100001) :
  ∀ (m:Nat) (t:Nat) (c:List Int) (f:Nat),c.length=N->s.2.1<=(t+m:Nat)->m < f->y1v body f ((t:Int),c)=some (.inr (c.mapIdx λ k x=>if (t:Int)<=(k:Int)/\(k:Int) < s.2.1 then addb n x else x))
 |m,t,c,0,_,_,hf=>absurd hf (by omega)
 |m,t,c,f+1,hc,hm,hf=>by
  unfold y1v;rw[hb,hs];simp only[bind_some];by_cases h:(t:Int) < s.2.1
  ·have htl:t < c.length:=by omega
   obtain ⟨m,rfl⟩:∃ j,m=j+1:=⟨m - 1,by omega⟩
   have hw:i64.wrap ((t:Int)+1)=((t+1:Nat):Int):=by rw[y0o (by omega) (by omega)];omega
   have hstep:(bif decide ((t:Int) < s.2.1)then (Option.bind (idx c (t:Int)) λ v4=>Option.bind (c[(t:Int).toNat]?) λ v5=>bif y0V i64 BinOp.and v5 n == 0 then
     (Option.bind (idx c (t:Int)) λ v6=>Option.bind (c[(t:Int).toNat]?) λ v7=>Option.bind (idx c (t:Int)) λ v8=>Option.bind (c[(t:Int).toNat]?) λ v9=>some (Sum.inr ((i64.wrap ((t:Int)+1)),(c.set (t:Int).toNat (i64.wrap (v7+n))))))
     else some (Sum.inr ((i64.wrap ((t:Int)+1)),c)))else some (Sum.inl (Sum.inr c)))=(some (Sum.inr (((t+1:Nat):Int),c.set t (addb n c[t]))):Option ((β⊕List Int)⊕(Int×List Int))):=by
    rw[bifT (y8 h),y04,Int.toNat_natCast,List.getElem?_eq_getElem htl,hw];simp only[bind_some];unfold addb;cases y0V i64 BinOp.and c[t] n == 0 with
    |true=>rfl
    |false =>
     simp only[cond_false,List.set_getElem_self]
   rw[hstep];simp only[bind_some];rw[yKP n hs body hb N hN hN2 m (t+1) (c.set t (addb n c[t])) f (by simpa using hc) (by omega) (by omega),yMW n c t s.2.1 htl h]
  ·rw[bifF (y9 h)];simp only[bind_some];congr 2
   refine (List.ext_getElem (by simp) λ k h1 h2=>?_)
   rw[List.getElem_mapIdx,if_neg λ q=>h (by omega)]
theorem y9m{β:Type}(n:Int)(xs:List Gau)(hx:∀ s∈xs,0<=s.1/\s.2.1<=100000){body:Int->Gau->List Int->Option (β⊕List Int)}{fin:List Int->Option β}(b2:Int->Int×List Int->Option ((β⊕List Int)⊕(Int×List Int)))
  (hbody:∀ i (e:Gau) c,body i e c=y1v (b2 i) wMax (e.1,c))
  (hb:∀ i6 t c,b2 i6 (t,c)=Option.bind (idx xs i6) λ v3=>bif decide (t < v3.2.1)then (Option.bind (idx c t) λ v4=>Option.bind (c[t.toNat]?) λ v5=>bif y0V i64 BinOp.and v5 n == 0 then
   (Option.bind (idx c t) λ v6=>Option.bind (c[t.toNat]?) λ v7=>Option.bind (idx c t) λ v8=>Option.bind (c[t.toNat]?) λ v9=>some (Sum.inr ((i64.wrap (t+1)),(c.set t.toNat (i64.wrap (v7+n))))))
   else some (Sum.inr ((i64.wrap (t+1)),c)))else some (Sum.inl (Sum.inr c))) (c:List Int) (hc:c.length=100001) :
  yJ body fin 0 xs c=fin (xs.foldl (y6G n) c)/\(xs.foldl (y6G n) c).length=100001:=by
 refine y8T xs (y6G n) (λ c=>c.length=100001) (λ i e s hs he=>?_) xs [] c hc rfl
 obtain ⟨h0,h1⟩:=hx e (List.mem_of_getElem? he);refine ⟨?_,by unfold y6G;simpa using hs⟩
 have key:=yKP n (show idx xs (i:Int)=some e by rw[y04];exact he) (b2 i) (hb i) 100001 (by omega) (by omega) 100000 e.1.toNat s wMax hs (by omega) (by unfold wMax;omega)
 rw[hbody,show e.1=(e.1.toNat:Int) by omega,key]
 unfold y6G;rw[show ((e.1.toNat:Nat):Int)=e.1 by omega]
theorem y8X(n:Int)(k:Nat):∀ (l:List Gau) (c:List Int),(∀ x,c[k]?=some x->addb n (addb n x)=addb n x)->(l.foldl (y6G n) c)[k]?=(c[k]?).map λ x=>if has l (k:Int)then addb n x else x
 |[],c,_=>by
  show c[k]?=(c[k]?).map λ x=>if has [] (k:Int)=true then addb n x else x
  have:has [] (k:Int)=false:=rfl;rw[this];cases c[k]?<;>rfl
 |s::l,c,h=>by
  have hg:(y6G n c s)[k]?=(c[k]?).map λ x=>if s.1<=(k:Int)/\(k:Int) < s.2.1 then addb n x else x:=by
   unfold y6G;rw[List.getElem?_mapIdx]
  have hh:has (s::l) (k:Int)=(decide (s.1<=(k:Int)/\(k:Int) < s.2.1) || has l (k:Int)):=by unfold has;rw[List.any_cons]
  rw[List.foldl_cons,y8X n k l (y6G n c s) λ x hx=>by
   rw[hg]at hx;cases hc:c[k]? with
   |none=>rw[hc]at hx;cases hx
   |some y =>
    rw[hc]at hx;have hy:=h y hc;simp only[map_some,Option.some.injEq]at hx;by_cases q:s.1<=(k:Int)/\(k:Int) < s.2.1
    ·rw[if_pos q]at hx;rw[<- hx,hy,hy]
    ·rw[if_neg q]at hx;rw[<- hx,hy],hg,hh]
  cases hc:c[k]? with
  |none=>rfl
  |some y =>
   have hy:=h y hc;simp only[map_some,Option.some.injEq];by_cases q:s.1<=(k:Int)/\(k:Int) < s.2.1
   ·rw[if_pos q,y8 q,Bool.true_or,if_pos rfl,hy];split<;>rfl
   ·rw[if_neg q,y9 q,Bool.false_or]
theorem yRz:addb 1 0=1:=by rfl
theorem yTw:addb 1 1=1:=by rfl
theorem yR3:addb 2 0=2:=by rfl
theorem ySh:addb 2 2=2:=by rfl
theorem yQW:addb 2 1=3:=by rfl
theorem ySk:addb 2 3=3:=by rfl
def yJH(a b:List Gau):List Int:=b.foldl (y6G 2) (a.foldl (y6G 1) (List.replicate 100001 0))
def inV(a b:List Gau)(k:Nat):Int:=if has b (k:Int)then addb 2 (if has a (k:Int)then 1 else 0)else (if has a (k:Int)then 1 else 0)
theorem yN8(a b:List Gau)(k:Nat)(hk:k < 100001):(yJH a b)[k]?=some (inV a b k):=by
 have h1:(a.foldl (y6G 1) (List.replicate 100001 (0:Int)))[k]?=some (if has a (k:Int)then 1 else 0):=by
  rw[y8X 1 k a _ λ x hx=>by
   rw[List.getElem?_replicate,if_pos hk]at hx;rw[<- Option.some.inj hx,yRz,yTw],List.getElem?_replicate,if_pos hk]
  simp only[map_some,yRz]
 unfold yJH inV;rw[y8X 2 k b _ λ x hx=>by
  rw[h1]at hx;rw[<- Option.some.inj hx];split
  ·rw[yQW,ySk]
  ·rw[yR3,ySh],h1]
 rfl
def yHk(ins:Nat->Bool)(s:Int×List Gau)(i:Nat):Int×List Gau:=
 if ins i then (if s.1 < 0 then ((i:Int),s.2)else s)else if 0<=s.1 then (-1,s.2++[(s.1,(i:Int),())])else s
theorem y9F(f t:Int)(hs:y5m (f,t,())=0):∀ (out:List Gau) (p:Option Gau),y1a p out=0->(∀ s∈out,s.2.1 < f)->(∀ q,p=some q->q.2.1 < f)->y1a p (out++[(f,t,())])=0
 |[],p,_,_,hp=>by
  show yP (spE p (f,t,())) 0=0
  unfold spE;rw[hs,yR];cases p with
  |none=>rfl
  |some q =>
   have:=hp q rfl;simp only;rw[if_neg (by omega)]
   rfl
 |s::out,p,h,hl,hp=>by
  obtain ⟨h1,h2⟩:=yH h;show yP (spE p s) (y1a (some s) (out++[(f,t,())]))=0
  rw[h1,yR];exact y9F f t hs out (some s) h2 (λ x hx=>hl x (by simp[hx])) λ q hq=>by cases hq;exact hl s (by simp)
structure InvP (ins:Nat->Bool) (i:Nat) (s:Int×List Gau):Prop where
 one:y1a none s.2=0
 two:∀ x∈s.2,x.2.1 < (if s.1 < 0 then (i:Int)else s.1)
 three:∀ k:Nat,k < i->(has s.2 (k:Int) || decide (0<=s.1/\s.1<=(k:Int)))=ins k
 four:s.2.length<=i
 five:s.1=-1\/0<=s.1/\s.1 < i
 six:∀ x∈s.2,x.2.1<=(i:Int)
theorem yOp(a:List Gau)(s:Gau)(k:Int):has (a++[s]) k=(has a k || decide (s.1<=k/\k < s.2.1)):=by
 unfold has;rw[List.any_append,List.any_cons,List.any_nil,Bool.or_false]
theorem y5e(a:List Gau)(k:Int)(h:∀ x∈a,x.2.1<=k):has a k=false:=by
 unfold has;rw[List.any_eq_false];intro x hx;have:=h x hx;simp only[decide_eq_true_eq];omega
theorem yMe(ins:Nat->Bool)(i:Nat)(s:Int×List Gau)(hi:i<=100000)(h:InvP ins i s):InvP ins (i+1) (yHk ins s i):=by
 obtain ⟨h1,h2,h3,h4,h5,h6⟩:=h;unfold yHk;cases hin:ins i with
 |true =>
  rw[if_pos rfl];by_cases hs:s.1 < 0
  ·rw[if_pos hs]at h2 ⊢;refine ⟨h1,?_,λ k hk=>?_,by show s.2.length<=i+1;omega,.inr (by simp only;omega),λ x hx=>by have:=h6 x hx;omega⟩
   ·intro x hx;rw[if_neg (by simp only;omega)]
    exact h2 x hx
   ·show (has s.2 (k:Int) || decide ((0:Int)<=(i:Int)/\(i:Int)<=(k:Int)))=ins k
    by_cases e:k=i
    ·rw[e,hin,y8 (show (0:Int)<=(i:Int)/\(i:Int)<=(i:Int) by omega),Bool.or_true]
    ·rw[y9 (show ¬ ((0:Int)<=(i:Int)/\(i:Int)<=(k:Int)) by omega),<- h3 k (by omega),y9 (show ¬ (0<=s.1/\s.1<=(k:Int)) by omega)]
  ·rw[if_neg hs];refine ⟨h1,?_,λ k hk=>?_,by omega,.inr (by omega),λ x hx=>by have:=h6 x hx;omega⟩
   ·rw[if_neg hs]at h2 ⊢;exact h2
   ·by_cases e:k=i
    ·rw[e,hin,y8 (show 0<=s.1/\s.1<=(i:Int) by omega),Bool.or_true]
    ·exact h3 k (by omega)
 |false =>
  rw[if_neg (by simp)]
  by_cases hs:0<=s.1
  ·rw[if_pos hs];rw[if_neg (by omega)]at h2
   have h55:s.1 < i:=by omega
   refine ⟨?_,?_,λ k hk=>?_,by simp;omega,.inl rfl,?_⟩
   ·refine y9F s.1 i ?_ s.2 none h1 h2 λ q hq=>by cases hq
    unfold y5m;rw[if_neg (by simp only;omega)]
   ·intro x hx;rw[if_pos (by show (-1:Int) < 0;decide)]
    rcases List.mem_append.1 hx with hx|hx
    ·have:=h2 x hx;omega
    ·rw[List.mem_singleton.1 hx];simp only;omega
   ·show (has (s.2++[(s.1,(i:Int),())]) (k:Int) || decide ((0:Int)<=-1/\(-1:Int)<=(k:Int)))=ins k
    rw[yOp,y9 (show ¬ ((0:Int)<=-1/\(-1:Int)<=(k:Int)) by omega),Bool.or_false]
    simp only;by_cases e:k=i
    ·rw[e,hin,y9 (show ¬ (s.1<=(i:Int)/\(i:Int) < (i:Int)) by omega),Bool.or_false]
     exact y5e _ _ h6
    ·rw[<- h3 k (by omega)]
     congr 1
     by_cases q:s.1<=(k:Int)
     ·rw[y8 (show s.1<=(k:Int)/\(k:Int) < (i:Int) by omega),y8 (show 0<=s.1/\s.1<=(k:Int) by omega)]
     ·rw[y9 (show ¬ (s.1<=(k:Int)/\(k:Int) < (i:Int)) by omega),y9 (show ¬ (0<=s.1/\s.1<=(k:Int)) by omega)]
   ·intro x hx;rcases List.mem_append.1 hx with hx|hx
    ·have:=h6 x hx;omega
    ·rw[List.mem_singleton.1 hx];simp only;omega
  ·rw[if_neg hs];refine ⟨h1,?_,λ k hk=>?_,by omega,by omega,λ x hx=>by have:=h6 x hx;omega⟩
   ·rw[if_pos (by omega)]at h2 ⊢
    intro x hx;have:=h2 x hx;omega
   ·by_cases e:k=i
    ·rw[e,hin,y9 (show ¬ (0<=s.1/\s.1<=(i:Int)) by omega),Bool.or_false]
     exact y5e _ _ h6
    ·exact h3 k (by omega)
def insJ(a b:List Gau)(k:Nat):Bool:=has a (k:Int) || has b (k:Int)
theorem yP6(v:Int)(h:v=1\/v=2\/v=3):yMx [1,2,3] v=some (true,()):=by
 rcases h with rfl|rfl|rfl<;>rfl
theorem yOh(a b:List Gau)(k:Nat):(insJ a b k=true/\(inV a b k=1\/inV a b k=2\/inV a b k=3))\/(insJ a b k=false/\inV a b k=0):=by
 unfold insJ inV;cases has a (k:Int)<;>cases has b (k:Int)
 ·exact .inr ⟨rfl,rfl⟩
 ·exact .inl ⟨rfl,.inr (.inl (by simp[yR3]))⟩
 ·exact .inl ⟨rfl,.inl rfl⟩
 ·exact .inl ⟨rfl,.inr (.inr (by simp[yQW]))⟩
theorem yLK(a b:List Gau)(i:Nat)(s:Int×List Gau)(hi:i < 100001)(hl:s.2.length+1<=memMax)(h5:s.1=-1\/0<=s.1/\s.1 < i) :
  y8h [1,2,3] (yJH a b) (i:Int) s.1 s.2=some (.inr (yHk (insJ a b) s i)):=by
 unfold y8h;rw[y04,Int.toNat_natCast,yN8 a b i hi];simp only[bind_some];unfold yHk;rcases yOh a b i with ⟨e1,e2⟩|⟨e1,e2⟩
 ·rw[bifT (by rcases e2 with e|e|e<;>rw[e]<;>rfl),yP6 _ e2,e1,if_pos rfl]
  simp only[bind_some];unfold y8g y64;simp only[Bool.not_true,cond_false,cond_true];by_cases q:s.1 < 0
  ·rw[bifT (y8 q),if_pos q]
  ·rw[bifF (y9 q),if_neg q]
 ·rw[e2,bifF (by rfl),e1,if_neg (by simp)]
  unfold y8g y64;simp only[Bool.not_false,cond_false,cond_true];by_cases q:0<=s.1
  ·rw[bifT (y8 (show s.1 >= 0 from q)),bifT (y8 hl),if_pos q]
  ·rw[bifF (y9 (show ¬ s.1 >= 0 from q)),if_neg q]
theorem y6d{β σ:Type}{body:Int->σ->Option (β⊕σ)}{fin:σ->Option β}(h:σ->Nat->σ)(I:Nat->σ->Prop)(N:Nat)(hb:∀ (i:Nat) s,i < N->I i s->body (i:Int) s=some (.inr (h s i))/\I (i+1) (h s i)) :
  ∀ (m k:Nat) (s:σ),k+m=N->I k s->y0b body fin m (k:Int) s=fin ((List.range' k m).foldl h s)/\I N ((List.range' k m).foldl h s)
 |0,k,s,hk,hi=>⟨rfl,by rw[<- hk];exact hi⟩
 |m+1,k,s,hk,hi=>by
  obtain ⟨b1,b2⟩:=hb k s (by omega) hi
  have ih:=y6d (fin:=fin) h I N hb m (k+1) (h s k) (by omega) b2
  rw[y20,b1,List.range'_succ,List.foldl_cons];exact ih
theorem yOP(a b:List Gau)(hla:a.length < lenMax)(hlb:b.length < lenMax)(ha:∀ s∈a,0<=s.1/\s.2.1<=100000)(hb:∀ s∈b,0<=s.1/\s.2.1<=100000) :
  ∃ o:List Gau,yLe a b=some (o,())/\y1a none o=0/\∀ k:Nat,k < 100001->has o (k:Int)=(has a (k:Int) || has b (k:Int)):=by
 have hmem:memMax=68719476736:=rfl;obtain ⟨k1,k2⟩:=y6d (body:=λ i__ s__=>y8h [1,2,3] (yJH a b) i__ s__.1 s__.2) (fin:=λ s__=>yEz [1,2,3] (yJH a b) s__.1 s__.2) (yHk (insJ a b)) (InvP (insJ a b)) 100001
  (λ i s hi hI=>⟨yLK a b i s hi (by have:=hI.four;omega) hI.five,yMe _ i s (by omega) hI⟩) 100001 0 (-1,[]) (by omega)
  ⟨rfl,λ x hx=>(by cases hx),λ k hk=>(by omega),(by simp),.inl rfl,λ x hx=>(by cases hx)⟩
 generalize (List.range' 0 100001).foldl (yHk (insJ a b)) (-1,[])=F at k1 k2;have hrep:List.replicate (Int.toNat (100001:Int)) (0:Int)=List.replicate 100001 0:=rfl;obtain ⟨m1,m1l⟩:=y9m (β:=List Gau×Unit) 1 a ha (body:=λ i__ e__ s__=>yKn a 1 a b [1,2,3] a i__ e__ s__) (fin:=λ s__=>yFH a 1 a b [1,2,3] a s__) (λ i6 s=>yGg a 1 i6 a b [1,2,3] a s.1 s.2)
  (λ i e c=>rfl) (λ i6 t c=>rfl) (List.replicate 100001 0) (List.length_replicate)
 obtain ⟨m2,m2l⟩:=y9m (β:=List Gau×Unit) 2 b hb (body:=λ i__ e__ s__=>yEI b 2 a b [1,2,3] a b i__ e__ s__) (fin:=λ s__=>yAS b 2 a b [1,2,3] a b s__) (λ i6 s=>yAv b 2 i6 a b [1,2,3] a b s.1 s.2)
  (λ i e c=>rfl) (λ i6 t c=>rfl) (a.foldl (y6G 1) (List.replicate 100001 0)) m1l
 refine ⟨F.2,?_,k2.one,λ k hk=>?_⟩
 ·have hp:yMJ a b [1,2,3]=some (F.2,()):=by
   unfold yMJ;rw[bifT (y8 hla),hrep,m1];unfold yFH;rw[bifT (y8 hlb),m2];unfold yAS;rw[bifT (y8 (by decide))]
   exact k1
  unfold yLe yPA;rw[hp];rfl
 ·have h3:=k2.three k hk;have h100:insJ a b 100000=false:=by
   unfold insJ;rw[y5e a _ λ x hx=>by have:=(ha x hx).2;omega,y5e b _ λ x hx=>by have:=(hb x hx).2;omega]
   rfl
  have h99:=k2.three 100000 (by omega)
  rw[h100]at h99;have hneg:¬ 0<=F.1:=λ hp=>by
   have h5:=k2.five;rw[y8 (show 0<=F.1/\F.1<=((100000:Nat):Int) by omega),Bool.or_true]at h99
   cases h99
  rw[y9 (λ h=>hneg h.1),Bool.or_false]at h3
  exact h3
end Go.Tw
