import Derived.Test.YtpcnkpbpcebokaaGreatDoorPW
import Derived.Test.YtpcnkpbpcebokaaGreatDoorBTu
import Derived.Test.YtpcnkpbpcebokaaGreatDoorPA
set_option linter.all false
set_option maxRecDepth 100000
namespace Go.Tw
open Go.Vx Go.Vx.B Go.Proofs Ieee
def lwr(prev:Int)(i:Nat)(l:List Int):List Int:=rfr (-prev) i (l.map fun a=>-a)
def y7f(a:Int)(l:List Int):Bool:=y28 (-a) (l.map fun a=>-a)
theorem y8A(a b:Int)(l:List Int):y7f a (b::l)=if b=a then y7f a l else decide (a < b):=by
  unfold y7f;rw[List.map_cons,y0K];by_cases h:b=a
  · rw[if_pos h,if_pos (by omega)]
  · rw[if_neg h,if_neg (by omega)]
    exact decide_eq_decide.2 (by omega)
theorem yD2(prev:Int)(i:Nat)(a:Int)(l:List Int):lwr prev i (a::l)=(if a < prev∧y7f a l=true then [(i:Int)]else [])++lwr a (i+1) l:=by
  unfold lwr y7f;rw[List.map_cons,y0G];congr 1
  by_cases h:a < prev∧y28 (-a) (l.map fun a=>-a)=true
  · rw[if_pos h,if_pos ⟨by omega,h.2⟩]
  · rw[if_neg h,if_neg (fun q=>h ⟨by omega,q.2⟩)]
theorem yDt:∀ (l:List Int) (prev:Int) (i:Nat),∀ y∈rfr prev i l,(i:Int)≤y
  | [],_,_,y,h=>by cases h
  | a::l,prev,i,y,h=>by
    rw[y0G]at h;rcases List.mem_append.1 h with h|h
    · split at h
      · rw[List.mem_singleton]at h;omega
      · cases h
    · have:=yDt l a (i+1) y h;omega
theorem yLK(l:List Int)(prev:Int)(i:Nat):∀ y∈lwr prev i l,(i:Int)≤y:=yDt _ _ _
theorem flat:∀ (l:List Int) (a:Int) (i:Nat),y28 a l=false→y7f a l=false→rfr a i l=[]
  | [],_,_,_,_=>rfl
  | b::l,a,i,h1,h2=>by
    rw[y0K]at h1;rw[y8A]at h2;by_cases h:b=a
    · rw[if_pos h]at h1 h2;rw[y0G,if_neg (by omega),List.nil_append,h]
      exact flat l a (i+1) h1 h2
    · rw[if_neg h]at h1 h2;have:=of_decide_eq_false h1;have:=of_decide_eq_false h2;omega
def below(L:List Int)(h:Int):Nat:=(L.filter fun y=>decide (y < h)).length
theorem y8k:∀ (l:List Int) (a:Int) (i:Nat) (h:Int) (t:List Int),rfr a i l=h::t →
    (y28 a l=true→below (lwr a i l) h=1)∧(y7f a l=true→below (lwr a i l) h=0)
  | [],a,i,h,t,e=>by cases e
  | b::l,a,i,h,t,e=>by
    rw[y0K,y8A,yD2];rw[y0G]at e;by_cases hb:b=a
    · subst hb;rw[if_neg (by omega),List.nil_append]at e
      rw[if_pos rfl,if_pos rfl,if_neg (by omega),List.nil_append]
      exact y8k l b (i+1) h t e
    · rw[if_neg hb,if_neg hb];constructor
      · intro h1;have h1:=of_decide_eq_true h1;rw[if_neg (by omega),List.nil_append]at e
        obtain ⟨ih1,ih2⟩:=y8k l b (i+1) h t e;cases hr:y7f b l with
        | true =>
          rw[if_pos ⟨h1,rfl⟩];have hge:=yDt l b (i+1) h (by rw[e];simp)
          unfold below at ih2 ⊢;rw[List.filter_append,List.length_append,ih2 hr];simp only[List.filter_cons,List.filter_nil];rw[if_pos (yU (by omega))]
          rfl
        | false =>
          rw[if_neg (by simp),List.nil_append]
          cases hf:y28 b l with
          | true=>exact ih1 hf
          | false=>rw[flat l b (i+1) hf hr]at e;cases e
      · intro h1;have h1:=of_decide_eq_true h1;rw[if_neg (by omega),List.nil_append]
        cases hf:y28 b l with
        | true =>
          rw[if_pos ⟨h1,hf⟩]at e;have e1:h=(i:Int):=by
            have:=congrArg List.head? e;simpa using this.symm
          unfold below;rw[List.length_eq_zero_iff,List.filter_eq_nil_iff];intro y hy;have:=yLK l b (i+1) y hy;simp;omega
        | false =>
          rw[if_neg (by rw[hf];simp),List.nil_append]at e
          obtain ⟨ih1,ih2⟩:=y8k l b (i+1) h t e;cases hr:y7f b l with
          | true=>exact ih2 hr
          | false=>rw[flat l b (i+1) hf hr]at e;cases e
def mid(L:List Int)(a b:Int):Nat:=(L.filter fun y=>decide (a < y∧y < b)).length
def okP(L:List Int):List Int→Prop
  | h1::h2::t=>mid L h1 h2=1∧okP L (h2::t)
  | _=>True
theorem yIP(x:Int)(L:List Int):∀ H:List Int,(∀ h∈H,x < h)→okP L H→okP (x::L) H
  | [],_,_=>trivial
  | [_],_,_=>trivial
  | h1::h2::t,hx,h=>by
    refine ⟨?_,yIP x L (h2::t) (fun h hh=>hx h (by simp at hh ⊢;right;exact hh)) h.2⟩
    have:=h.1;unfold mid at this ⊢;rw[List.filter_cons,if_neg (by have:=hx h1 (by simp);simp;omega)]
    exact this
theorem yDW:∀ (l:List Int) (a:Int) (i:Nat),okP (lwr a i l) (rfr a i l)
  | [],_,_=>trivial
  | b::l,a,i=>by
    have ih:=yDW l b (i+1);rw[y0G,yD2];by_cases h1:a < b∧y28 b l=true
    · rw[if_pos h1,if_neg (by omega),List.nil_append]
      show okP _ ((i:Int)::rfr b (i+1) l)
      cases e:rfr b (i+1) l with
      | nil=>trivial
      | cons h t =>
        rw[e]at ih;refine ⟨?_,ih⟩;have:=(y8k l b (i+1) h t e).1 h1.2;unfold below at this;unfold mid;refine Eq.trans ?_ this;refine congrArg List.length (List.filter_congr fun y hy=>?_)
        have:=yLK l b (i+1) y hy;exact decide_eq_decide.2 (by omega)
    · rw[if_neg h1,List.nil_append];by_cases h2:b < a∧y7f b l=true
      · rw[if_pos h2];exact yIP (i:Int) _ _ (fun h hh=>by have:=yDt l b (i+1) h hh;omega) ih
      · rw[if_neg h2,List.nil_append];exact ih
theorem yLA{L:List Int}:∀ {H p:List Int} {h1 h2:Int} {r:List Int},okP L H→H=p++h1::h2::r→mid L h1 h2=1
  | _,[],h1,h2,r,h,e=>by subst e;exact h.1
  | _,[x],h1,h2,r,h,e=>by subst e;exact h.2.1
  | _,x::y::p,h1,h2,r,h,e=>by subst e;exact yLA (p:=y::p) h.2 rfl
def rep{α:Type}(k:Int):Int→List α→List α
  | _,[]=>[]
  | i,x::l=>if i=k then x::x::rep k (i+1) l else x::rep k (i+1) l
theorem y9p{α:Type}(k i:Int)(x:α)(l:List α):rep k i (x::l)=if i=k then x::x::rep k (i+1) l else x::rep k (i+1) l:=rfl
theorem yAd(k:Int):∀ (l:List Int) (i a:Int),y28 a (rep k i l)=y28 a l
  | [],_,_=>rfl
  | b::l,i,a=>by
    unfold rep;have ih:=yAd k l (i+1) a;by_cases h:i=k
    · rw[if_pos h,y0K,y0K,y0K,ih];by_cases hb:b=a
      · simp[hb]
      · simp[hb]
    · rw[if_neg h,y0K,y0K,ih]
theorem yCU:∀ (l:List Int) (a:Int) (i j:Nat),(rfr a i l).length=(rfr a j l).length
  | [],_,_,_=>rfl
  | b::l,a,i,j=>by
    rw[y0G,y0G,List.length_append,List.length_append,yCU l b (i+1) (j+1)];congr 1
    split<;>rfl
theorem yHn(k:Int):∀ (l:List Int) (i a:Int) (p:Nat),(rfr a p (rep k i l)).length=(rfr a p l).length
  | [],_,_,_=>rfl
  | b::l,i,a,p=>by
    unfold rep;have e:∀ q:Nat,(rfr b q (rep k (i+1) l)).length=(rfr b (p+1) l).length:=fun q=>by rw[yHn k l (i+1) b q,yCU l b q (p+1)]
    have hf:=yAd k l (i+1) b;by_cases h:i=k
    · rw[if_pos h,y0G,y0G,y0G,List.length_append,List.length_append,List.length_append,e,y0K,if_pos rfl,hf,if_neg (show ¬ (b < b∧y28 b l=true) by omega)]
      simp only[List.length_nil,Nat.zero_add]
    · rw[if_neg h,y0G,y0G,List.length_append,List.length_append,e,hf]
theorem y8q{α β:Type}(f:α→β)(k:Int):∀ (l:List α) (i:Int),(rep k i l).map f=rep k i (l.map f)
  | [],_=>rfl
  | x::l,i=>by
    rw[List.map_cons,y9p,y9p];by_cases h:i=k
    · rw[if_pos h,if_pos h,List.map_cons,List.map_cons,y8q f k l]
    · rw[if_neg h,if_neg h,List.map_cons,y8q f k l]
theorem yHq{α:Type}(k:Int):∀ (l:List α) (i:Int),∀ x∈rep k i l,x∈l
  | [],_,x,h=>by cases h
  | y::l,i,x,h=>by
    unfold rep at h;have ih:=yHq k l (i+1) x;by_cases hk:i=k
    · rw[if_pos hk]at h;simp only[List.mem_cons]at h ⊢;rcases h with h|h|h
      · exact .inl h
      · exact .inl h
      · exact .inr (ih h)
    · rw[if_neg hk]at h;simp only[List.mem_cons]at h ⊢;rcases h with h|h
      · exact .inl h
      · exact .inr (ih h)
theorem yFy{α:Type}(k:Int):∀ (l:List α) (i:Int),(rep k i l).length≤2 * l.length
  | [],_=>by simp[rep]
  | y::l,i=>by
    unfold rep;have ih:=yFy k l (i+1);split<;>simp<;>omega
theorem yMa(k:Int)(l:List Nat):(wat 1 (rep k 0 l)).length=(wat 1 l).length:=by
  cases l with
  | nil=>rfl
  | cons x l =>
    unfold rep;have e:=yHn k (sxs 1 l) (0+1) (1 * sx x) 1;by_cases h:0=k
    · rw[if_pos h];unfold wat;show (rfr (1 * sx x) 1 (1 * sx x::(rep k (0+1) l).map _)).length=_
      rw[y0G,if_neg (by omega),List.nil_append,y8q,yCU _ _ _ 1]
      exact e
    · rw[if_neg h];unfold wat;show (rfr (1 * sx x) 1 ((rep k (0+1) l).map _)).length=_
      rw[y8q];exact e
theorem yIn(x:Nat):F32.read (Op.negFloat .f32 x)=(F32.read x).opposite:=by
  have hs:F32.signWeight=2 ^ 31:=rfl;have hn:Op.negFloat .f32 x=x ^^^ 2 ^ 31:=rfl;have h1:(x ^^^ 2 ^ 31) % 2 ^ 31=x % 2 ^ 31:=by rw[Nat.xor_mod_two_pow,Nat.mod_self,Nat.xor_zero]
  have h2:((x ^^^ 2 ^ 31) / 2 ^ 31 % 2 == 1)=!(x / 2 ^ 31 % 2 == 1):=by
    have t:∀ y:Nat,(y / 2 ^ 31 % 2 == 1)=y.testBit 31:=fun y=>by rw[Nat.testBit_eq_decide_div_mod_eq];rfl
    rw[t,t,Nat.testBit_xor,Nat.testBit_two_pow_self,Bool.xor_true]
  rw[hn];unfold Format.read;simp only[hs];rw[h1,h2];generalize x % 2 ^ 31=r;split
  · rfl
  · split
    · rfl
    · split<;>rfl
theorem yHG{x:Nat}{n:Int}(h:Six x n):Six (y1F .f32 x) (-n):=by
  obtain ⟨⟨s,m,e,h1,h2,h3⟩,hl⟩:=h;have hr:F32.read (y1F .f32 x)=.number (!s) m e:=by
    have hn:=yIn x;rw[h1]at hn;unfold y1F;rw[yl (by show (F32.read _).isNaN=false;rw[hn];rfl)]
    exact hn
  refine ⟨⟨!s,m,e,hr,h2,?_⟩,by omega⟩
  rw[yLJ,h3,Int.neg_mul]
theorem yGb{x:Nat}(h:lvE x=0):lvE (y1F .f32 x)=0∧sx (y1F .f32 x)=- sx x :=
  ⟨yLI (yHG (y5k h)),yVo (yHG (y5k h))⟩
theorem yFh(l:List Nat)(h:∀ x∈l,lvE x=0):wat (-1) (l.map (y1F .f32))=wat 1 l:=by
  cases l with
  | nil=>rfl
  | cons x l =>
    have e:sxs (-1) (l.map (y1F .f32))=sxs 1 l:=by
      unfold sxs;rw[List.map_map];refine List.map_congr_left fun y hy=>?_
      show -1 * sx (y1F .f32 y)=1 * sx y
      rw[(yGb (h y (by simp[hy]))).2]
      omega
    show rfr (-1 * sx (y1F .f32 x)) 1 (sxs (-1) (l.map (y1F .f32)))=rfr (1 * sx x) 1 (sxs 1 l)
    rw[e,(yGb (h x (by simp))).2]
    congr 1
    omega
theorem yOM(l:List Nat):wat (-1) l=match l with|[]=>[]|x::l=>lwr (1 * sx x) 1 (sxs 1 l):=by
  cases l with
  | nil=>rfl
  | cons x l =>
    show rfr (-1 * sx x) 1 (sxs (-1) l)=rfr (-(1 * sx x)) 1 ((sxs 1 l).map fun a=>-a)
    have e:sxs (-1) l=(sxs 1 l).map fun a=>-a:=by
      unfold sxs;rw[List.map_map];refine List.map_congr_left fun y _=>?_
      show -1 * sx y=-(1 * sx y)
      omega
    rw[e];congr 1
    omega
theorem yEn:∀ (l:List Int) (a:Int),y28 a l=true→∃ b r,l=b::r∧b≤a
  | [],_,h=>by cases h
  | b::l,a,h=>by
    rw[y0K]at h;refine ⟨b,l,rfl,?_⟩;by_cases hb:b=a
    · omega
    · rw[if_neg hb]at h;have:=of_decide_eq_true h;omega
theorem yKo:∀ (l:List Int) (prev:Int) (i:Nat),∀ y∈rfr prev i l,∃ (p:List Int) (a b c:Int) (r:List Int),prev::l=p++a::b::c::r∧y=(i+p.length:Nat)∧a < b∧c≤b
  | [],_,_,y,h=>by cases h
  | b::l,prev,i,y,h=>by
    rw[y0G]at h;rcases List.mem_append.1 h with h|h
    · by_cases hc:prev < b∧y28 b l=true
      · rw[if_pos hc,List.mem_singleton]at h;obtain ⟨c,r,h1,h2⟩:=yEn l b hc.2;exact ⟨[],prev,b,c,r,by rw[h1];rfl,by rw[h];rfl,hc.1,h2⟩
      · rw[if_neg hc]at h;cases h
    · obtain ⟨p,a,b',c,r,h1,h2,h3,h4⟩:=yKo l b (i+1) y h;exact ⟨prev::p,a,b',c,r,by rw[h1];rfl,by rw[h2];simp only[List.length_cons];omega,h3,h4⟩
theorem yTW(l:List Nat):∀ y∈wat 1 l,∃ (j:Nat) (u v w:Nat),y=((j+1:Nat):Int)∧l[j]?=some u∧l[j+1]?=some v∧l[j+2]?=some w∧sx u < sx v∧sx w≤sx v:=by
  intro y hy;cases l with
  | nil=>cases hy
  | cons x l =>
    obtain ⟨p,a,b,c,r,h1,h2,h3,h4⟩:=yKo (sxs 1 l) (1 * sx x) 1 y hy;have e:sxs 1 (x::l)=p++a::b::c::r:=h1;have hlen:(sxs 1 (x::l)).length=(x::l).length:=by unfold sxs;simp
    have hl:p.length+3≤(x::l).length:=by rw[← hlen,e];simp
    have g:∀ (k:Nat) (hk:k < (x::l).length),(sxs 1 (x::l))[k]?=some (1 * sx ((x::l)[k])):=fun k hk=>by
      unfold sxs;rw[List.getElem?_map,List.getElem?_eq_getElem hk];rfl
    have g0:=g p.length (by omega)
    have g1:=g (p.length+1) (by omega)
    have g2:=g (p.length+2) (by omega)
    rw[e]at g0 g1 g2;rw[List.getElem?_append_right (Nat.le_refl _)]at g0;rw[List.getElem?_append_right (by omega)]at g1 g2
    rw[show p.length - p.length=0 by omega]at g0
    rw[show p.length+1 - p.length=1 by omega]at g1
    rw[show p.length+2 - p.length=2 by omega]at g2
    simp only[List.getElem?_cons_zero,List.getElem?_cons_succ,Option.some.injEq]at g0 g1 g2;refine ⟨p.length,_,_,_,by rw[h2];omega,List.getElem?_eq_getElem (by omega),List.getElem?_eq_getElem (by omega),List.getElem?_eq_getElem (by omega),by omega,by omega⟩
end Go.Tw
