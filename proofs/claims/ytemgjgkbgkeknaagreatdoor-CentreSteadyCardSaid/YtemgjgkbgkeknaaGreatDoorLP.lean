import Derived.Test.YtemgjgkbgkeknaaGreatDoorVA
set_option linter.all false
open Option (bind_some)
open Go.IntKind (i64)
namespace Go.Tw
open Go.Vx
def LeF{β R:Type}(f:β->Option R)(a:Option β)(b:Option R):Prop:=∀ y,a.bind f=some y->b=some y
theorem LeF.top{R:Type}{a b:Option R}(h:LeF some a b){y:R}(hy:a=some y):b=some y:=h y (by rw[hy];rfl)
section
variable {α β R σ:Type} {f:β->Option R}
theorem y03{b:Option R}:LeF f none b:=λ y h=>by cases h
theorem y9{x:β}{b:Option R}(h:f x=b):LeF f (some x) b:=λ y hy=>by rw[<- h];exact hy
theorem y7{c:Bool}{a b:Option β}{a' b':Option R}(h1:LeF f a a')(h2:LeF f b b'):LeF f (bif c then a else b) (bif c then a' else b'):=by
 cases c
 ·exact h2
 ·exact h1
theorem yF{x:Option α}{g:α->Option β}{g':α->Option R}(h:∀ v,LeF f (g v) (g' v)):LeF f (x.bind g) (x.bind g'):=by
 intro y hy;cases x with
 |none=>cases hy
 |some v=>exact h v y hy
theorem yN6{x:Option α}{g:α->Option β}{b:Option R}(h:∀ v,x=some v->LeF f (g v) b):LeF f (x.bind g) b:=by
 intro y hy;cases x with
 |none=>cases hy
 |some v=>exact h v rfl y hy
theorem leAt{x:Option α}{v:α}{a:Option β}{g:α->Option R}(hx:x=some v)(h:LeF f a (g v)):LeF f a (x.bind g):=by
 rw[hx];exact h
def big:Nat:=18446744073709551616
def yB:Nat:=9223372036854775808
def yR(body:Int->α->σ->Option (β⊕σ))(fin:σ->Option β):Int->List α->σ->Option β
 |_,[],s=>fin s
 |i,e::l,s=>(body i e s).bind λ z=>match z with
  |.inl y=>some y
  |.inr s'=>yR body fin (i+1) l s'
def y2y(body:Int->σ->Option (β⊕σ))(fin:σ->Option β):Nat->Int->σ->Option β
 |0,_,s=>fin s
 |m+1,i,s=>(body i s).bind λ z=>match z with
  |.inl y=>some y
  |.inr s'=>y2y body fin m (i+1) s'
def elim(f:β->Option R)(g:σ->Option R):β⊕σ->Option R
 |.inl y=>f y
 |.inr s=>g s
theorem y68{i:Int}(h0:0<=i)(h1:i < 9223372036854775807):i64.wrap (i+1)=i+1:=by
 have h2:(i+1) % 2 ^ 64=i+1:=Int.emod_eq_of_lt (by omega) (by omega)
 unfold IntKind.wrap IntKind.bits IntKind.signed;simp only[h2];have h3:¬ (i+1 >= 2 ^ (64 - 1)):=by omega
 simp[h3];omega
theorem yMR(xs:List α)(i:Nat):idx xs (i:Int)=xs[i]?:=by
 unfold idx;rw[if_pos (Int.natCast_nonneg i)];rfl
theorem yo{W:Nat->Int->σ->Option R}{xs:List α}{body:Int->α->σ->Option (β⊕σ)}{fin:σ->Option β}
  (h:∀ (k:Nat) (i:Int) (s:σ),LeF (elim f λ s'=>W k (i64.wrap (i+1)) s')
   (bif decide (i < (xs.length:Int))then (idx xs i).bind λ e=>body i e s else (fin s).map .inl) (W (k+1) i s))
  (hx:xs.length < yB) (s:σ) (k:Nat) (hk:xs.length < k):LeF f (yR body fin 0 xs s) (W k 0 s):=by
 have key:∀ (rest done:List α) (k:Nat) (s:σ),xs=done++rest->rest.length < k->LeF f (yR body fin (done.length:Int) rest s) (W k (done.length:Int) s):=by
  intro rest;induction rest with
  |nil =>
   intro done k s hd hk y hy;cases k with
   |zero=>omega
   |succ k =>
    refine h k _ s y ?_
    have hl:xs.length=done.length:=by rw[hd];simp
    have:decide ((done.length:Int) < (xs.length:Int))=false:=by simp;omega
    rw[this];simp only[cond_false];simp only[yR]at hy;cases hf:fin s with
    |none=>rw[hf]at hy;cases hy
    |some z=>rw[hf]at hy;exact hy
  |cons e rest ih =>
   intro done k s hd hk y hy;cases k with
   |zero=>simp at hk
   |succ k =>
    refine h k _ s y ?_
    have hl:xs.length=done.length+(rest.length+1):=by rw[hd];simp
    have:decide ((done.length:Int) < (xs.length:Int))=true:=by simp;omega
    rw[this];simp only[cond_true];have hg:xs[done.length]?=some e:=by rw[hd];simp
    rw[yMR,hg];simp only[bind_some];simp only[yR]at hy;cases hb:body (done.length:Int) e s with
    |none=>rw[hb]at hy;cases hy
    |some z =>
     rw[hb]at hy;simp only[bind_some]at hy ⊢;cases z with
     |inl v=>exact hy
     |inr s' =>
      show W k (i64.wrap ((done.length:Int)+1)) s'=some y
      have hw:i64.wrap ((done.length:Int)+1)=((done++[e]).length:Int):=by
       rw[y68 (by omega) (by unfold yB at hx;omega)]
       simp
      rw[hw];refine ih (done++[e]) k s' (by rw[hd];simp) (by simp at hk;omega) y ?_
      have:((done++[e]).length:Int)=(done.length:Int)+1:=by simp
      rw[this];exact hy
 exact key xs [] k s rfl hk
theorem y4a{W:Nat->Int->σ->Option R}{N:Int}{body:Int->σ->Option (β⊕σ)}{fin:σ->Option β}
  (h:∀ (k:Nat) (i:Int) (s:σ),LeF (elim f λ s'=>W k (i64.wrap (i+1)) s')
   (bif decide (i < N)then body i s else (fin s).map .inl) (W (k+1) i s))
  (hN:N<=9223372036854775807) (s:σ) (k:Nat) (i0:Int) (h0:0<=i0) (hk:(N - i0).toNat < k):LeF f (y2y body fin (N - i0).toNat i0 s) (W k i0 s):=by
 have key:∀ (m k:Nat) (i:Int) (s:σ),0<=i->m=(N - i).toNat->m < k->LeF f (y2y body fin m i s) (W k i s):=by
  intro m;induction m with
  |zero =>
   intro k i s hi hm hk y hy;cases k with
   |zero=>omega
   |succ k =>
    refine h k _ s y ?_
    have:decide (i < N)=false:=by simp;omega
    rw[this];simp only[cond_false];simp only[y2y]at hy;cases hf:fin s with
    |none=>rw[hf]at hy;cases hy
    |some z=>rw[hf]at hy;exact hy
  |succ m ih =>
   intro k i s hi hm hk y hy;cases k with
   |zero=>omega
   |succ k =>
    refine h k _ s y ?_
    have:decide (i < N)=true:=by simp;omega
    rw[this];simp only[cond_true];simp only[y2y]at hy;cases hb:body i s with
    |none=>rw[hb]at hy;cases hy
    |some z =>
     rw[hb]at hy;simp only[bind_some]at hy ⊢;cases z with
     |inl v=>exact hy
     |inr s' =>
      show W k (i64.wrap (i+1)) s'=some y
      rw[y68 hi (by omega)]
      exact ih k (i+1) s' (by omega) (by omega) (by omega) y hy
 exact key _ k i0 s h0 rfl hk
def yJV(N:σ->Int)(body:Int->σ->Option (β⊕σ))(fin:σ->Option β):Nat->Int->σ->Option β
 |0,i,s=>bif decide (i < N s)then none else fin s
 |m+1,i,s=>bif decide (i < N s)then (body i s).bind λ z=>match z with
  |.inl y=>some y
  |.inr s'=>yJV N body fin m (i+1) s' else fin s
def y98(xs:List UInt8)(body:Int->σ->Option (β⊕σ))(fin:σ->Option β):Nat->Int->σ->Option β
 |0,i,s=>bif decide (i < (xs.length:Int))then none else fin s
 |m+1,i,s=>bif decide (i < (xs.length:Int))then (body i s).bind λ z=>match z with
  |.inl y=>some y
  |.inr s'=>y98 xs body fin m (yf xs i).2 s' else fin s
theorem yKz{W:Nat->Int->σ->Option R}{xs:List UInt8}{body:Int->σ->Option (β⊕σ)}{fin:σ->Option β}
  (h:∀ (k:Nat) (i:Int) (s:σ),LeF (elim f λ s'=>W k (yf xs i).2 s')
   (bif decide (i < (xs.length:Int))then body i s else (fin s).map .inl) (W (k+1) i s))
  (s:σ) (k:Nat) (hk:xs.length < k):LeF f (y98 xs body fin xs.length 0 s) (W k 0 s):=by
 have key:∀ (m k:Nat) (i:Int) (s:σ),m < k->LeF f (y98 xs body fin m i s) (W k i s):=by
  intro m;induction m with
  |zero =>
   intro k i s hk y hy;cases k with
   |zero=>omega
   |succ k =>
    refine h k _ s y ?_
    simp only[y98]at hy;cases hd:decide (i < (xs.length:Int))with
    |true=>rw[hd]at hy;cases hy
    |false =>
     rw[hd]at hy;simp only[cond_false]at hy ⊢;cases hf:fin s with
     |none=>rw[hf]at hy;cases hy
     |some z=>rw[hf]at hy;exact hy
  |succ m ih =>
   intro k i s hk y hy;cases k with
   |zero=>omega
   |succ k =>
    refine h k _ s y ?_
    simp only[y98]at hy;cases hd:decide (i < (xs.length:Int))with
    |false =>
     rw[hd]at hy;simp only[cond_false]at hy ⊢;cases hf:fin s with
     |none=>rw[hf]at hy;cases hy
     |some z=>rw[hf]at hy;exact hy
    |true =>
     rw[hd]at hy;simp only[cond_true]at hy ⊢;cases hb:body i s with
     |none=>rw[hb]at hy;cases hy
     |some z =>
      rw[hb]at hy;simp only[bind_some]at hy ⊢;cases z with
      |inl v=>exact hy
      |inr s'=>exact ih k _ s' (by omega) y hy
 exact key _ k 0 s hk
end
theorem y1I{β γ R:Type}{f:γ->Option R}{g:β->γ}{a:Option β}{b:Option R}(h:LeF (λ z=>f (g z)) a b):LeF f (a.map g) b:=by
 intro y hy;refine h y ?_
 cases a with
 |none=>cases hy
 |some z=>exact hy
theorem yl{β R:Type}{f:β->Option R}{c:Prop}[Decidable c]{a:Option β}{b:Option R}(h:c->LeF f a b):LeF f (bif decide c then a else none) b:=by
 intro y hy;by_cases hc:c
 ·rw[decide_eq_true hc]at hy;exact h hc y hy
 ·rw[decide_eq_false hc]at hy;cases hy
end Go.Tw
