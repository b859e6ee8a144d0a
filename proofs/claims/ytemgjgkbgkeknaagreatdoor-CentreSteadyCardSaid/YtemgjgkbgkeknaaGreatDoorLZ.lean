/- LQ: loops that count down to 0, and loops without a counter.
LR: loops over lists whose end names the counter. -/
import Derived.Test.YtemgjgkbgkeknaaGreatDoorLP
open Option (bind_some)
open Go.IntKind (i64)

section
set_option linter.all false
namespace Go.Tw
open Go.Vx
variable {σ β R:Type} {f:β->Option R}

/-- Over the numbers m - 1, .., 0. -/
def yI6(body:Int->σ->Option (β⊕σ))(fin:σ->Option β):Nat->σ->Option β
 |0, s=>fin s
 |m+1, s=>(body (m:Int) s).bind λ z=>match z with
  |.inl y=>some y
  |.inr s'=>yI6 body fin m s'

theorem yJI{i:Int}(h0:0<=i)(h1:i<=9223372036854775807):i64.wrap (i - 1)=i - 1:=by
 unfold IntKind.wrap IntKind.bits IntKind.signed
 simp only[Nat.reduceSub, Int.reducePow, decide_eq_true_eq, Bool.true_and]
 split<;>omega

theorem yLl{W:Nat->Int->σ->Option R}{body:Int->σ->Option (β⊕σ)}{fin:σ->Option β}
  (h:∀ (k:Nat) (i:Int) (s:σ), LeF (elim f λ s'=>W k (i64.wrap (i - 1)) s')
   (bif decide (i >= 0)then body i s else (fin s).map .inl) (W (k+1) i s)) :
  ∀ (m k:Nat) (s:σ), (m:Int)<=9223372036854775808->m < k->LeF f (yI6 body fin m s) (W k ((m:Int) - 1) s):=by
 intro m
 induction m with
 |zero =>
  intro k s hm hk y hy
  cases k with
  |zero=>omega
  |succ k =>
   refine h k _ s y ?_
   have:decide (((0:Nat):Int) - 1 >= 0)=false:=by simp
   rw[this]
   simp only[cond_false]
   simp only[yI6]at hy
   cases hf:fin s with
   |none=>rw[hf]at hy;cases hy
   |some z=>rw[hf]at hy;exact hy
 |succ m ih =>
  intro k s hm hk y hy
  cases k with
  |zero=>omega
  |succ k =>
   refine h k _ s y ?_
   have e:(((m+1:Nat):Int) - 1)=(m:Int):=by omega
   rw[e]
   have:decide ((m:Int) >= 0)=true:=by simp
   rw[this]
   simp only[cond_true]
   simp only[yI6]at hy
   cases hb:body (m:Int) s with
   |none=>rw[hb]at hy;cases hy
   |some z =>
    rw[hb]at hy
    simp only[bind_some]at hy ⊢
    cases z with
    |inl v=>exact hy
    |inr s' =>
     show W k (i64.wrap ((m:Int) - 1)) s'=some y
     rw[yJI (by omega) (by omega)]
     exact ih k s' (by omega) (by omega) y hy

theorem yQl{W:Nat->Int->σ->Option R}{body:Int->σ->Option (β⊕σ)}{fin:σ->Option β}
  (h:∀ (k:Nat) (i:Int) (s:σ), LeF (elim f λ s'=>W k (i64.wrap (i - 1)) s')
   (bif decide (i >= 0)then body i s else (fin s).map .inl) (W (k+1) i s))
  (i0:Int) (hx:-1<=i0/\i0<=9223372036854775807) (s:σ) (k:Nat) (hk:big<=k):LeF f (yI6 body fin (i0+1).toNat s) (W k i0 s):=by
 have e:((((i0+1).toNat:Nat):Int) - 1)=i0:=by omega
 have:=yLl h (i0+1).toNat k s (by omega) (by unfold big at hk;omega)
 rw[e]at this
 exact this

/-- Rounds without a counter: a constant number of them is enough, or nothing is said. -/
def wMax:Nat:=1000000
def yNw(body:σ->Option (β⊕σ)):Nat->σ->Option β
 |0, _=>none
 |m+1, s=>(body s).bind λ z=>match z with
  |.inl y=>some y
  |.inr s'=>yNw body m s'

theorem yQr{W:Nat->σ->Option R}{body:σ->Option (β⊕σ)}
  (h:∀ (k:Nat) (s:σ), LeF (elim f λ s'=>W k s') (body s) (W (k+1) s)) :
  ∀ (m k:Nat) (s:σ), m < k->LeF f (yNw body m s) (W k s):=by
 intro m
 induction m with
 |zero=>intro k s _ y hy;cases hy
 |succ m ih =>
  intro k s hk y hy
  cases k with
  |zero=>omega
  |succ k =>
   refine h k s y ?_
   simp only[yNw]at hy
   cases hb:body s with
   |none=>rw[hb]at hy;cases hy
   |some z =>
    rw[hb]at hy
    simp only[bind_some]at hy ⊢
    cases z with
    |inl v=>exact hy
    |inr s'=>exact ih k s' (by omega) y hy
/-- Over the numbers below a y7E that may grow: a constant number of rounds is enough, or nothing is said. -/
theorem yPx{W:Nat->Int->σ->Option R}{N:σ->Int}{body:Int->σ->Option (β⊕σ)}{fin:σ->Option β}
  (h:∀ (k:Nat) (i:Int) (s:σ), LeF (elim f λ s'=>W k (i64.wrap (i+1)) s')
   (bif decide (i < N s)then body i s else (fin s).map .inl) (W (k+1) i s))
  (s:σ) (k:Nat) (i0:Int) (h0:0<=i0) (h1:i0<=1000) (hk:big<=k):LeF f (yJV N body fin wMax i0 s) (W k i0 s):=by
 have key:∀ (m k:Nat) (i:Int) (s:σ), 0<=i->i+m<=max i 9223372036854775807->m < k->LeF f (yJV N body fin m i s) (W k i s):=by
  intro m
  induction m with
  |zero =>
   intro k i s hi hm hk y hy
   cases k with
   |zero=>omega
   |succ k =>
    refine h k _ s y ?_
    simp only[yJV]at hy
    cases hd:decide (i < N s)with
    |true=>rw[hd]at hy;cases hy
    |false =>
     rw[hd]at hy
     simp only[cond_false]at hy ⊢
     cases hf:fin s with
     |none=>rw[hf]at hy;cases hy
     |some z=>rw[hf]at hy;exact hy
  |succ m ih =>
   intro k i s hi hm hk y hy
   cases k with
   |zero=>omega
   |succ k =>
    refine h k _ s y ?_
    simp only[yJV]at hy
    cases hd:decide (i < N s)with
    |false =>
     rw[hd]at hy
     simp only[cond_false]at hy ⊢
     cases hf:fin s with
     |none=>rw[hf]at hy;cases hy
     |some z=>rw[hf]at hy;exact hy
    |true =>
     rw[hd]at hy
     simp only[cond_true]at hy ⊢
     cases hb:body i s with
     |none=>rw[hb]at hy;cases hy
     |some z =>
      rw[hb]at hy
      simp only[bind_some]at hy ⊢
      cases z with
      |inl v=>exact hy
      |inr s' =>
       show W k (i64.wrap (i+1)) s'=some y
       have hi2:i < 9223372036854775807:=by omega
       rw[y68 hi hi2]
       exact ih k (i+1) s' (by omega) (by omega) (by omega) y hy
 exact key wMax k i0 s h0 (by unfold wMax;omega) (by unfold wMax;unfold big at hk;omega)
end Go.Tw
end

section
set_option linter.all false
namespace Go.Tw
open Go.Vx
variable {α β R σ:Type} {f:β->Option R}

theorem yRv{c:Bool}{a b:Option β}{a' b':Option R}(hc:c=true)(h:LeF f a a'):LeF f (bif c then a else b) (bif c then a' else b'):=by subst hc;exact h
theorem yRb{c:Bool}{a b:Option β}{a' b':Option R}(hc:c=false)(h:LeF f b b'):LeF f (bif c then a else b) (bif c then a' else b'):=by subst hc;exact h

theorem yPg{W:Nat->Int->σ->Option R}{xs:List α}{body:Int->α->σ->Option (β⊕σ)}{fin:σ->Option β}
  (h:∀ (k:Nat) (i:Int) (s:σ), (i < (xs.length:Int)\/i=(xs.length:Int))->LeF (elim f λ s'=>W k (i64.wrap (i+1)) s')
   (bif decide (i < (xs.length:Int))then (idx xs i).bind λ e=>body i e s else (fin s).map .inl) (W (k+1) i s))
  (hx:xs.length < yB) (s:σ) (k:Nat) (hk:xs.length < k):LeF f (yR body fin 0 xs s) (W k 0 s):=by
 have key:∀ (rest done:List α) (k:Nat) (s:σ), xs=done++rest->rest.length < k->LeF f (yR body fin (done.length:Int) rest s) (W k (done.length:Int) s):=by
  intro rest
  induction rest with
  |nil =>
   intro done k s hd hk y hy
   cases k with
   |zero=>omega
   |succ k =>
    have hl:xs.length=done.length:=by rw[hd];simp
    refine h k _ s (by omega) y ?_
    have:decide ((done.length:Int) < (xs.length:Int))=false:=by simp;omega
    rw[this]
    simp only[cond_false]
    simp only[yR]at hy
    cases hf:fin s with
    |none=>rw[hf]at hy;cases hy
    |some z=>rw[hf]at hy;exact hy
  |cons e rest ih =>
   intro done k s hd hk y hy
   cases k with
   |zero=>simp at hk
   |succ k =>
    have hl:xs.length=done.length+(rest.length+1):=by rw[hd];simp
    refine h k _ s (by omega) y ?_
    have:decide ((done.length:Int) < (xs.length:Int))=true:=by simp;omega
    rw[this]
    simp only[cond_true]
    have hg:xs[done.length]?=some e:=by rw[hd];simp
    rw[yMR, hg]
    simp only[bind_some]
    simp only[yR]at hy
    cases hb:body (done.length:Int) e s with
    |none=>rw[hb]at hy;cases hy
    |some z =>
     rw[hb]at hy
     simp only[bind_some]at hy ⊢
     cases z with
     |inl v=>exact hy
     |inr s' =>
      show W k (i64.wrap ((done.length:Int)+1)) s'=some y
      have hw:i64.wrap ((done.length:Int)+1)=((done++[e]).length:Int):=by
       rw[y68 (by omega) (by unfold yB at hx;omega)]
       simp
      rw[hw]
      refine ih (done++[e]) k s' (by rw[hd];simp) (by simp at hk;omega) y ?_
      have:((done++[e]).length:Int)=(done.length:Int)+1:=by simp
      rw[this]
      exact hy
 exact key xs [] k s rfl hk
end Go.Tw
end
