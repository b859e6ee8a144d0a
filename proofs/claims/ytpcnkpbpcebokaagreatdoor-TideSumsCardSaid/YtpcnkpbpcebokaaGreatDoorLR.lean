import Derived.Test.YtpcnkpbpcebokaaGreatDoorLQ
set_option linter.all false
namespace Go.Tw
open Go.Vx
variable {α β R σ:Type} {f:β→Option R}
theorem yNp{c:Bool}{a b:Option β}{a' b':Option R}(hc:c=true)(h:LeF f a a'):LeF f (bif c then a else b) (bif c then a' else b'):=by subst hc;exact h
theorem yR9{c:Bool}{a b:Option β}{a' b':Option R}(hc:c=false)(h:LeF f b b'):LeF f (bif c then a else b) (bif c then a' else b'):=by subst hc;exact h
theorem yHo{W:Nat→Int→σ→Option R}{xs:List α}{body:Int→α→σ→Option (β⊕σ)}{fin:σ→Option β}
  (h:∀ (k:Nat) (i:Int) (s:σ),(i < (xs.length:Int)∨i=(xs.length:Int))→LeF (elim f fun s'=>W k (IntKind.i64.wrap (i+1)) s')
   (bif decide (i < (xs.length:Int))then (idx xs i).bind fun e=>body i e s else (fin s).map .inl) (W (k+1) i s))
  (hx:xs.length < lenMax) (s:σ) (k:Nat) (hk:xs.length < k):LeF f (yQ body fin 0 xs s) (W k 0 s):=by
 have key:∀ (rest done:List α) (k:Nat) (s:σ),xs=done++rest→rest.length < k→LeF f (yQ body fin (done.length:Int) rest s) (W k (done.length:Int) s):=by
  intro rest;induction rest with
  | nil =>
   intro done k s hd hk y hy;cases k with
   | zero=>omega
   | succ k =>
    have hl:xs.length=done.length:=by rw[hd];simp
    refine h k _ s (by omega) y ?_
    have:decide ((done.length:Int) < (xs.length:Int))=false:=by simp;omega
    rw[this];simp only[cond_false];simp only[yQ]at hy;cases hf:fin s with
    | none=>rw[hf]at hy;cases hy
    | some z=>rw[hf]at hy;exact hy
  | cons e rest ih =>
   intro done k s hd hk y hy;cases k with
   | zero=>simp at hk
   | succ k =>
    have hl:xs.length=done.length+(rest.length+1):=by rw[hd];simp
    refine h k _ s (by omega) y ?_
    have:decide ((done.length:Int) < (xs.length:Int))=true:=by simp;omega
    rw[this];simp only[cond_true];have hg:xs[done.length]?=some e:=by rw[hd];simp
    rw[yN1,hg];simp only[Option.bind_some];simp only[yQ]at hy;cases hb:body (done.length:Int) e s with
    | none=>rw[hb]at hy;cases hy
    | some z =>
     rw[hb]at hy;simp only[Option.bind_some]at hy ⊢;cases z with
     | inl v=>exact hy
     | inr s' =>
      show W k (IntKind.i64.wrap ((done.length:Int)+1)) s'=some y
      have hw:IntKind.i64.wrap ((done.length:Int)+1)=((done++[e]).length:Int):=by
       rw[y7d (by omega) (by unfold lenMax at hx;omega)]
       simp
      rw[hw];refine ih (done++[e]) k s' (by rw[hd];simp) (by simp at hk;omega) y ?_
      have:((done++[e]).length:Int)=(done.length:Int)+1:=by simp
      rw[this];exact hy
 exact key xs [] k s rfl hk
end Go.Tw
