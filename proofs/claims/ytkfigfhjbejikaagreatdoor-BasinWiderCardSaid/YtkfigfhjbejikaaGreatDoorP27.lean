import Derived.Test.YtkfigfhjbejikaaGreatDoorP26
set_option linter.all false
set_option maxRecDepth 100000
namespace Go.Tw
open Go.Vx Go.Vx.B Go.Proofs
theorem yAi{b:Bas}(hb:BasOK b)(he:∀ x∈b.2.1,EndsOK x):∀ (k:Nat) (l:List Cnd) (v:List Int) (ps:List (Cnd×List Int×List Int)),runD b v l=some ps->Fit b.1.length v->(∀ c∈l,CondOK b c)->k < l.length ->
  ∃ o,(ps.map (·.2.2))[k]?=some o/\runD b o (l.drop (k+1))=some (ps.drop (k+1))/\Fit b.1.length o:=by
 intro k;induction k with
 |zero =>
  intro l v ps hps hv hc hk;cases l with
  |nil=>simp at hk
  |cons c l =>
   simp only[runD]at hps;cases hs:y2X b v c with
   |none=>rw[hs]at hps;cases hps
   |some y =>
    obtain ⟨f,o⟩:=y;rw[hs]at hps;simp only[Option.map_eq_some_iff]at hps;obtain ⟨qs,hq,rfl⟩:=hps;exact ⟨o,rfl,hq,y4G hb he hv (hc c (by simp)) hs⟩
 |succ k ih =>
  intro l v ps hps hv hc hk;cases l with
  |nil=>simp at hk
  |cons c l =>
   simp only[runD]at hps;cases hs:y2X b v c with
   |none=>rw[hs]at hps;cases hps
   |some y =>
    obtain ⟨f,o⟩:=y;rw[hs]at hps;simp only[Option.map_eq_some_iff]at hps;obtain ⟨qs,hq,rfl⟩:=hps;obtain ⟨o2,h1,h2,h3⟩:=ih l o qs hq (y4G hb he hv (hc c (by simp)) hs) (λ x hx=>hc x (by simp[hx])) (by simpa using hk)
    exact ⟨o2,by simpa using h1,by simpa using h2,h3⟩
end Go.Tw
