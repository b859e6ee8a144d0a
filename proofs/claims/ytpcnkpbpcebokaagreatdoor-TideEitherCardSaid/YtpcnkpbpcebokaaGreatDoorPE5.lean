import Derived.Test.YtpcnkpbpcebokaaGreatDoorPE4
import Derived.Test.YtpcnkpbpcebokaaGreatDoorPN
set_option linter.all false
set_option maxRecDepth 100000
namespace Go.Tw
open Go.Vx Go.Vx.B Go.Proofs
theorem y8Q:∀ (l done:List Con),yBt done l=0->(∀ c∈l,∀ d∈done,d.1≠c.1)/\l.Pairwise λ a b=>a.1≠b.1
 |[],_,_=>⟨λ c hc=>(by cases hc),List.Pairwise.nil⟩
 |n::l,done,h=>by
  obtain ⟨h1,h2⟩:=yH h;obtain ⟨h3,h4⟩:=y8Q l (done++[n]) h2;have h5:=(yH h1).2;have h6:∀ d∈done,d.1≠n.1:=λ d hd he=>by
   have:done.any (λ d=>d.1 == n.1)=true:=List.any_eq_true.2 ⟨d,hd,by simpa using he⟩
   rw[this]at h5;cases h5
  refine ⟨λ c hc d hd=>?_,List.Pairwise.cons (λ c hc=>h3 c hc n (by simp)) h4⟩
  rcases List.mem_cons.1 hc with rfl|hc
  ·exact h6 d hd
  ·exact h3 c hc d (by simp[hd])
theorem y9Y{l:List Con}{i:Nat}(h:i < l.length):atC l i=l[i]:=by
 unfold atC;rw[List.getElem?_eq_getElem h];rfl
theorem yO9{r:Rec}{l:List Con}(h:y0a r l=0){i j:Nat}(hij:i < j)(hj:j < l.length):y0a r [atC l i,atC l j]=0:=by
 obtain ⟨h1,h2⟩:=yH h;unfold y5X at h2;split at h2
 ·cases h2
 ·split at h2
  ·cases h2
  ·have a1:=yAk l [] h2;obtain ⟨_,a2⟩:=y8Q l [] h2;have hn:(atC l i).1≠(atC l j).1:=by
    rw[y9Y (by omega),y9Y hj]
    exact List.pairwise_iff_getElem.1 a2 i j (by omega) hj hij
   have s1:y7b (atC l i)=0:=a1 _ (by rw[y9Y (by omega)];exact List.getElem_mem _)
   have s2:y7b (atC l j)=0:=a1 _ (by rw[y9Y hj];exact List.getElem_mem _)
   unfold y0a;rw[h1,yR];unfold y5X;rw[if_neg (by simp),if_neg (by simp)]
   show yP (conE [] (atC l i)) (yP (conE ([]++[atC l i]) (atC l j)) 0)=0
   unfold conE;rw[s1,s2];have:((([]:List Con)++[atC l i]).any λ d=>d.1 == (atC l j).1)=false:=by simpa using hn
   rw[this];rfl
theorem yCh{α:Type}(P Q:α->Prop)[DecidablePred P][DecidablePred Q](F:List (List Int)->α->List (List Int))(hF:∀ c t,(F c t).length<=c.length+1):∀ (L:List α) (c:List (List Int)),(L.foldl (λ c t=>if P t/\Q t then F c t else c) c).length<=c.length+(L.filter λ t=>decide (P t)).length
 |[],c=>by simp
 |t::L,c=>by
  rw[List.foldl_cons];have ih:=yCh P Q F hF L (if P t/\Q t then F c t else c)
  have h1:=hF c t;by_cases hp:P t
  ·rw[List.filter_cons_of_pos (by simpa using hp),List.length_cons]
   by_cases hq:Q t
   ·rw[if_pos ⟨hp,hq⟩]at ih ⊢;omega
   ·rw[if_neg (λ h=>hq h.2)]at ih ⊢
    omega
  ·rw[List.filter_cons_of_neg (by simpa using hp)]
   rw[if_neg (λ h=>hp h.1)]at ih ⊢
   exact ih
theorem yOQ(r:Rec)(l:List Con):(aliT r l).length<=6:=by
 unfold aliT;refine Nat.le_trans (yCh (λ t=>t / 4 < t % 4) (λ t=>t % 4 < l.length) (λ c t=>y8z r l c (t / 4) (t % 4)) (λ c t=>yDR r l c _ _) (List.range' 0 16) []) ?_
 decide
theorem yPM(r:Rec)(l:List Con):∀ p∈aliT r l,∃ i j:Nat,i < j/\j < l.length/\alk r l i j=true/\p=[(i:Int),(j:Int)]:=by
 have key:∀ (L:List Nat) (c:List (List Int)),(∀ p∈c,∃ i j:Nat,i < j/\j < l.length/\alk r l i j=true/\p=[(i:Int),(j:Int)]) ->
   ∀ p∈L.foldl (λ c t=>if t / 4 < t % 4/\t % 4 < l.length then y8z r l c (t / 4) (t % 4)else c) c,∃ i j:Nat,i < j/\j < l.length/\alk r l i j=true/\p=[(i:Int),(j:Int)]:=by
  intro L;induction L with
  |nil=>intro c h;exact h
  |cons t L ih =>
   intro c h;rw[List.foldl_cons];refine ih _ λ p hp=>?_
   by_cases hc:t / 4 < t % 4/\t % 4 < l.length
   ·rw[if_pos hc]at hp;unfold y8z at hp;by_cases ha:alk r l (t / 4) (t % 4)=true
    ·rw[if_pos ha]at hp;rcases List.mem_append.1 hp with hp|hp
     ·exact h p hp
     ·exact ⟨t / 4,t % 4,hc.1,hc.2,ha,List.mem_singleton.1 hp⟩
    ·rw[if_neg ha]at hp;exact h p hp
   ·rw[if_neg hc]at hp;exact h p hp
 exact key _ [] λ p hp=>by cases hp
theorem yPv{r:Rec}(hT:(tks r).length<=12){l:List Con}{i j:Nat}(h:alk r l i j=true):Dep (tks r) ([atC l i,atC l j].map chr):=by
 obtain ⟨i1,i2⟩:=y4J (T:=tks r) (by omega) (atC l i) (atC l j)
 have i3:bd 12 (ip (tks r) (chr (atC l i)) (chr (atC l j))):=y83 i2 (by omega)
 unfold bd at i3;unfold alk at h;have h1:=eq_of_beq h;unfold sqW z0H at h1;rw[i1]at h1;simp only at h1;have a:=y4e i3.1 i3.1;have b:=y4e i3.2 i3.2;have hn:((tks r).length:Int) * ((tks r).length:Int)<=12 * 12:=Int.mul_le_mul (by omega) (by omega) (by omega) (by omega)
 have hn0:0<=((tks r).length:Int) * ((tks r).length:Int):=Int.mul_nonneg (by omega) (by omega)
 refine yKO (by omega) _ _ ?_
 generalize (ip (tks r) (chr (atC l i)) (chr (atC l j))).1 * (ip (tks r) (chr (atC l i)) (chr (atC l j))).1=A at *;generalize (ip (tks r) (chr (atC l i)) (chr (atC l j))).2.1 * (ip (tks r) (chr (atC l i)) (chr (atC l j))).2.1=B at *;generalize ((tks r).length:Int) * ((tks r).length:Int)=N at *;have w1:IntKind.i64.wrap A=A:=y0o (by omega) (by omega)
 have w2:IntKind.i64.wrap B=B:=y0o (by omega) (by omega)
 have w3:IntKind.i64.wrap (A+B)=A+B:=y0o (by omega) (by omega)
 have w4:IntKind.i64.wrap N=N:=y0o (by omega) (by omega)
 rw[w1,w2,w3,w4]at h1;exact h1
end Go.Tw
