import Derived.Test.YtpcnkpbpcebokaaGreatDoorPT
set_option linter.all false
set_option maxRecDepth 100000
open Option (bind_some)
namespace Go.Tw
open Go.Vx Go.Vx.B Go.Proofs
noncomputable def innS(a b:Con)(s:Int×Int)(t:Int):Int×Int:=
 let z:=(z1A (s.1,s.2,()) (z12 (z03 (chr a t)).1 (chr b t)).1).1;(z.1,z.2.1)
noncomputable def innW(T:List Int)(a b:Con):Gau:=let s:=T.foldl (innS a b) (0,0);(s.1,s.2,())
theorem y7z{r:Rec}(h:okR r){a b:Con}(ha:y3P a)(hb:y3P b):yEd r a b=some (innW (tks r) a b,()):=by
 have hl:=h.len;have hs:=h.start;unfold yEd;rw[bifT (y8 (show r.2.2.1.length < lenMax by unfold lenMax;omega))]
 refine (yBC h (λ s:Int×Int=>some ((s.1,s.2,()),())) (λ i x s=>some (.inr (innS a b s (r.2.1+i)))) (λ g s=>rfl) (λ i x g s hi hx hg=>?_) (0,0)).trans ?_
 ·dsimp only;unfold yIZ;refine (y5b (i:=(i:Int)) (λ g=>rfl) g wMax hg).trans ?_
  generalize g.dropWhile (λ s=>decide (s.2.1<=(i:Int)))=g'
  unfold yBJ;rw[yAu,y8J hx];simp only[bind_some];rw[y0o (i:=r.2.1+(i:Int)) (by omega) (by omega),yP9 ha ⟨by omega,by omega⟩,yP9 hb ⟨by omega,by omega⟩]
  rfl
 ·rw[y62 (λ s (q:Int×Nat)=>innS a b s (r.2.1+q.1)) _ _ _ λ i e s _=>rfl]
  unfold innW tks;rw[List.foldl_map]
noncomputable def norW(T:List Int)(l:List Con):List (List Gau):=l.map λ a=>l.map λ b=>innW T a b
theorem y5y{r:Rec}(h:okR r){l:List Con}(hl:l.length<=8)(hc:∀ c∈l,y3P c):y9A r l=some (norW (tks r) l,()):=by
 have hmem:memMax=68719476736:=rfl;unfold y9A yOe z8_M;rw[bifT (y8 (show l.length < lenMax by unfold lenMax;omega)),y1q (λ a=>l.map λ b=>innW (tks r) a b) l 0 [] (by simp;omega) λ i a s ha hs=>by
  unfold yPO;show Option.bind (yJT a l r) _=_
  have e:yJT a l r=some (l.map λ b=>innW (tks r) a b,()):=by
   unfold yJT yPh zB_M;rw[bifT (y8 (show l.length < lenMax by unfold lenMax;omega)),y1q (λ b=>innW (tks r) a b) l 0 [] (by simp;omega) λ i b s hb hs=>by
    unfold yLh;show Option.bind (zv_M b r a) _=_
    unfold zv_M zv_m;rw[y7z h (hc a ha) (hc b hb)];simp only[bind_some];rw[bifT (y8 hs)]]
   rfl
  rw[e];simp only[bind_some];rw[bifT (y8 hs)]]
 rfl
noncomputable def y0a(r:Rec)(l:List Con):Int:=yP (y9d r) (y5X l)
theorem y2v(r:Rec)(l:List Con)(hn:r.1.length < lenMax)(hl:r.2.2.1.length < lenMax)(hg:r.2.2.2.1.length < lenMax)(hnl:∀ n∈l,n.1.length < lenMax)(hll:l.length < lenMax):y4Z r l=some (y0a r l,()):=by
 unfold y4Z yON;rw[yLj r hn hl hg,yN4 l hnl hll];simp only[bind_some];rw[y2G _ (y5g _ _),yS,yS,y0s,y0R];rfl
theorem yPY(r:Rec)(l:List Con)(hg:r.2.2.2.1.length < lenMax):yIJ r l=some (y0a r l,()):=by
 unfold yIJ yOu;rw[yM5 r hg,yMZ];simp only[bind_some];rw[y85 _ (y5g _ _),yS,yS,y0s,y0R];rfl
theorem y2J{r:Rec}{l:List Con}(h:y0a r l=0):okR r/\(tks r).length<=128/\(0 < l.length/\l.length<=4)/\∀ c∈l,y3P c:=by
 obtain ⟨h1,h2⟩:=yH h;obtain ⟨h3,h4⟩:=yH h1;obtain ⟨a1,a2,a3⟩:=yJD h2;refine ⟨y7L h3,?_,⟨a1,a2⟩,a3⟩;by_cases q:128 < (tks r).length
 ·rw[if_pos q]at h4;cases h4
 ·omega
end Go.Tw
