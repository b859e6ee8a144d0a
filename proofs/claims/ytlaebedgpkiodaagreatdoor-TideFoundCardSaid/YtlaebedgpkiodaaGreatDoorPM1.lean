import Derived.Test.YtlaebedgpkiodaaGreatDoorPT
set_option linter.all false
set_option maxRecDepth 100000
open Option (bind_some)
namespace Go.Tw
open Go.Vx Go.Vx.B Go.Proofs
noncomputable def innS(a b:Con)(s:Int×Int)(t:Int):Int×Int:=
 let z:=(z0m (s.1,s.2,()) (z0h (zr (chr a t)).1 (chr b t)).1).1;(z.1,z.2.1)
noncomputable def innW(T:List Int)(a b:Con):Gau:=let s:=T.foldl (innS a b) (0,0);(s.1,s.2,())
theorem yKW{r:Rec}(h:okR r){a b:Con}(ha:y45 a)(hb:y45 b):yIB r a b=some (innW (tks r) a b,()):=by
 have hl:=h.len;have hs:=h.start;unfold yIB;rw[bifT (yB (show r.2.2.1.length < lenMax by unfold lenMax;omega))]
 refine (y5z h (λ s:Int×Int=>some ((s.1,s.2,()),())) (λ i x s=>some (.inr (innS a b s (r.2.1+i)))) (λ g s=>rfl) (λ i x g s hi hx hg=>?_) (0,0)).trans ?_
 ·dsimp only;unfold yKi;refine (y3A (i:=(i:Int)) (λ g=>rfl) g wMax hg).trans ?_
  generalize g.dropWhile (λ s=>decide (s.2.1<=(i:Int)))=g'
  unfold yBq;rw[y6M,y4U hx];simp only[bind_some];rw[yw (i:=r.2.1+(i:Int)) (by omega) (by omega),yMs ha ⟨by omega,by omega⟩,yMs hb ⟨by omega,by omega⟩]
  rfl
 ·rw[y3E (λ s (q:Int×Nat)=>innS a b s (r.2.1+q.1)) _ _ _ λ i e s _=>rfl]
  unfold innW tks;rw[List.foldl_map]
noncomputable def norW(T:List Int)(l:List Con):List (List Gau):=l.map λ a=>l.map λ b=>innW T a b
theorem yAM{r:Rec}(h:okR r){l:List Con}(hl:l.length<=8)(hc:∀ c∈l,y45 c):y9Q r l=some (norW (tks r) l,()):=by
 have hmem:memMax=68719476736:=rfl;unfold y9Q yP7 z8_M;rw[bifT (yB (show l.length < lenMax by unfold lenMax;omega)),y0p (λ a=>l.map λ b=>innW (tks r) a b) l 0 [] (by simp;omega) λ i a s ha hs=>by
  unfold yOr;show Option.bind (zz_M a l r) _=_
  have e:zz_M a l r=some (l.map λ b=>innW (tks r) a b,()):=by
   unfold zz_M zz_m zA_M;rw[bifT (yB (show l.length < lenMax by unfold lenMax;omega)),y0p (λ b=>innW (tks r) a b) l 0 [] (by simp;omega) λ i b s hb hs=>by
    unfold yNF;show Option.bind (zk_M b r a) _=_
    unfold zk_M zk_m;rw[yKW h (hc a ha) (hc b hb)];simp only[bind_some];rw[bifT (yB hs)]]
   rfl
  rw[e];simp only[bind_some];rw[bifT (yB hs)]]
 rfl
noncomputable def y4z(r:Rec)(l:List Con):Int:=yQ (y8R r) (y26 l)
theorem y6a(r:Rec)(l:List Con)(hn:r.1.length < lenMax)(hl:r.2.2.1.length < lenMax)(hg:r.2.2.2.1.length < lenMax)(hnl:∀ n∈l,n.1.length < lenMax)(hll:l.length < lenMax):y6l r l=some (y4z r l,()):=by
 unfold y6l yQG;rw[yFh r hn hl hg,yFs l hnl hll];simp only[bind_some];rw[y1C _ (y6C _ _),yU,yU,y1T,y0b];rfl
theorem yCQ{r:Rec}{l:List Con}(h:y4z r l=0):okR r/\(tks r).length<=128/\(0 < l.length/\l.length<=4)/\∀ c∈l,y45 c:=by
 obtain ⟨h1,h2⟩:=yI h;obtain ⟨h3,h4⟩:=yI h1;obtain ⟨a1,a2,a3⟩:=y3N h2;refine ⟨y5k h3,?_,⟨a1,a2⟩,a3⟩;by_cases q:128 < (tks r).length
 ·rw[if_pos q]at h4;cases h4
 ·omega
end Go.Tw
