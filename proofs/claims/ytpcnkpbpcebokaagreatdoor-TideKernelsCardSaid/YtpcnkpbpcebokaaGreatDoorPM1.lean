import Derived.Test.YtpcnkpbpcebokaaGreatDoorPT
set_option linter.all false
set_option maxRecDepth 100000
namespace Go.Tw
open Go.Vx Go.Vx.B Go.Proofs
noncomputable def innS(a b:Con)(s:Int×Int)(t:Int):Int×Int:=
 let z:=(z1J (s.1,s.2,()) (z1B (z0A (chr a t)).1 (chr b t)).1).1;(z.1,z.2.1)
noncomputable def innW(T:List Int)(a b:Con):Gau:=let s:=T.foldl (innS a b) (0,0);(s.1,s.2,())
theorem yDD{r:Rec}(h:okR r){a b:Con}(ha:y1t a)(hb:y1t b):yAi r a b=some (innW (tks r) a b,()):=by
 have hl:=h.len;have hs:=h.start;unfold yAi;rw[bifT (y5 (show r.2.2.1.length < lenMax by unfold lenMax;omega))]
 refine (yAc h (λ s:Int×Int=>some ((s.1,s.2,()),())) (λ i x s=>some (.inr (innS a b s (r.2.1+i)))) (λ g s=>rfl) (λ i x g s hi hx hg=>?_) (0,0)).trans ?_
 ·dsimp only;unfold yFF;refine (y5k (i:=(i:Int)) (λ g=>rfl) g wMax hg).trans ?_
  generalize g.dropWhile (λ s=>decide (s.2.1<=(i:Int)))=g'
  unfold yAO;rw[yBB,y8P hx];simp only[Option.bind_some];rw[y25 (i:=r.2.1+(i:Int)) (by omega) (by omega),yTu ha ⟨by omega,by omega⟩,yTu hb ⟨by omega,by omega⟩]
  rfl
 ·rw[y9f (λ s (q:Int×Nat)=>innS a b s (r.2.1+q.1)) _ _ _ λ i e s _=>rfl]
  unfold innW tks;rw[List.foldl_map]
theorem yCO{T:List Int}(hT:∀ t∈T,y4Z t)(hl:T.length < lenMax){a b:Con}(ha:y1t a)(hb:y1t b):y8u T a b=some (innW T a b,()):=by
 unfold y8u;rw[bifT (y5 hl)];have key:∀ (l done:List Int) (s:Int×Int),T=done++l ->
   yM (λ i__ e__ s__=>y93 T a b 0 0 i__ e__ s__.1 s__.2) (λ s__=>yGW T a b 0 0 s__.1 s__.2) (done.length:Int) l s=some (((l.foldl (innS a b) s).1,(l.foldl (innS a b) s).2,()),()):=by
  intro l;induction l with
  |nil=>intro done s _;rfl
  |cons t l ih =>
   intro done s hd;have ht:=hT t (by rw[hd];simp)
   have hi:idx T (done.length:Int)=some t:=by rw[ym,hd];simp
   have hbd:y93 T a b 0 0 (done.length:Int) t s.1 s.2=some (.inr (innS a b s t)):=by
    unfold y93;rw[yBK ha ht,hi];simp only[Option.bind_some];rw[yBK hb ht];rfl
   rw[yk];simp only[hbd,Option.bind_some];have:=ih (done++[t]) (innS a b s t) (by rw[hd];simp)
   simp only[List.length_append,List.length_cons,List.length_nil]at this;exact this
 have k:=key T [] (0,0) rfl;exact k
noncomputable def norW(T:List Int)(l:List Con):List (List Gau):=l.map λ a=>l.map λ b=>innW T a b
theorem y9i{r:Rec}(h:okR r){l:List Con}(hl:l.length<=8)(hc:∀ c∈l,y1t c):y7o r l=some (norW (tks r) l,()):=by
 have hmem:memMax=68719476736:=rfl;unfold y7o yNh z8_M;rw[bifT (y5 (show l.length < lenMax by unfold lenMax;omega)),y2D (λ a=>l.map λ b=>innW (tks r) a b) l 0 [] (by simp;omega) λ i a s ha hs=>by
  unfold yMk;show Option.bind (yIA a l r) _=_
  have e:yIA a l r=some (l.map λ b=>innW (tks r) a b,()):=by
   unfold yIA yME zB_M;rw[bifT (y5 (show l.length < lenMax by unfold lenMax;omega)),y2D (λ b=>innW (tks r) a b) l 0 [] (by simp;omega) λ i b s hb hs=>by
    unfold yKg;show Option.bind (yKw b r a) _=_
    unfold yKw yMG;rw[yDD h (hc a ha) (hc b hb)];simp only[Option.bind_some];rw[bifT (y5 hs)]]
   rfl
  rw[e];simp only[Option.bind_some];rw[bifT (y5 hs)]]
 rfl
theorem y5J{α β:Type}(l:List α)(f:α->β)(d:α):(List.range l.length).map (λ k:Nat=>f ((l[k]?).getD d))=l.map f:=by
 apply List.ext_getElem (by simp)
 intro i h1 h2;simp only[List.length_map,List.length_range]at h1;simp only[List.getElem_map,List.getElem_range];rw[List.getElem?_eq_getElem h1];rfl
theorem y9j{r:Rec}(h:okR r){l:List Con}(hl:l.length<=8)(hc:∀ c∈l,y1t c):yAt r l=some (norW (tks r) l,()):=by
 have hmem:memMax=68719476736:=rfl;have hrl:=h.len;have htl:=yEM r;have htk:=yK5 h;have d0:Con:=([],0,0,());unfold yAt;rw[y56 h];simp only[Option.bind_some];rw[bifT (y5 (by omega)),show ((l.length:Int) - 0).toNat=l.length by omega]
 have row:∀ (j:Nat) (hj:j < l.length) (c0:List (List Gau)),c0.length+1<=memMax->yCH l (tks r) (j:Int) c0=some (.inr (c0++[l.map λ b=>innW (tks r) l[j] b])):=λ j hj c0 hc0=>by
  unfold yCH;rw[bifT (y5 (by omega)),show ((l.length:Int) - 0).toNat=l.length by omega]
  rw[y5S (λ k=>innW (tks r) l[j] ((l[k.toNat]?).getD d0)) l.length 0 [] (by simp;omega) λ k s hk hs=>by
   unfold yG5;rw[show (0:Int)+(k:Int)=(k:Int) by omega,ym,ym,List.getElem?_eq_getElem hj,List.getElem?_eq_getElem hk]
   simp only[Option.bind_some];rw[yCO htk (by unfold lenMax;omega) (hc _ (List.getElem_mem hj)) (hc _ (List.getElem_mem hk))]
   simp only[Option.bind_some];rw[bifT (y5 hs),Int.toNat_natCast,List.getElem?_eq_getElem hk];rfl]
  unfold yFK;rw[bifT (y5 hc0),List.nil_append];have e:(List.range l.length).map (λ k:Nat=>innW (tks r) l[j] ((l[((0:Int)+(k:Int)).toNat]?).getD d0))=l.map λ b=>innW (tks r) l[j] b:=by
   rw[<- y5J l (λ b=>innW (tks r) l[j] b) d0]
   refine List.map_congr_left λ k _=>?_
   rw[show ((0:Int)+(k:Int)).toNat=k by omega]
  rw[e]
 rw[y5S (λ j=>l.map λ b=>innW (tks r) ((l[j.toNat]?).getD d0) b) l.length 0 [] (by simp;omega) λ j s hj hs=>by
  rw[show (0:Int)+(j:Int)=(j:Int) by omega,row j hj s hs,Int.toNat_natCast,List.getElem?_eq_getElem hj]
  rfl]
 unfold yEv norW;rw[List.nil_append,<- y5J l (λ a=>l.map λ b=>innW (tks r) a b) d0]
 congr 2
 refine List.map_congr_left λ k _=>?_
 rw[show ((0:Int)+(k:Int)).toNat=k by omega]
noncomputable def y4d(r:Rec)(l:List Con):Int:=yT (yBv r) (y7d l)
theorem y9u(r:Rec)(l:List Con)(hn:r.1.length < lenMax)(hl:r.2.2.1.length < lenMax)(hg:r.2.2.2.1.length < lenMax)(hnl:∀ n∈l,n.1.length < lenMax)(hll:l.length < lenMax):y50 r l=some (y4d r l,()):=by
 unfold y50 yLr;rw[yMD r hn hl hg,yNi l hnl hll];simp only[Option.bind_some];rw[y2F _ (y4V _ _),yW,yW,y1F,y0V];rfl
theorem yQN(r:Rec)(l:List Con)(hg:r.2.2.2.1.length < lenMax):yLl r l=some (y4d r l,()):=by
 unfold yLl yN9;rw[yMv r hg,yOE];simp only[Option.bind_some];rw[y5W _ (y4V _ _),yW,yW,y1F,y0V];rfl
theorem y8F{r:Rec}{l:List Con}(h:y4d r l=0):okR r/\(tks r).length<=128/\(0 < l.length/\l.length<=4)/\∀ c∈l,y1t c:=by
 obtain ⟨h1,h2⟩:=yU h;obtain ⟨h3,h4⟩:=yU h1;obtain ⟨a1,a2,a3⟩:=yIY h2;refine ⟨yB5 h3,?_,⟨a1,a2⟩,a3⟩;by_cases q:128 < (tks r).length
 ·rw[if_pos q]at h4;cases h4
 ·omega
end Go.Tw
