import Derived.Test.YtpcnkpbpcebokaaGreatDoorPT
set_option linter.all false
set_option maxRecDepth 100000
namespace Go.Tw
open Go.Vx Go.Vx.B Go.Proofs
noncomputable def innS(a b:Con)(s:Int×Int)(t:Int):Int×Int :=
 let z:=(z1M (s.1,s.2,()) (z1F (z05 (chr a t)).1 (chr b t)).1).1;(z.1,z.2.1)
noncomputable def innW(T:List Int)(a b:Con):Gau:=let s:=T.foldl (innS a b) (0,0);(s.1,s.2,())
theorem yKn{r:Rec}(h:okR r){a b:Con}(ha:y3F a)(hb:y3F b):yAP r a b=some (innW (tks r) a b,()):=by
 have hl:=h.len;have hs:=h.start;unfold yAP;rw[bifT (y5 (show r.2.2.1.length < lenMax by unfold lenMax;omega))]
 refine (y7B h (λ s:Int×Int=>some ((s.1,s.2,()),())) (λ i x s=>some (.inr (innS a b s (r.2.1+i)))) (λ g s=>rfl) (λ i x g s hi hx hg=>?_) (0,0)).trans ?_
 ·dsimp only;unfold yGc;refine (y3g (i:=(i:Int)) (λ g=>rfl) g wMax hg).trans ?_
  generalize g.dropWhile (λ s=>decide (s.2.1<=(i:Int)))=g'
  unfold yBG;rw[y6l,y5M hx];simp only[Option.bind_some];rw[y1u (i:=r.2.1+(i:Int)) (by omega) (by omega),yRk ha ⟨by omega,by omega⟩,yRk hb ⟨by omega,by omega⟩]
  rfl
 ·rw[y4P (λ s (q:Int×Nat)=>innS a b s (r.2.1+q.1)) _ _ _ λ i e s _=>rfl]
  unfold innW tks;rw[List.foldl_map]
theorem yJv{T:List Int}(hT:∀ t∈T,y9X t)(hl:T.length < lenMax){a b:Con}(ha:y3F a)(hb:y3F b):yDI T a b=some (innW T a b,()):=by
 unfold yDI;rw[bifT (y5 hl)];have key:∀ (l done:List Int) (s:Int×Int),T=done++l ->
   yM (λ i__ e__ s__=>y9i T a b 0 0 i__ e__ s__.1 s__.2) (λ s__=>yGx T a b 0 0 s__.1 s__.2) (done.length:Int) l s=some (((l.foldl (innS a b) s).1,(l.foldl (innS a b) s).2,()),()):=by
  intro l;induction l with
  | nil=>intro done s _;rfl
  | cons t l ih =>
   intro done s hd;have ht:=hT t (by rw[hd];simp)
   have hi:idx T (done.length:Int)=some t:=by rw[yu,hd];simp
   have hbd:y9i T a b 0 0 (done.length:Int) t s.1 s.2=some (.inr (innS a b s t)):=by
    unfold y9i;rw[yAd ha ht,hi];simp only[Option.bind_some];rw[yAd hb ht];rfl
   rw[yT];simp only[hbd,Option.bind_some];have:=ih (done++[t]) (innS a b s t) (by rw[hd];simp)
   simp only[List.length_append,List.length_cons,List.length_nil]at this;exact this
 have k:=key T [] (0,0) rfl;exact k
noncomputable def norW(T:List Int)(l:List Con):List (List Gau):=l.map λ a=>l.map λ b=>innW T a b
theorem yHq{r:Rec}(h:okR r){l:List Con}(hl:l.length<=8)(hc:∀ c∈l,y3F c):y90 r l=some (norW (tks r) l,()):=by
 have hmem:memMax=68719476736:=rfl;unfold y90 yOc z8_M;rw[bifT (y5 (show l.length < lenMax by unfold lenMax;omega)),y1M (λ a=>l.map λ b=>innW (tks r) a b) l 0 [] (by simp;omega) λ i a s ha hs=>by
  unfold yLv;show Option.bind (yHC a l r) _=_
  have e:yHC a l r=some (l.map λ b=>innW (tks r) a b,()):=by
   unfold yHC yOY zA_M;rw[bifT (y5 (show l.length < lenMax by unfold lenMax;omega)),y1M (λ b=>innW (tks r) a b) l 0 [] (by simp;omega) λ i b s hb hs=>by
    unfold yJC;show Option.bind (zv_M b r a) _=_
    unfold zv_M zv_m;rw[yKn h (hc a ha) (hc b hb)];simp only[Option.bind_some];rw[bifT (y5 hs)]]
   rfl
  rw[e];simp only[Option.bind_some];rw[bifT (y5 hs)]]
 rfl
theorem y3q{α β:Type}(l:List α)(f:α->β)(d:α):(List.range l.length).map (λ k:Nat=>f ((l[k]?).getD d))=l.map f:=by
 apply List.ext_getElem (by simp)
 intro i h1 h2;simp only[List.length_map,List.length_range]at h1;simp only[List.getElem_map,List.getElem_range];rw[List.getElem?_eq_getElem h1];rfl
theorem y9R{r:Rec}(h:okR r){l:List Con}(hl:l.length<=8)(hc:∀ c∈l,y3F c):yA6 r l=some (norW (tks r) l,()):=by
 have hmem:memMax=68719476736:=rfl;have hrl:=h.len;have htl:=yE1 r;have htk:=ybI h;have d0:Con:=([],0,0,());unfold yA6;rw[y5L h];simp only[Option.bind_some];rw[bifT (y5 (by omega)),show ((l.length:Int) - 0).toNat=l.length by omega]
 have row:∀ (j:Nat) (hj:j < l.length) (c0:List (List Gau)),c0.length+1<=memMax->yCz l (tks r) (j:Int) c0=some (.inr (c0++[l.map λ b=>innW (tks r) l[j] b])):=λ j hj c0 hc0=>by
  unfold yCz;rw[bifT (y5 (by omega)),show ((l.length:Int) - 0).toNat=l.length by omega]
  rw[y2C (λ k=>innW (tks r) l[j] ((l[k.toNat]?).getD d0)) l.length 0 [] (by simp;omega) λ k s hk hs=>by
   unfold yFG;rw[show (0:Int)+(k:Int)=(k:Int) by omega,yu,yu,List.getElem?_eq_getElem hj,List.getElem?_eq_getElem hk]
   simp only[Option.bind_some];rw[yJv htk (by unfold lenMax;omega) (hc _ (List.getElem_mem hj)) (hc _ (List.getElem_mem hk))]
   simp only[Option.bind_some];rw[bifT (y5 hs),Int.toNat_natCast,List.getElem?_eq_getElem hk];rfl]
  unfold yGZ;rw[bifT (y5 hc0),List.nil_append];have e:(List.range l.length).map (λ k:Nat=>innW (tks r) l[j] ((l[((0:Int)+(k:Int)).toNat]?).getD d0))=l.map λ b=>innW (tks r) l[j] b:=by
   rw[<- y3q l (λ b=>innW (tks r) l[j] b) d0]
   refine List.map_congr_left λ k _=>?_
   rw[show ((0:Int)+(k:Int)).toNat=k by omega]
  rw[e]
 rw[y2C (λ j=>l.map λ b=>innW (tks r) ((l[j.toNat]?).getD d0) b) l.length 0 [] (by simp;omega) λ j s hj hs=>by
  rw[show (0:Int)+(j:Int)=(j:Int) by omega,row j hj s hs,Int.toNat_natCast,List.getElem?_eq_getElem hj]
  rfl]
 unfold yFY norW;rw[List.nil_append,<- y3q l (λ a=>l.map λ b=>innW (tks r) a b) d0]
 congr 2
 refine List.map_congr_left λ k _=>?_
 rw[show ((0:Int)+(k:Int)).toNat=k by omega]
noncomputable def y3o(r:Rec)(l:List Con):Int:=yd (yDQ r) (y7l l)
theorem y99(r:Rec)(l:List Con)(hn:r.1.length < lenMax)(hl:r.2.2.1.length < lenMax)(hg:r.2.2.2.1.length < lenMax)(hnl:∀ n∈l,n.1.length < lenMax)(hll:l.length < lenMax):y6Z r l=some (y3o r l,()):=by
 unfold y6Z yMA;rw[yNi r hn hl hg,yM9 l hnl hll];simp only[Option.bind_some];rw[y5K _ (y64 _ _),ym,ym,y1Y,y0l];rfl
theorem yUw(r:Rec)(l:List Con)(hg:r.2.2.2.1.length < lenMax):yNm r l=some (y3o r l,()):=by
 unfold yNm yMJ;rw[yNG r hg,yOE];simp only[Option.bind_some];rw[y8E _ (y64 _ _),ym,ym,y1Y,y0l];rfl
theorem y7q{r:Rec}{l:List Con}(h:y3o r l=0):okR r/\(tks r).length<=128/\(0 < l.length/\l.length<=4)/\∀ c∈l,y3F c:=by
 obtain ⟨h1,h2⟩:=yb h;obtain ⟨h3,h4⟩:=yb h1;obtain ⟨a1,a2,a3⟩:=yL2 h2;refine ⟨yBP h3,?_,⟨a1,a2⟩,a3⟩;by_cases q:128 < (tks r).length
 ·rw[if_pos q]at h4;cases h4
 ·omega
end Go.Tw
