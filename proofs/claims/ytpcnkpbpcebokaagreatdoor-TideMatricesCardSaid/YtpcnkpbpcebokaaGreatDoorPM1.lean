import Derived.Test.YtpcnkpbpcebokaaGreatDoorPT
set_option linter.all false
set_option maxRecDepth 100000
namespace Go.Tw
open Go.Vx Go.Vx.B Go.Proofs
noncomputable def innS(a b:Con)(s:Int×Int)(t:Int):Int×Int:=
 let z:=(z1E (s.1,s.2,()) (z17 (z03 (chr a t)).1 (chr b t)).1).1;(z.1,z.2.1)
noncomputable def innW(T:List Int)(a b:Con):Gau:=let s:=T.foldl (innS a b) (0,0);(s.1,s.2,())
theorem yC2{r:Rec}(h:okR r){a b:Con}(ha:y2A a)(hb:y2A b):y8d r a b=some (innW (tks r) a b,()):=by
 have hl:=h.len;have hs:=h.start;unfold y8d;rw[bifT (y7 (show r.2.2.1.length < lenMax by unfold lenMax;omega))]
 refine (yGU h (λ s:Int×Int=>some ((s.1,s.2,()),())) (λ i x s=>some (.inr (innS a b s (r.2.1+i)))) (λ g s=>rfl) (λ i x g s hi hx hg=>?_) (0,0)).trans ?_
 ·dsimp only;unfold yG0;refine (y7O (i:=(i:Int)) (λ g=>rfl) g wMax hg).trans ?_
  generalize g.dropWhile (λ s=>decide (s.2.1<=(i:Int)))=g'
  unfold yAS;rw[yFW,yCt hx];simp only[Option.bind_some];rw[y1s (i:=r.2.1+(i:Int)) (by omega) (by omega),yYN ha ⟨by omega,by omega⟩,yYN hb ⟨by omega,by omega⟩]
  rfl
 ·rw[y9Q (λ s (q:Int×Nat)=>innS a b s (r.2.1+q.1)) _ _ _ λ i e s _=>rfl]
  unfold innW tks;rw[List.foldl_map]
theorem yBW{T:List Int}(hT:∀ t∈T,y9W t)(hl:T.length < lenMax){a b:Con}(ha:y2A a)(hb:y2A b):y8t T a b=some (innW T a b,()):=by
 unfold y8t;rw[bifT (y7 hl)];have key:∀ (l done:List Int) (s:Int×Int),T=done++l ->
   yP (λ i__ e__ s__=>y9m T a b 0 0 i__ e__ s__.1 s__.2) (λ s__=>yF5 T a b 0 0 s__.1 s__.2) (done.length:Int) l s=some (((l.foldl (innS a b) s).1,(l.foldl (innS a b) s).2,()),()):=by
  intro l;induction l with
  |nil=>intro done s _;rfl
  |cons t l ih =>
   intro done s hd;have ht:=hT t (by rw[hd];simp)
   have hi:idx T (done.length:Int)=some t:=by rw[y0X,hd];simp
   have hbd:y9m T a b 0 0 (done.length:Int) t s.1 s.2=some (.inr (innS a b s t)):=by
    unfold y9m;rw[yFx ha ht,hi];simp only[Option.bind_some];rw[yFx hb ht];rfl
   rw[yz];simp only[hbd,Option.bind_some];have:=ih (done++[t]) (innS a b s t) (by rw[hd];simp)
   simp only[List.length_append,List.length_cons,List.length_nil]at this;exact this
 have k:=key T [] (0,0) rfl;exact k
noncomputable def norW(T:List Int)(l:List Con):List (List Gau):=l.map λ a=>l.map λ b=>innW T a b
theorem y5y{r:Rec}(h:okR r){l:List Con}(hl:l.length<=8)(hc:∀ c∈l,y2A c):y8W r l=some (norW (tks r) l,()):=by
 have hmem:memMax=68719476736:=rfl;unfold y8W yLc z8_M;rw[bifT (y7 (show l.length < lenMax by unfold lenMax;omega)),y3Y (λ a=>l.map λ b=>innW (tks r) a b) l 0 [] (by simp;omega) λ i a s ha hs=>by
  unfold yLp;show Option.bind (yHB a l r) _=_
  have e:yHB a l r=some (l.map λ b=>innW (tks r) a b,()):=by
   unfold yHB yNk zA_M;rw[bifT (y7 (show l.length < lenMax by unfold lenMax;omega)),y3Y (λ b=>innW (tks r) a b) l 0 [] (by simp;omega) λ i b s hb hs=>by
    unfold yMQ;show Option.bind (zv_M b r a) _=_
    unfold zv_M zv_m;rw[yC2 h (hc a ha) (hc b hb)];simp only[Option.bind_some];rw[bifT (y7 hs)]]
   rfl
  rw[e];simp only[Option.bind_some];rw[bifT (y7 hs)]]
 rfl
theorem y53{α β:Type}(l:List α)(f:α->β)(d:α):(List.range l.length).map (λ k:Nat=>f ((l[k]?).getD d))=l.map f:=by
 apply List.ext_getElem (by simp)
 intro i h1 h2;simp only[List.length_map,List.length_range]at h1;simp only[List.getElem_map,List.getElem_range];rw[List.getElem?_eq_getElem h1];rfl
theorem y9P{r:Rec}(h:okR r){l:List Con}(hl:l.length<=8)(hc:∀ c∈l,y2A c):yDV r l=some (norW (tks r) l,()):=by
 have hmem:memMax=68719476736:=rfl;have hrl:=h.len;have htl:=yJj r;have htk:=yPk h;have d0:Con:=([],0,0,());unfold yDV;rw[y7f h];simp only[Option.bind_some];rw[bifT (y7 (by omega)),show ((l.length:Int) - 0).toNat=l.length by omega]
 have row:∀ (j:Nat) (hj:j < l.length) (c0:List (List Gau)),c0.length+1<=memMax->yBu l (tks r) (j:Int) c0=some (.inr (c0++[l.map λ b=>innW (tks r) l[j] b])):=λ j hj c0 hc0=>by
  unfold yBu;rw[bifT (y7 (by omega)),show ((l.length:Int) - 0).toNat=l.length by omega]
  rw[y5b (λ k=>innW (tks r) l[j] ((l[k.toNat]?).getD d0)) l.length 0 [] (by simp;omega) λ k s hk hs=>by
   unfold yFZ;rw[show (0:Int)+(k:Int)=(k:Int) by omega,y0X,y0X,List.getElem?_eq_getElem hj,List.getElem?_eq_getElem hk]
   simp only[Option.bind_some];rw[yBW htk (by unfold lenMax;omega) (hc _ (List.getElem_mem hj)) (hc _ (List.getElem_mem hk))]
   simp only[Option.bind_some];rw[bifT (y7 hs),Int.toNat_natCast,List.getElem?_eq_getElem hk];rfl]
  unfold yFa;rw[bifT (y7 hc0),List.nil_append];have e:(List.range l.length).map (λ k:Nat=>innW (tks r) l[j] ((l[((0:Int)+(k:Int)).toNat]?).getD d0))=l.map λ b=>innW (tks r) l[j] b:=by
   rw[<- y53 l (λ b=>innW (tks r) l[j] b) d0]
   refine List.map_congr_left λ k _=>?_
   rw[show ((0:Int)+(k:Int)).toNat=k by omega]
  rw[e]
 rw[y5b (λ j=>l.map λ b=>innW (tks r) ((l[j.toNat]?).getD d0) b) l.length 0 [] (by simp;omega) λ j s hj hs=>by
  rw[show (0:Int)+(j:Int)=(j:Int) by omega,row j hj s hs,Int.toNat_natCast,List.getElem?_eq_getElem hj]
  rfl]
 unfold yEk norW;rw[List.nil_append,<- y53 l (λ a=>l.map λ b=>innW (tks r) a b) d0]
 congr 2
 refine List.map_congr_left λ k _=>?_
 rw[show ((0:Int)+(k:Int)).toNat=k by omega]
noncomputable def y1i(r:Rec)(l:List Con):Int:=yb (yBJ r) (y7W l)
theorem y4E(r:Rec)(l:List Con)(hn:r.1.length < lenMax)(hl:r.2.2.1.length < lenMax)(hg:r.2.2.2.1.length < lenMax)(hnl:∀ n∈l,n.1.length < lenMax)(hll:l.length < lenMax):y4i r l=some (y1i r l,()):=by
 unfold y4i yNh;rw[yM4 r hn hl hg,yLg l hnl hll];simp only[Option.bind_some];rw[y54 _ (y6H _ _),yl,yl,y1b,y0g];rfl
theorem ySq(r:Rec)(l:List Con)(hg:r.2.2.2.1.length < lenMax):yMs r l=some (y1i r l,()):=by
 unfold yMs yNM;rw[yNC r hg,yLz];simp only[Option.bind_some];rw[y8I _ (y6H _ _),yl,yl,y1b,y0g];rfl
theorem y3g{r:Rec}{l:List Con}(h:y1i r l=0):okR r/\(tks r).length<=128/\(0 < l.length/\l.length<=4)/\∀ c∈l,y2A c:=by
 obtain ⟨h1,h2⟩:=yc h;obtain ⟨h3,h4⟩:=yc h1;obtain ⟨a1,a2,a3⟩:=yJ6 h2;refine ⟨y9r h3,?_,⟨a1,a2⟩,a3⟩;by_cases q:128 < (tks r).length
 ·rw[if_pos q]at h4;cases h4
 ·omega
end Go.Tw
