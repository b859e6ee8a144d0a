import Derived.Test.YtkfigfhjbejikaaGreatDoorPA
import Derived.Test.YtkfigfhjbejikaaGreatDoorBE
import Derived.Test.YtkfigfhjbejikaaGreatDoorB16
import Derived.Test.YtkfigfhjbejikaaGreatDoorB17
set_option linter.all false
open Option (bind_some)
section
set_option maxRecDepth 100000
namespace Go.Tw
open Go.Vx Go.Vx.B Go.Proofs
noncomputable def y2X(b:Bas)(v:List Int)(c:Cnd):Option (List Int×List Int):=
 match yA0 b v c with
 |some (f,o,e,_)=>if e=0 then some (f,o)else none
 |none=>none
theorem yHw(b:Bas)(hb:BasOK b)(v:List Int)(c:Cnd)(hv:v.length=b.1.length)(hc:c.2.2.1.length=b.1.length) :
  (∃ f o,y2X b v c=some (f,o)/\yA0 b v c=some (f,o,0,())/\zi_M b v c=some (f,some o,true,())/\o.length=b.1.length/\y18 o=true) \/
  (y2X b v c=none/\yA0 b v c=some ([],[],4,())/\∃ f o,zi_M b v c=some (f,some o,false,())):=by
 obtain ⟨f,o,⟨h1,h2,h3,h4⟩|⟨h1,h2⟩⟩:=yJ5 b hb v c hv hc
 ·exact .inl ⟨f,o,by unfold y2X;rw[h1];rfl,h1,h2,h3,h4⟩
 ·exact .inr ⟨by unfold y2X;rw[h1];rfl,h1,f,o,h2⟩
noncomputable def runD(b:Bas):List Int->List Cnd->Option (List (Cnd×List Int×List Int))
 |_,[]=>some []
 |v,c::l=>match y2X b v c with
  |none=>none
  |some (f,o)=>(runD b o l).map ((c,f,o)::·)
def psg(x:Cnd×List Int×List Int):Psg:=(x.1,x.2.1,some x.2.2,())
theorem y9n{b:Bas}{v:List Int}{c:Cnd}{l:List Cnd}(h:y2X b v c=none):runD b v (c::l)=none:=by
 simp only[runD,h]
theorem y9w{b:Bas}{v:List Int}{c:Cnd}{l:List Cnd}{f o:List Int}(h:y2X b v c=some (f,o)):runD b v (c::l)=(runD b o l).map ((c,f,o)::·):=by
 simp only[runD,h]
theorem ym{n:Int}(h1:-9223372036854775808<=n)(h2:n<=9223372036854775807):wr n=n:=by
 unfold wr IntKind.wrap IntKind.bits IntKind.signed;simp only[Nat.reduceSub,Int.reducePow,decide_eq_true_eq,Bool.true_and];split<;>omega
theorem yG6{α:Type}(p:List α)(x:α)(h:p.length < memMax):idx (p++[x]) (wr (((p++[x]).length:Int) - 1))=some x/\(p++[x])[(wr (((p++[x]).length:Int) - 1)).toNat]?=some x:=by
 have hm:memMax=68719476736:=rfl;have e:wr (((p++[x]).length:Int) - 1)=(p.length:Int):=by
  rw[show (((p++[x]).length:Int) - 1)=(p.length:Int) by simp]
  exact ym (by omega) (by omega)
 rw[e];exact ⟨y1I p x [] _ rfl,by simp⟩
theorem yMG(b:Bas)(L:List Cnd)(v0 v:List Int)(s:List Psg)(hs:s.length<=memMax)(hall:∀ x∈s,x.2.2.1.isNone=false) :
  yJo b L L b L b L b L b L b L b b v0 L b 0 b v0 L L b v s=some (s,0,()):=by
 unfold yJo;rcases List.eq_nil_or_concat s with rfl|⟨p,x,rfl⟩
 ·rfl
 ·rw[List.concat_eq_append]at *;obtain ⟨e1,e2⟩:=yG6 p x (by simp at hs;omega)
  rw[bifT (yA (show ((p++[x]).length:Int) > 0 by simp))]
  unfold wr at e1 e2;rw[e1];simp only[bind_some];rw[e2];simp only[bind_some];rw[bifF (hall x (by simp))]
theorem yDv(b:Bas)(hb:BasOK b)(L:List Cnd)(v0:List Int):∀ (l:List Cnd) (i:Int) (v:List Int) (s:List Psg),v.length=b.1.length->(∀ c∈l,c.2.2.1.length=b.1.length)->s.length+l.length<=memMax->(∀ x∈s,x.2.2.1.isNone=false) ->
  yL (λ i__ e__ (s__:List Int×List Psg)=>yCL b L L b L b L b L b L b L b b v0 L b 0 b v0 L L b i__ e__ s__.1 s__.2) (λ s__=>yJo b L L b L b L b L b L b L b b v0 L b 0 b v0 L L b s__.1 s__.2) i l (v,s) =
   some (match runD b v l with|some ps=>(s++ps.map psg,0,())|none=>([],4,()))
 |[],i,v,s,hv,hl,hs,hall=>by
  rw[y3R,yMG b L v0 v s (by simpa using hs) hall]
  simp[runD]
 |c::l,i,v,s,hv,hl,hs,hall=>by
  simp only[List.length_cons]at hs;rcases yHw b hb v c hv (hl c (by simp))with ⟨f,o,h1,h2,h3,h4,h5⟩|⟨h1,h2,f,o,h3⟩
  ·have hbody:yCL b L L b L b L b L b L b L b b v0 L b 0 b v0 L L b i c v s=some (Sum.inr (o,s++[((c,f,some o,()):Psg)])):=by
    unfold yCL;rw[show (c.fst,c.snd.fst,c.snd.snd.fst,())=c from rfl,h3]
    simp only[bind_some,Bool.not_true,cond_false];rw[bifT (yA (show s.length+1<=memMax by omega))]
    rfl
   rw[yg];show (Option.bind (yCL b L L b L b L b L b L b L b b v0 L b 0 b v0 L L b i c v s) _)=_
   rw[hbody,y9w h1];simp only[bind_some];rw[yDv b hb L v0 l (i+1) o _ h4 (λ c hc=>hl c (by simp[hc])) (by simp;omega) (by
    intro x hx;rcases List.mem_append.1 hx with hx|hx
    ·exact hall x hx
    ·simp at hx;subst hx;rfl)]
   cases runD b o l with
   |none=>rfl
   |some ps=>simp[psg]
  ·have hbody:yCL b L L b L b L b L b L b L b b v0 L b 0 b v0 L L b i c v s=some (Sum.inl ([],4,())):=by
    unfold yCL;rw[show (c.fst,c.snd.fst,c.snd.snd.fst,())=c from rfl,h3]
    simp only[bind_some,Bool.not_false,cond_true];rw[bifT (yA (show s.length+1<=memMax by omega))]
    obtain ⟨e1,e2⟩:=yG6 s ((c,f,none,()):Psg) (by omega)
    rw[bifT (yA (show ((s++[((c,f,none,()):Psg)]).length:Int) > 0 by simp))]
    unfold wr at e1 e2;rw[e1];simp only[bind_some];rw[e2];rfl
   rw[yg];show (Option.bind (yCL b L L b L b L b L b L b L b b v0 L b 0 b v0 L L b i c v s) _)=_
   rw[hbody,y9n h1];rfl
theorem yF0(b:Bas)(hb:BasOK b)(v:List Int)(l:List Cnd)(hv:v.length=b.1.length)(hl:∀ c∈l,c.2.2.1.length=b.1.length)(hn:l.length<=memMax) :
  zt_M b v l=some (match runD b v l with|some ps=>(ps.map psg,0,())|none=>([],4,())):=by
 have:=y0i;unfold zt_M;rw[bifT (yA (show l.length < lenMax by omega)),yDv b hb l v l 0 v [] hv hl (by simpa using hn) (by simp)]
 rfl
theorem yEu{b:Bas}{c:Cnd}(h:yBF b c=0):(-1024<=c.1/\c.1<=1024)/\c.2.2.1.length=b.1.length/\∀ x∈c.2.2.1,0<=x/\x<=100000:=by
 obtain ⟨h1,h2⟩:=ya h;obtain ⟨h3,h4⟩:=ya h2;refine ⟨y39 h1,?_,λ x hx=>y39 (y07 h4 _ (List.mem_map.2 ⟨x,hx,rfl⟩))⟩
 cases he:((c.2.2.1.length:Int) != (b.1.length:Int))with
 |true=>rw[he]at h3;cases h3
 |false =>
  have h11:(c.2.2.1.length:Int)=(b.1.length:Int):=by simpa using he
  omega
end Go.Tw
end
section
set_option maxRecDepth 100000
namespace Go.Tw
open Go.Vx Go.Vx.B Go.Proofs
theorem y6w{α β:Type}{body:Int->α->Unit->Option (β⊕Unit)}{fin:Unit->Option β}(l:List α)(h:∀ (p:List α) (x:α) (r:List α),l=p++x::r->body (p.length:Int) x ()=some (.inr ())) :
  ∀ (r p:List α) (i:Int),l=p++r->i=(p.length:Int)->yL body fin i r ()=fin ()
 |[],p,i,_,_=>rfl
 |x::r,p,i,hl,hi=>by
  rw[yg,hi,h p x r hl];simp only[bind_some];exact y6w l h r (p++[x]) _ (by rw[hl];simp) (by simp)
noncomputable def y34(b:Bas)(c:Cnd):List Lnk->List Int->List Int->Option (List Int×List Int)
 |[],fs,out=>some (fs,out)
 |x::l,fs,out=>if y18 (mv b c x out)=true then y34 b c l (fs++[fl b c x out]) (mv b c x out)else none
noncomputable def y8T(b:Bas)(v:List Int)(c:Cnd):Option (List Int×List Int):=
 if y18 (y0G v c.2.2.1)=true then y34 b c b.2.1 [] (y0G v c.2.2.1)else none
theorem yGw(b:Bas)(c:Cnd)(h8:b.1.length<=8):∀ (l:List Lnk) (i:Int) (fs out:List Int),(∀ x∈l,LinkOK x b.1.length)->out.length=b.1.length->fs.length+l.length<=memMax ->
  yKg b c i l (out,fs)=some (match y34 b c l fs out with|some (f,o)=>(f,o,0,())|none=>([],[],4,()))
 |[],i,fs,out,_,_,_=>rfl
 |x::l,i,fs,out,hx,hN,hl=>by
  simp only[List.length_cons]at hl;have hL:=hx x (by simp)
  unfold yKg;rw[yg,yAI b c i x hL h8 fs out hN (by omega)]
  simp only[bind_some,y34];by_cases hm:y18 (mv b c x out)=true
  ·rw[bifT hm,if_pos hm];exact yGw b c h8 l (i+1) (fs++[fl b c x out]) (mv b c x out) (λ y hy=>hx y (by simp[hy])) (by rw[y2v];exact hN) (by simp;omega)
  ·rw[bifF (by simpa using hm),if_neg hm]
theorem yO4(b:Bas)(hb:BasOK b)(v:List Int)(c:Cnd)(hv:v.length=b.1.length)(hc:c.2.2.1.length=b.1.length) :
  yA0 b v c=some (match y8T b v c with|some (f,o)=>(f,o,0,())|none=>([],[],4,())):=by
 have h8:=hb.nodes;have hl:=hb.links;have hin:(y0G v c.2.2.1).length=b.1.length:=by rw[y1u v _ (by omega)];exact hv
 have hmem:memMax=68719476736:=rfl;have hr:yA0 b v c=y8v b c (y0G v c.2.2.1):=by
  unfold yA0;rw[bifT (yA (show 0+v.length<=memMax by omega)),bifT (yA (show (v.length:Int)<=9223372036854775807 by omega))]
  have:=yBj b c v.length c.2.2.1 v [] [] 0 rfl rfl rfl (by omega) rfl
  rw[List.nil_append,List.nil_append]at this;rw[show ((v.length:Int) - 0).toNat=v.length by omega]
  exact this
 rw[hr];unfold y8v y8T;rw[y6i _ (by rw[hin];unfold lenMax;omega)]
 simp only[bind_some];by_cases hf:y18 (y0G v c.2.2.1)=true
 ·rw[if_pos hf,hf];simp only[Bool.not_true,cond_false];rw[bifT (yA (show b.2.1.length < lenMax by unfold lenMax;omega))]
  exact yGw b c h8 b.2.1 0 [] (y0G v c.2.2.1) hb.link hin (by simp;omega)
 ·rw[if_neg hf,show y18 (y0G v c.2.2.1)=false by simpa using hf]
  rfl
theorem y86(b:Bas)(hb:BasOK b)(v:List Int)(c:Cnd)(hv:v.length=b.1.length)(hc:c.2.2.1.length=b.1.length):y2X b v c=y8T b v c:=by
 unfold y2X;rw[yO4 b hb v c hv hc];cases y8T b v c with
 |none=>rfl
 |some y=>rfl
theorem yAq{b:Bas}{c:Cnd}:∀ {l:List Lnk} {fs out f o:List Int},y34 b c l fs out=some (f,o)->f.length=fs.length+l.length/\o.length=out.length
 |[],fs,out,f,o,h=>by simp only[y34,Option.some.injEq,Prod.mk.injEq]at h;obtain ⟨rfl,rfl⟩:=h;simp
 |x::l,fs,out,f,o,h=>by
  simp only[y34]at h;split at h
  ·obtain ⟨h1,h2⟩:=yAq h;rw[y2v]at h2;simp at h1;exact ⟨by simp;omega,h2⟩
  ·cases h
theorem yLF{b:Bas}(hb:BasOK b){v:List Int}{c:Cnd}(hv:v.length=b.1.length)(hc:c.2.2.1.length=b.1.length){f o:List Int}(h:y2X b v c=some (f,o)):f.length=b.2.1.length/\o.length=b.1.length:=by
 rw[y86 b hb v c hv hc]at h;unfold y8T at h;split at h
 ·obtain ⟨h1,h2⟩:=yAq h;rw[y1u v _ (by omega)]at h2
  exact ⟨by simpa using h1,by omega⟩
 ·cases h
end Go.Tw
end
section
set_option maxRecDepth 100000
namespace Go.Tw
open Go.Vx Go.Vx.B Go.Proofs
theorem y7N:∀ (l:List Nod) (L:List Nod) (i:Int) (p v:List Int),i=(p.length:Int)->v.length=l.length->(∀ n∈l,n.2.1≠0) ->
  yL (λ i__ e__ s__=>yKR L i__ e__ s__) (λ s__=>yLo L s__) i l (p++v)=some (p++lvls v l,())
 |[],L,i,p,[],hi,hv,hn=>by rw[y3R];simp[yLo,lvls]
 |n::l,L,i,p,x::v,hi,hv,hn=>by
  have hbody:yKR L i n (p++x::v)=some (.inr (p++wr (x.tdiv n.2.1)::v)):=by
   unfold yKR;rw[y1I p x v i hi,y45 p x v i hi];simp only[bind_some];have e5:zl_M (n.1,n.2.1,n.2.2.1,()) x=some (wr (x.tdiv n.2.1),()):=by
    unfold zl_M zl_m;rw[bifF (beq_eq_false_iff_ne.2 (hn n (by simp)))]
   rw[e5];simp only[bind_some];rw[y41 p x _ v i hi]
  rw[yg,hbody];simp only[bind_some];have:=y7N l L (i+1) (p++[wr (x.tdiv n.2.1)]) v (by simp[hi]) (by simpa using hv) (λ n hn'=>hn n (by simp[hn']))
  rw[List.append_assoc]at this;simp only[List.singleton_append]at this;rw[this];simp[lvls]
 |[],L,i,p,_::_,hi,hv,hn=>by simp at hv
 |_::_,L,i,p,[],hi,hv,hn=>by simp at hv
theorem yHO(b:Bas)(hb:BasOK b)(v:List Int)(hv:v.length=b.1.length):zX_M b v=some (lvls v b.1,()):=by
 have h8:=hb.nodes;have hmem:memMax=68719476736:=rfl;unfold zX_M;have e1:(true && decide ((0:Int)<=(v.length:Int)) && decide ((v.length:Int)<=(memMax:Int)) && (v.length:Int) == (v.length:Int))=true:=by
  rw[yA (show (0:Int)<=(v.length:Int) by omega),yA (show (v.length:Int)<=(memMax:Int) by omega)];simp
 rw[bifT e1,bifT (yA (show b.1.length < lenMax by unfold lenMax;omega))]
 have e2:List.take (List.replicate (v.length:Int).toNat (0:Int)).length v++List.drop v.length (List.replicate (v.length:Int).toNat (0:Int))=v:=by simp
 rw[e2];exact y7N b.1 b.1 0 [] v rfl hv (λ n hn=>by have:=(hb.area n hn).1;omega)
theorem y6m(b:Bas)(T:List Int):∀ (l:List Int) (i:Int) (s:List Int),0<=i->i+l.length<=b.1.length->s.length+l.length<=memMax ->
  ∃ r,yL (λ i__ e__ s__=>yI8 b T i__ e__ s__) (λ s__=>yOS b T s__) i l s=some (r,())/\r.length<=s.length+l.length
 |[],i,s,_,_,_=>⟨s,rfl,by simp⟩
 |x::l,i,s,h0,h1,h2=>by
  simp only[List.length_cons]at h1 h2;have hi:i.toNat < b.1.length:=by omega
  have e3:idx b.1 i=some b.1[i.toNat]:=by unfold idx;rw[if_pos h0];exact List.getElem?_eq_getElem hi
  rw[yg];unfold yI8;rw[e3];simp only[bind_some];cases decide (x > b.1[i.toNat].2.2.1)with
  |true =>
   rw[cond_true,bifT (yA (show s.length+1<=memMax by omega))]
   simp only[bind_some];obtain ⟨r,r1,r2⟩:=y6m b T l (i+1) (s++[i]) (by omega) (by omega) (by simp;omega)
   unfold yI8 at r1;exact ⟨r,r1,by simp at r2 ⊢;omega⟩
  |false =>
   rw[cond_false];simp only[bind_some];obtain ⟨r,r1,r2⟩:=y6m b T l (i+1) s (by omega) (by omega) (by omega)
   unfold yI8 at r1;exact ⟨r,r1,by simp at r2 ⊢;omega⟩
theorem yH5(b:Bas)(hb:BasOK b)(v:List Int)(hv:v.length=b.1.length):∃ r,zd_M b v=some (r,())/\yOY b v=some (r,())/\r.length<=8:=by
 have h8:=hb.nodes;have hl:=y8c v b.1 hv;obtain ⟨r,r1,r2⟩:=y6m b (lvls v b.1) (lvls v b.1) 0 [] (by omega) (by omega) (by simp[memMax];omega)
 refine ⟨r,?_,?_,by simp at r2;omega⟩
 ·unfold zd_M;rw[yHO b hb v hv];simp only[bind_some];rw[bifT (yA (show (lvls v b.1).length < lenMax by unfold lenMax;omega))]
  exact r1
 ·unfold yOY;rw[yI0 b hb v hv];simp only[bind_some];rw[bifT (yA (show (lvls v b.1).length < lenMax by unfold lenMax;omega))]
  exact r1
theorem yH4(ps:List (Cnd×List Int×List Int))(h:ps.length<=memMax):yJX (ps.map psg)=some (ps.map (·.2.2),()):=by
 have hm:=y0i;unfold yJX yNm zC_M;rw[bifT (yA (show (ps.map psg).length < lenMax by simp;omega)),y0k (λ p:Psg=>p.2.2.1.getD []) (ps.map psg) 0 [] (by simpa using h) (λ i e s he hs=>by
  unfold yOd;simp only[bind_some];rw[bifT (yA hs)];rfl)]
 show some (_,())=_
 congr 2
 simp[psg]
theorem y4Q{b:Bas}(hb:BasOK b):∀ {l:List Cnd} {v:List Int} {ps:List (Cnd×List Int×List Int)},v.length=b.1.length->(∀ c∈l,c.2.2.1.length=b.1.length)->runD b v l=some ps ->
  ps.length=l.length/\∀ x∈ps,x.2.2.length=b.1.length/\x.2.1.length=b.2.1.length/\x.1∈l
 |[],v,ps,hv,hl,h=>by simp only[runD,Option.some.injEq]at h;subst h;simp
 |c::l,v,ps,hv,hl,h=>by
  simp only[runD]at h;cases hs:y2X b v c with
  |none=>rw[hs]at h;cases h
  |some y =>
   obtain ⟨f,o⟩:=y;rw[hs]at h;simp only[Option.map_eq_some_iff]at h;obtain ⟨qs,h1,rfl⟩:=h;obtain ⟨n1,n2⟩:=yLF hb hv (hl c (by simp)) hs
   obtain ⟨k1,k2⟩:=y4Q hb n2 (λ c hc=>hl c (by simp[hc])) h1
   refine ⟨by simp[k1],λ x hx=>?_⟩
   rcases List.mem_cons.1 hx with rfl|hx
   ·exact ⟨n2,n1,by simp⟩
   ·obtain ⟨m1,m2,m3⟩:=k2 x hx;exact ⟨m1,m2,by simp[m3]⟩
end Go.Tw
end
section
set_option maxRecDepth 100000
namespace Go.Tw
open Go.Vx Go.Vx.B Go.Proofs
theorem max2(f:Int):(if f > (0:Int)then f else (0:Int))=max 0 f:=by split<;>omega
end Go.Tw
end
section
set_option maxRecDepth 100000
namespace Go.Tw
open Go.Vx Go.Vx.B Go.Proofs
end Go.Tw
end
