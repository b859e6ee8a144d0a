import Derived.Test.YtemgjgkbgkeknaaGreatDoorPR
set_option linter.all false
open List (length_cons length_nil map_cons)
open Option (bind_some)
open Int (natCast_nonneg not_lt)
open Bool (eq_false_iff)
open Go.IntKind (i64)
section
set_option maxRecDepth 100000
namespace Go.Tw
open Go.Vx Go.Vx.B Go.Proofs
abbrev kbP (k:Str)(a b c d e f g h i j m n o:Bool):Prop:=((k == ([103,97,116,101]:List UInt8))=a)/\((k == ([114,117,108,101]:List UInt8))=b)/\((k == ([102,111,114,101,99,97,115,116]:List UInt8))=c)/\((k == ([108,101,118,101,108]:List UInt8))=d)/\((k == ([100,101,99,105,100,101]:List UInt8))=e)/\((k == ([111,118,101,114,114,105,100,101]:List UInt8))=f)/\((k == ([99,111,109,109,97,110,100]:List UInt8))=g)/\((k == ([108,111,99,107]:List UInt8))=h)/\((k == ([117,110,108,111,99,107]:List UInt8))=i)/\((k == ([101,110,116,101,114]:List UInt8))=j)/\((k == ([108,101,97,118,101]:List UInt8))=m)/\((k == ([105,115,115,117,101]:List UInt8))=n)/\((k == ([117,110,100,111]:List UInt8))=o)
theorem yN8:kbP Kd.gate.str true false false false false false false false false false false false false:=by decide
theorem yJQ:kbP Kd.rule.str false true false false false false false false false false false false false:=by decide
theorem yDh:kbP Kd.forecast.str false false true false false false false false false false false false false:=by decide
theorem yMA:kbP Kd.level.str false false false true false false false false false false false false false:=by decide
theorem yGU:kbP Kd.command.str false false false false false false true false false false false false false:=by decide
theorem yOl:kbP Kd.lock.str false false false false false false false true false false false false false:=by decide
theorem yIK:kbP Kd.unlock.str false false false false false false false false true false false false false:=by decide
theorem yM9:kbP Kd.enter.str false false false false false false false false false true false false false:=by decide
theorem yKe:kbP Kd.leave.str false false false false false false false false false false true false false:=by decide
theorem ix0{α:Type}(a:α)(l:List α):idx (a::l) 0=some a:=rfl
theorem ix1{α:Type}(a b:α)(l:List α):idx (a::b::l) 1=some b:=rfl
theorem ix2{α:Type}(a b c:α)(l:List α):idx (a::b::c::l) 2=some c:=rfl
theorem len2{α:Type}{l:List α}(h:l.length=2):∃ a b,l=[a,b]:=by
 match l,h with
 |[a,b],_=>exact ⟨a,b,rfl⟩
theorem len3{α:Type}{l:List α}(h:l.length=3):∃ a b c,l=[a,b,c]:=by
 match l,h with
 |[a,b,c],_=>exact ⟨a,b,c,rfl⟩
theorem ev11{e:Ev}{d:Kd}(h:EvOk e d)(h1:d.nn=1)(h2:d.nv=1):∃ n a t,e=(n,d.str,[a],[t],[],()):=by
 obtain ⟨n,k,ns,vs,tx,⟨⟩⟩:=e;obtain rfl:k=d.str:=h.kind;obtain ⟨a,rfl⟩:∃ a,ns=[a]:=List.length_eq_one_iff.1 (h.nn.trans h1);obtain ⟨t,rfl⟩:∃ a,vs=[a]:=List.length_eq_one_iff.1 (h.nv.trans h2);obtain rfl:tx=[]:=h.text;exact ⟨n,a,t,rfl⟩
theorem ev12{e:Ev}{d:Kd}(h:EvOk e d)(h1:d.nn=1)(h2:d.nv=2):∃ n a t v,e=(n,d.str,[a],[t,v],[],()):=by
 obtain ⟨n,k,ns,vs,tx,⟨⟩⟩:=e;obtain rfl:k=d.str:=h.kind;obtain ⟨a,rfl⟩:∃ a,ns=[a]:=List.length_eq_one_iff.1 (h.nn.trans h1);obtain ⟨t,v,rfl⟩:∃ a b,vs=[a,b]:=len2 (h.nv.trans h2);obtain rfl:tx=[]:=h.text;exact ⟨n,a,t,v,rfl⟩
theorem ev03{e:Ev}{d:Kd}(h:EvOk e d)(h1:d.nn=0)(h2:d.nv=3):∃ n t v w,e=(n,d.str,[],[t,v,w],[],()):=by
 obtain ⟨n,k,ns,vs,tx,⟨⟩⟩:=e;obtain rfl:k=d.str:=h.kind;obtain rfl:ns=[]:=List.length_eq_zero_iff.1 (h.nn.trans h1);obtain ⟨t,v,w,rfl⟩:∃ a b c,vs=[a,b,c]:=len3 (h.nv.trans h2);obtain rfl:tx=[]:=h.text;exact ⟨n,t,v,w,rfl⟩
theorem ev22{e:Ev}{d:Kd}(h:EvOk e d)(h1:d.nn=2)(h2:d.nv=2):∃ n a b t v,e=(n,d.str,[a,b],[t,v],[],()):=by
 obtain ⟨n,k,ns,vs,tx,⟨⟩⟩:=e;obtain rfl:k=d.str:=h.kind;obtain ⟨a,b,rfl⟩:∃ a b,ns=[a,b]:=len2 (h.nn.trans h1);obtain ⟨t,v,rfl⟩:∃ a b,vs=[a,b]:=len2 (h.nv.trans h2);obtain rfl:tx=[]:=h.text;exact ⟨n,a,b,t,v,rfl⟩
theorem ev21{e:Ev}{d:Kd}(h:EvOk e d)(h1:d.nn=2)(h2:d.nv=1):∃ n a b t,e=(n,d.str,[a,b],[t],[],()):=by
 obtain ⟨n,k,ns,vs,tx,⟨⟩⟩:=e;obtain rfl:k=d.str:=h.kind;obtain ⟨a,b,rfl⟩:∃ a b,ns=[a,b]:=len2 (h.nn.trans h1);obtain ⟨t,rfl⟩:∃ a,vs=[a]:=List.length_eq_one_iff.1 (h.nv.trans h2);obtain rfl:tx=[]:=h.text;exact ⟨n,a,b,t,rfl⟩
def y3W(r:Rg)(p:Int×Rg)(M:Option (Rg×Int×Unit)):Prop:=∃ x,M=some (x,p.1,())/\(p.1=0->x=p.2)
def shA(r:Rg)(t:Int)(M:Option (Rg×Int×Unit)):Option (Rg×Int×Unit):=bif decide (t < r.1)then some (r,20,())else M.bind λ v=>some (setT v.1 t,v.2.1,())
theorem y4r{r:Rg}{e:Ev}{d:Kd}{M:Option (Rg×Int×Unit)}(h:y3W r (act r d (nmE e 0) (nmE e 1) (vlE e 1) (vlE e 2)) M):y3W r (aftK r e d) (shA r (vlE e 0) M):=by
 unfold shA aftK;by_cases h0:vlE e 0 < rTk r
 ·rw[if_pos h0,bifT (y4 h0)];exact ⟨r,rfl,λ h=>by cases h⟩
 ·rw[if_neg h0,bifF (y5 h0)];obtain ⟨x,hx,h1⟩:=h;rw[hx];exact ⟨_,rfl,λ h=>by rw[h1 h]⟩
theorem y1f{r x:Rg}{n:Int}(hn:n≠0)(y:Rg):y3W r (n,y) (some (x,n,())):=⟨x,rfl,λ h=>absurd h hn⟩
theorem y2r{r x:Rg}:y3W r (0,x) (some (x,0,())):=⟨x,rfl,λ _=>rfl⟩
theorem yOn(r:Rg)(n:Int)(a:Str)(t:Int)(hi:Inv r)(b:Str)(v w:Int):y3W r (act r .gate a b v w) (y9B r (n,Kd.gate.str,[a],[t],[],())):=by
 unfold y9B yHH act;simp only[yN8,cond_true,cond_false,ix0,ix1,ix2,bind_some];rw[show yDl (r.fst,(r.snd.fst.fst,r.snd.fst.snd.fst,()),r.snd.snd.fst,r.snd.snd.snd.fst,r.snd.snd.snd.snd.fst,r.snd.snd.snd.snd.snd.fst,r.snd.snd.snd.snd.snd.snd.fst,r.snd.snd.snd.snd.snd.snd.snd.fst,r.snd.snd.snd.snd.snd.snd.snd.snd.fst,r.snd.snd.snd.snd.snd.snd.snd.snd.snd.fst,r.snd.snd.snd.snd.snd.snd.snd.snd.snd.snd.fst,()) a=some (gI (gAt (rGs r) a),())from yBT r a (by have:=hi.gl;omega)]
 simp only[bind_some];cases hg:gAt (rGs r) a with
 |some i =>
  rw[if_pos (show (some i).isSome=true from rfl),bifT (y4 (show gI (some i) >= 0 from natCast_nonneg i))]
  exact y1f (by decide) _
 |none =>
  rw[if_neg (show ¬ ((none:Option Nat).isSome=true) by decide),bifF (y5 (show ¬ gI none >= 0 by decide))]
  by_cases h2:16<=(rGs r).length
  ·rw[if_pos h2,bifT (y4 (show ((rGs r).length:Int) >= 16 by omega))]
   exact y1f (by decide) _
  ·rw[if_neg h2,bifF (y5 (show ¬ ((rGs r).length:Int) >= 16 by omega)),bifT (y4 (show 0+(rGs r).length<=memMax by rw[Nat.zero_add];exact nmem _ (by omega))),bifT (y4 (show (rGs r).length+1<=memMax from y7C _ (by omega)))]
   exact y2r
theorem yOO(r:Rg)(n t v w:Int)(a b:Str):y3W r (act r .rule a b v w) (y9B r (n,Kd.rule.str,[],[t,v,w],[],())):=by
 unfold y9B yHH act;simp only[yJQ,cond_true,cond_false,ix0,ix1,ix2,bind_some];simp only[yRo];by_cases h:ckRl v w=0
 ·rw[if_neg (by simp[h]),bifF (show (ckRl v w != 0)=false by simp[h])]
  exact y2r
 ·rw[if_pos h,bifT (show (ckRl v w != 0)=true by simp[h])]
  exact y1f h _
theorem yEO(r:Rg)(n t v w:Int)(a b:Str):y3W r (act r .forecast a b v w) (y9B r (n,Kd.forecast.str,[],[t,v,w],[],())):=by
 unfold y9B yHH act;simp only[yDh,cond_true,cond_false,ix0,ix1,ix2,bind_some];by_cases h:4096 < w
 ·rw[if_pos h,bifT (y4 (show w > 4096 from h))]
  exact y1f (by decide) _
 ·rw[if_neg h,bifF (y5 (show ¬ w > 4096 from h))]
  by_cases h2:v<=rRun r
  ·rw[if_pos h2,bifT (y4 (show v<=r.2.2.1 from h2))]
   exact y1f (by decide) _
  ·rw[if_neg h2,bifF (y5 (show ¬ v<=r.2.2.1 from h2))]
   exact y2r
theorem yKW(r:Rg)(n:Int)(a:Str)(t v w:Int)(b:Str):y3W r (act r .level a b v w) (y9B r (n,Kd.level.str,[a],[t,v],[],())):=by
 unfold y9B yHH y8j act;simp only[yMA,cond_true,cond_false,ix0,ix1,ix2,bind_some];simp only[yz];by_cases h:a=sSea
 ·subst h;rw[if_pos rfl];by_cases h2:4096 < v
  ·rw[if_pos h2,y4 (show v > 4096 from h2)]
   exact y1f (by decide) _
  ·rw[if_neg h2,y5 (show ¬ v > 4096 from h2)]
   exact y2r
 ·rw[if_neg h,show decide (a=[115,101,97])=false from y5 h]
  by_cases h1:a=yIL
  ·rw[if_pos h1,show decide (a=[98,97,115,105,110])=true from y4 h1]
   by_cases h2:4096 < v
   ·rw[if_pos h2,y4 (show v > 4096 from h2)]
    exact y1f (by decide) _
   ·rw[if_neg h2,y5 (show ¬ v > 4096 from h2)]
    exact y2r
  ·rw[if_neg h1,show decide (a=[98,97,115,105,110])=false from y5 h1]
   exact y1f (by decide) _
theorem yHT(r:Rg)(n:Int)(a b:Str)(t v w:Int)(hi:Inv r):y3W r (act r .command a b v w) (yLL r (n,Kd.command.str,[a,b],[t,v],[],())):=by
 have hl:(rGs r).length<=1000:=by have:=hi.gl;omega
 unfold yLL yNm act;simp only[yGU,cond_true,cond_false,ix0,ix1,ix2,bind_some];rw[yBT r a hl];simp only[bind_some,yMd];cases hg:gAt (rGs r) a with
 |none =>
  rw[bifT (y4 (show gI none < 0 by decide))]
  exact y1f (by decide) _
 |some i =>
  obtain ⟨g,g1,g2,g3⟩:=y2B hg;rw[bifF (y5 (show ¬ gI (some i) < 0 from not_lt.2 (natCast_nonneg i)))]
  simp only[g3];by_cases h1:b=y1B\/b=y1j
  ·rw[y4 h1,if_neg (show ¬ (b≠y1B/\b≠y1j)from λ h=>h1.elim h.1 h.2)]
   rw[show idx r.2.2.2.2.2.2.2.2.1 (gI (some i))=some g from (y00 _ _).trans g1]
   simp only[Bool.not_true,cond_false,bind_some];by_cases h2:v=0
   ·rw[if_pos h2,bifT (by simp[h2])]
    exact y1f (by decide) _
   rw[if_neg h2,bifF (by simp[h2])]
   by_cases h3:v < g.2.2.1
   ·rw[if_pos h3,bifT (y4 h3)];exact y1f (by decide) _
   rw[if_neg h3,bifF (y5 h3)];by_cases h4:v=g.2.2.1
   ·rw[if_pos h4,bifT (by simp[h4])]
    by_cases h5:b≠g.2.2.2.1
    ·rw[if_pos h5,bifT (by simp[h5])]
     exact y1f (by decide) _
    ·rw[if_neg h5,bifF (by simpa using h5)]
     exact y2r
   rw[if_neg h4,bifF (by simp[h4])]
   rw[show z0e r (g.1,g.2.1,g.2.2.1,g.2.2.2.1,g.2.2.2.2.1,()) b=(mvs r g b,())from mvsR r g b]
   by_cases h5:mvs r g b=0
   ·rw[if_neg (by simp[h5]),bifF (show (mvs r g b != 0)=false by simp[h5])]
    rw[show gI (some i)=(i:Int)from rfl,yOh r i g _ hl g1]
    exact y2r
   ·rw[if_pos h5,bifT (show (mvs r g b != 0)=true by simp[h5])]
    exact y1f h5 _
  ·rw[y5 h1,if_pos (show (b≠y1B/\b≠y1j)from ⟨λ h=>h1 (.inl h),λ h=>h1 (.inr h)⟩)]
   exact y1f (by decide) _
theorem yNh(r:Rg)(n:Int)(a b:Str)(t v w:Int)(hi:Inv r):y3W r (act r .lock a b v w) (yHA r (n,Kd.lock.str,[a,b],[t],[],())):=by
 have hl:(rGs r).length<=1000:=by have:=hi.gl;omega
 unfold yHA yL9 act;simp only[yOl,cond_true,cond_false,ix0,ix1,ix2,bind_some];rw[yBT r a hl];simp only[bind_some];cases hg:gAt (rGs r) a with
 |none =>
  rw[bifT (y4 (show gI none < 0 by decide))]
  exact y1f (by decide) _
 |some i =>
  obtain ⟨g,g1,g2,g3⟩:=y2B hg;rw[bifF (y5 (show ¬ gI (some i) < 0 from not_lt.2 (natCast_nonneg i)))]
  rw[show idx r.2.2.2.2.2.2.2.2.1 (gI (some i))=some g from (y00 _ _).trans g1]
  simp only[g3,bind_some];by_cases h1:g.2.2.2.2.1≠[]
  ·rw[if_pos h1,bifT (by simp[h1])]
   exact y1f (by decide) _
  ·rw[if_neg h1,bifF (by simpa using h1)]
   rw[show gI (some i)=(i:Int)from rfl,yOh r i g _ hl g1]
   exact y2r
theorem yHr(r:Rg)(n:Int)(a b:Str)(t v w:Int)(hi:Inv r):y3W r (act r .unlock a b v w) (yHA r (n,Kd.unlock.str,[a,b],[t],[],())):=by
 have hl:(rGs r).length<=1000:=by have:=hi.gl;omega
 unfold yHA yL9 act;simp only[yIK,cond_true,cond_false,ix0,ix1,ix2,bind_some];rw[yBT r a hl];simp only[bind_some];cases hg:gAt (rGs r) a with
 |none =>
  rw[bifT (y4 (show gI none < 0 by decide))]
  exact y1f (by decide) _
 |some i =>
  obtain ⟨g,g1,g2,g3⟩:=y2B hg;rw[bifF (y5 (show ¬ gI (some i) < 0 from not_lt.2 (natCast_nonneg i)))]
  rw[show idx r.2.2.2.2.2.2.2.2.1 (gI (some i))=some g from (y00 _ _).trans g1]
  simp only[g3,bind_some];by_cases h1:g.2.2.2.2.1≠b
  ·rw[if_pos h1,bifT (by simp[h1])]
   exact y1f (by decide) _
  ·rw[if_neg h1,bifF (by simpa using h1)]
   rw[show gI (some i)=(i:Int)from rfl,yOh r i g _ hl g1]
   exact y2r
theorem yLs(r:Rg)(n:Int)(a b:Str)(t v w:Int)(hi:Inv r):y3W r (act r .leave a b v w) (yEK r (n,Kd.leave.str,[a],[t],[],())):=by
 have hl:(rSs r).length<=1000:=by have:=hi.sl;omega
 unfold yEK act;simp only[yKe,cond_true,cond_false,ix0,ix1,ix2,bind_some];rw[show yE6 r.2.2.2.2.2.2.2.2.2.1 a=some (decide (a∈rSs r),())from hasW (rSs r) a hl]
 simp only[bind_some];by_cases h1:a∈rSs r
 ·rw[y4 h1,if_neg (show ¬ (a ∉ rSs r)from λ h=>h h1)]
  simp only[Bool.not_true,cond_false];rw[bifT (y4 (show (rSs r).length < yB by unfold yB;omega))]
  have e:∀ (body:Int->Str->List Str->Option ((Rg×Int×Unit)⊕List Str)) (fin:List Str->Option (Rg×Int×Unit)),
    (∀ (i:Nat) x s,(rSs r)[i]?=some x->body (i:Int) x s=(bif !x == a then (bif decide (s.length+1<=memMax)then some (.inr (s++[x]))else none)else some (.inr s)))->yR body fin 0 (rSs r) []=fin (delS a (rSs r)):=by
   intro body fin hb;have:=yCc (b1:=body) (b2:=λ _ x s=>(bif !x == a then (bif decide (s.length+1<=memMax)then some (.inr (s++[x]))else none)else some (.inr s))) (fin:=fin) (rSs r) hb (rSs r) [] [] rfl
   refine this.trans ?_
   rw[show ((([]:List Str).length:Nat):Int)=0 from rfl,y2l (λ x=>!x == a) id (rSs r) 0 [] (by simp;exact nmem _ hl) λ i e s he hs=>by
    cases (!e == a)with
    |false=>rfl
    |true=>rw[cond_true,cond_true,bifT (y4 hs)];rfl]
   unfold delS;simp
  refine ⟨_,e _ _ λ i x s hx=>?_,λ _=>rfl⟩
  unfold yIf;simp only[ix0,bind_some];rw[y00,hx];rfl
 ·rw[y5 h1,if_pos h1];exact y1f (by decide) _
theorem yL7(q:Gt->Bool){β:Type}{body:Int->Bool->Option (β⊕Bool)}{fin:Bool->Option β}(gs:List Gt)(hb:∀ (i:Nat) g c,gs[i]?=some g->body (i:Int) c=some (.inr (c || q g)))(c:Bool)(m:Nat)(hm:m=gs.length):y2y body fin m 0 c=fin (c || gs.any q):=by
 rw[y33 (λ _ g c=>some (.inr (c || q g))) gs (λ i g c h=>hb i g c h) m hm]
 have:∀ (l:List Gt) (i:Int) (c:Bool),yR (λ (_:Int) (g:Gt) (c:Bool)=>some (Sum.inr (c || q g))) fin i l c=fin (c || l.any q):=by
  intro l;induction l with
  |nil=>intro i c;simp[y1A]
  |cons x l ih =>
   intro i c;rw[yZ];simp only[bind_some];rw[ih,List.any_cons,Bool.or_assoc]
 exact this gs 0 c
theorem yLi(a:Str){β:Type}{body:Int->Bool×List Str->Option (β⊕(Bool×List Str))}{fin:Bool×List Str->Option β}(ss:List Str)(hl:ss.length<=1000)
  (hb:∀ (i:Nat) x (d:Bool) s,ss[i]?=some x->s.length<=2000->body (i:Int) (d,s)=some (.inr (bif !d && Op.bytesLess a x then (true,s++[a]++[x])else (d,s++[x]))))
  (hf:∀ (d:Bool) s,s.length<=2000->fin (d,s)=fin (true,if d then s else s++[a])) (m:Nat) (hm:m=ss.length):y2y body fin m 0 (false,[])=fin (true,insS a ss):=by
 rw[y33 (λ i x s=>body i s) ss (λ i g c h=>rfl) m hm]
 have run:∀ (r p:List Str) (s:List Str),ss=p++r->s.length<=p.length+1->yR (λ i x s=>body i s) fin (p.length:Int) r (true,s)=fin (true,s++r):=by
  intro r;induction r with
  |nil=>intro p s _ _;simp[y1A]
  |cons x r ih =>
   intro p s hp hs;have hlen:ss.length=p.length+(r.length+1):=by rw[hp];simp
   rw[yZ];rw[hb p.length x true s (by rw[hp];simp) (by omega)]
   simp only[Bool.not_true,Bool.false_and,cond_false,bind_some];have:=ih (p++[x]) (s++[x]) (by rw[hp];simp) (by simp;omega)
   simp only[List.length_append,length_cons,length_nil]at this;refine this.trans ?_
   simp
 have go:∀ (r p:List Str) (s:List Str),ss=p++r->s.length=p.length->yR (λ i x s=>body i s) fin (p.length:Int) r (false,s)=fin (true,s++insS a r):=by
  intro r;induction r with
  |nil =>
   intro p s hp hs;have hlen:ss.length=p.length:=by rw[hp];simp
   rw[y1A,hf false s (by omega)]
   rfl
  |cons x r ih =>
   intro p s hp hs;have hlen:ss.length=p.length+(r.length+1):=by rw[hp];simp
   rw[yZ,hb p.length x false s (by rw[hp];simp) (by omega)]
   unfold insS;by_cases hx:Op.bytesLess a x=true
   ·rw[hx,if_pos rfl];simp only[Bool.not_false,Bool.and_true,cond_true,bind_some];have:=run r (p++[x]) (s++[a]++[x]) (by rw[hp];simp) (by simp;omega)
    simp only[List.length_append,length_cons,length_nil]at this;refine this.trans ?_
    simp
   ·rw[eq_false_iff.2 hx,if_neg (by simp)]
    simp only[Bool.and_false,cond_false,bind_some];have:=ih (p++[x]) (s++[x]) (by rw[hp];simp) (by simp;omega)
    simp only[List.length_append,length_cons,length_nil]at this;refine this.trans ?_
    simp
 have:=go ss [] [] rfl rfl;simpa using this
theorem yKo(r:Rg)(n:Int)(a b:Str)(t v w:Int)(hi:Inv r):y3W r (act r .enter a b v w) (yEK r (n,Kd.enter.str,[a],[t],[],())):=by
 have hl:(rSs r).length<=1000:=by have:=hi.sl;omega
 have hg:(rGs r).length<=1000:=by have:=hi.gl;omega
 unfold yEK act;simp only[yM9,cond_true,cond_false,ix0,ix1,ix2,bind_some];rw[show yE6 r.2.2.2.2.2.2.2.2.2.1 a=some (decide (a∈rSs r),())from hasW (rSs r) a hl]
 simp only[bind_some];by_cases h1:a∈rSs r
 ·rw[y4 h1,if_pos h1];exact y1f (by decide) _
 rw[y5 h1,if_neg h1];simp only[cond_false];rw[bifT (y4 (show ((rGs r).length:Int)<=9223372036854775807 by omega))]
 rw[yL7 (λ g=>g.2.1) (rGs r) (λ i g c h=>by
  unfold yI4;cases c with
  |true=>rfl
  |false =>
   simp only[cond_false];rw[show idx r.2.2.2.2.2.2.2.2.1 (i:Int)=some g from (y00 _ _).trans h]
   rfl) _ _ (by show (((rGs r).length:Int) - 0).toNat=(rGs r).length;omega)]
 unfold yIJ;by_cases h2:rSt r=sClose\/(rGs r).any (·.2.1)=true
 ·rw[if_pos h2,bifT (show (r.2.2.2.2.2.2.1 == [99,108,111,115,101] || (rGs r).any (·.2.1))=true by
   rcases h2 with h2|h2
   ·rw[show (r.2.2.2.2.2.2.1 == [99,108,111,115,101])=true from beq_iff_eq.2 h2];rfl
   ·rw[h2,Bool.or_true])]
  exact y1f (by decide) _
 rw[if_neg h2,bifF (show (r.2.2.2.2.2.2.1 == [99,108,111,115,101] || (rGs r).any (·.2.1))=false by
   rw[show (r.2.2.2.2.2.2.1 == [99,108,111,115,101])=false from by rw[yz];exact y5 λ h=>h2 (.inl h),Bool.false_or]
   exact eq_false_iff.2 λ h=>h2 (.inr h))]
 by_cases h3:16<=(rSs r).length
 ·rw[if_pos h3,bifT (y4 (show ((rSs r).length:Int) >= 16 by omega))]
  exact y1f (by decide) _
 rw[if_neg h3,bifF (y5 (show ¬ ((rSs r).length:Int) >= 16 by omega)),bifT (y4 (show ((rSs r).length:Int)<=9223372036854775807 by omega))]
 rw[yLi a (rSs r) hl (λ i x d s hx hs=>by
  unfold yER yAc;simp only[ix0,bind_some];rw[show idx r.2.2.2.2.2.2.2.2.2.1 (i:Int)=some x from (y00 _ _).trans hx]
  simp only[bind_some];rw[y4 (show s.length+1<=memMax by unfold memMax;omega),y4 (show (s++[a]).length+1<=memMax by simp;unfold memMax;omega)]
  cases d<;>cases Op.bytesLess a x<;>rfl) (λ d s hs=>by
  unfold yDK;simp only[ix0,bind_some];rw[y4 (show s.length+1<=memMax by unfold memMax;omega)]
  cases d<;>rfl) _ (by show (((rSs r).length:Int) - 0).toNat=(rSs r).length;omega)]
 exact y2r
theorem yCG(a:Str)(x:Th):∀ (ts:List Th) (i:Nat),ts.Pairwise (λ x y=>x.1≠y.1)->tAt ts a=some i->ts.map (λ x=>if x.1=a then (x.1,i64.wrap (x.2.1+1),())else (x.1,x.2.1,()))=ts.set i ((ts.getD i t0).1,i64.wrap ((ts.getD i t0).2.1+1),())
 |[],i,_,h=>by cases h
 |y::ts,i,hp,h=>by
  have h1:=List.pairwise_cons.1 hp;unfold tAt at h;rw[List.findIdx?_cons]at h;by_cases hy:y.1=a
  ·rw[if_pos (by simp[hy])]at h
   obtain rfl:0=i:=Option.some.inj h;rw[map_cons,if_pos hy];show _::_=_::ts
   congr 1
   refine (List.map_congr_left λ z hz=>?_).trans (List.map_id ts)
   rw[if_neg (λ e=>h1.1 z hz (hy.trans e.symm))]
   rfl
  ·rw[if_neg (by simp[hy])]at h
   obtain ⟨j,hj,rfl⟩:=Option.map_eq_some_iff.1 h;rw[map_cons,if_neg hy,yCG a x ts j h1.2 hj];rfl
theorem yGQ(a:Str)(ts:List Th)(h:tAt ts a=none):ts.map (λ x=>if x.1=a then (x.1,i64.wrap (x.2.1+1),())else (x.1,x.2.1,()))=ts:=by
 refine (List.map_congr_left λ z hz=>?_).trans (List.map_id ts)
 rw[if_neg (tAt_none h z hz)];rfl
theorem yMB(r:Rg)(n:Int)(a b:Str)(t v w:Int)(hi:Inv r):y3W r (act r .issue a b v w) (yJx r (n,Kd.issue.str,[a],[t],[],())):=by
 have hl:(rTs r).length<=1000:=by have:=hi.tl;omega
 unfold yJx;rw[bifT (y4 (show (rTs r).length < yB by unfold yB;omega))]
 have run:∀ (body:Int->Th->Bool×List Th->Option ((Rg×Int×Unit)⊕(Bool×List Th))) (fin:Bool×List Th->Option (Rg×Int×Unit)),
   (∀ i x (c:Bool) s,s.length+1<=memMax->body i x (c,s)=some (.inr (c || x.1 == a,s++[if x.1=a then (x.1,i64.wrap (x.2.1+1),())else (x.1,x.2.1,())]))) ->
   ∀ (l:List Th) (i:Int) (c:Bool) (s:List Th),s.length+l.length<=memMax->yR body fin i l (c,s)=fin (c || l.any (λ x=>x.1 == a),s++l.map (λ x=>if x.1=a then (x.1,i64.wrap (x.2.1+1),())else (x.1,x.2.1,()))):=by
  intro body fin hb l;induction l with
  |nil=>intro i c s _;simp[y1A]
  |cons x l ih =>
   intro i c s hs;simp only[length_cons]at hs;rw[yZ,hb i x c s (by omega)]
   simp only[bind_some];rw[ih _ _ _ (by simp;omega),List.any_cons,Bool.or_assoc,map_cons]
   simp
 rw[run _ _ (λ i x c s hs=>by
  unfold yHj;simp only[ix0,bind_some];rw[y4 hs];by_cases hx:x.1=a
  ·rw[if_pos hx,show (x.1 == a)=true from beq_iff_eq.2 hx,Bool.or_true];rfl
  ·rw[if_neg hx,show (x.1 == a)=false from by rw[yz];exact y5 hx,Bool.or_false];rfl) (rTs r) 0 false [] (by simp;exact nmem _ hl)]
 unfold yJ9 yBU act;simp only[ix0,bind_some,Bool.false_or,List.nil_append];cases hg:tAt (rTs r) a with
 |some i =>
  have hany:(rTs r).any (λ x=>x.1 == a)=true:=by
   obtain ⟨g,g1,g2,_⟩:=tAt_some hg;exact List.any_eq_true.2 ⟨g,List.mem_of_getElem? g1,beq_iff_eq.2 g2⟩
  rw[show r.2.2.2.2.2.2.2.2.2.2.1=rTs r from rfl,hany,yCG a t0 (rTs r) i hi.ts hg]
  exact y2r
 |none =>
  have hany:(rTs r).any (λ x=>x.1 == a)=false:=by
   refine eq_false_iff.2 λ h=>?_
   obtain ⟨g,g1,g2⟩:=List.any_eq_true.1 h;exact tAt_none hg g g1 (beq_iff_eq.1 g2)
  rw[show r.2.2.2.2.2.2.2.2.2.2.1=rTs r from rfl,hany,yGQ a (rTs r) hg]
  simp only[Bool.not_false,cond_true];by_cases h2:64<=(rTs r).length
  ·rw[if_pos h2,bifT (y4 (show ((rTs r).length:Int) >= 64 by omega))]
   exact y1f (by decide) _
  ·rw[if_neg h2,bifF (y5 (show ¬ ((rTs r).length:Int) >= 64 by omega)),bifT (y4 (y7C _ hl))]
   exact y2r
theorem yI9(r:Rg)(n:Int)(a:Str)(t:Int):y3W r (aftK r (n,Kd.decide.str,[a],[t],[],()) .decide) (yCX r (n,Kd.decide.str,[a],[t],[],())):=by
 have e:yCX r (n,Kd.decide.str,[a],[t],[],())=bif decide (t < r.1)then some (r,20,())else bif !(zw a).fst then some (r,13,())else bif !(a == (z0P r).fst) == true then some (r,19,())else some (setT (z0H r a).fst t,0,()):=rfl
 rw[e];show y3W r (if t < rTk r then (20,r)else ((act r .decide a [] 0 0).1,setT (act r .decide a [] 0 0).2 t)) _
 by_cases h0:t < rTk r
 ·rw[if_pos h0,bifT (y4 h0)];exact y1f (by decide) _
 rw[if_neg h0,bifF (y5 h0),yIT,advR,yPr];unfold act;by_cases h1:y3z a
 ·rw[y4 h1];simp only[if_neg (show ¬ ¬ y3z a from λ h=>h h1),Bool.not_true,cond_false]
  by_cases h2:a=adv r
  ·rw[show (a == adv r)=true from beq_iff_eq.2 h2]
   simp only[if_neg (show ¬ a≠adv r from λ h=>h h2)]
   exact y2r
  ·rw[show (a == adv r)=false from by rw[yz];exact y5 h2]
   simp only[if_pos (show a≠adv r from h2)]
   exact y1f (by decide) _
 ·rw[y5 h1];simp only[if_pos h1];exact y1f (by decide) _
theorem yEL(r:Rg)(n:Int)(a:Str)(t:Int):y3W r (aftK r (n,Kd.override.str,[a],[t],[],()) .override) (yCX r (n,Kd.override.str,[a],[t],[],())):=by
 have e:yCX r (n,Kd.override.str,[a],[t],[],())=bif decide (t < r.1)then some (r,20,())else bif !(zw a).fst then some (r,13,())else bif !(a == (z0P r).fst) == false then some (r,19,())else some (setT (z0H r a).fst t,0,()):=rfl
 rw[e];show y3W r (if t < rTk r then (20,r)else ((act r .override a [] 0 0).1,setT (act r .override a [] 0 0).2 t)) _
 by_cases h0:t < rTk r
 ·rw[if_pos h0,bifT (y4 h0)];exact y1f (by decide) _
 rw[if_neg h0,bifF (y5 h0),yIT,advR,yPr];unfold act;by_cases h1:y3z a
 ·rw[y4 h1];simp only[if_neg (show ¬ ¬ y3z a from λ h=>h h1),Bool.not_true,cond_false]
  by_cases h2:a=adv r
  ·rw[show (a == adv r)=true from beq_iff_eq.2 h2]
   simp only[if_pos h2];exact y1f (by decide) _
  ·rw[show (a == adv r)=false from by rw[yz];exact y5 h2]
   simp only[if_neg h2];exact y2r
 ·rw[y5 h1];simp only[if_pos h1];exact y1f (by decide) _
theorem raft(r:Rg)(e:Ev)(d:Kd)(h:EvOk e d)(hd:d≠.undo)(hi:Inv r):y3W r (aft r e) (yCX r e):=by
 unfold aft;rw[y3j h];cases d;case gate =>
  obtain ⟨n,a,t,rfl⟩:=ev11 h rfl rfl;exact y4r (e:=(n,Kd.gate.str,[a],[t],[],())) (yOn r n a t hi _ _ _)
 case rule =>
  obtain ⟨n,t,v,w,rfl⟩:=ev03 h rfl rfl;exact y4r (e:=(n,Kd.rule.str,[],[t,v,w],[],())) (yOO r n t v w _ _)
 case forecast =>
  obtain ⟨n,t,v,w,rfl⟩:=ev03 h rfl rfl;exact y4r (e:=(n,Kd.forecast.str,[],[t,v,w],[],())) (yEO r n t v w _ _)
 case level =>
  obtain ⟨n,a,t,v,rfl⟩:=ev12 h rfl rfl;exact y4r (e:=(n,Kd.level.str,[a],[t,v],[],())) (yKW r n a t v _ _)
 case decide =>
  obtain ⟨n,a,t,rfl⟩:=ev11 h rfl rfl;exact yI9 r n a t
 case override =>
  obtain ⟨n,a,t,rfl⟩:=ev11 h rfl rfl;exact yEL r n a t
 case command =>
  obtain ⟨n,a,b,t,v,rfl⟩:=ev22 h rfl rfl;exact y4r (e:=(n,Kd.command.str,[a,b],[t,v],[],())) (yHT r n a b t v _ hi)
 case lock =>
  obtain ⟨n,a,b,t,rfl⟩:=ev21 h rfl rfl;exact y4r (e:=(n,Kd.lock.str,[a,b],[t],[],())) (yNh r n a b t _ _ hi)
 case unlock =>
  obtain ⟨n,a,b,t,rfl⟩:=ev21 h rfl rfl;exact y4r (e:=(n,Kd.unlock.str,[a,b],[t],[],())) (yHr r n a b t _ _ hi)
 case enter =>
  obtain ⟨n,a,t,rfl⟩:=ev11 h rfl rfl;exact y4r (e:=(n,Kd.enter.str,[a],[t],[],())) (yKo r n a _ t _ _ hi)
 case leave =>
  obtain ⟨n,a,t,rfl⟩:=ev11 h rfl rfl;exact y4r (e:=(n,Kd.leave.str,[a],[t],[],())) (yLs r n a _ t _ _ hi)
 case issue =>
  obtain ⟨n,a,t,rfl⟩:=ev11 h rfl rfl;exact y4r (e:=(n,Kd.issue.str,[a],[t],[],())) (yMB r n a _ t _ _ hi)
 case undo=>exact absurd rfl hd
end Go.Tw
end
section
set_option maxRecDepth 100000
namespace Go.Tw
open Go.Vx Go.Vx.B Go.Proofs
abbrev kcP (k:Nat)(a b c d e f g h i j m n:Bool):Prop:=((k == (148:Go.FuncId)+(1:Nat))=a)/\((k == (149:Go.FuncId)+(1:Nat))=b)/\((k == (150:Go.FuncId)+(1:Nat))=c)/\((k == (151:Go.FuncId)+(1:Nat))=d)/\((k == (152:Go.FuncId)+(1:Nat))=e)/\((k == (153:Go.FuncId)+(1:Nat))=f)/\((k == (154:Go.FuncId)+(1:Nat))=g)/\((k == (155:Go.FuncId)+(1:Nat))=h)/\((k == (156:Go.FuncId)+(1:Nat))=i)/\((k == (157:Go.FuncId)+(1:Nat))=j)/\((k == (158:Go.FuncId)+(1:Nat))=m)/\((k == (159:Go.FuncId)+(1:Nat))=n)
theorem yNB:kcP Kd.gate.code true false false false false false false false false false false false:=by decide
theorem yNK:kcP Kd.rule.code false true false false false false false false false false false false:=by decide
theorem yE1:kcP Kd.forecast.code false false true false false false false false false false false false:=by decide
theorem yLb:kcP Kd.level.code false false false true false false false false false false false false:=by decide
theorem yIH:kcP Kd.decide.code false false false false true false false false false false false false:=by decide
theorem yDv:kcP Kd.override.code false false false false false true false false false false false false:=by decide
theorem yHI:kcP Kd.command.code false false false false false false true false false false false false:=by decide
theorem yOp:kcP Kd.lock.code false false false false false false false true false false false false:=by decide
theorem yJR:kcP Kd.unlock.code false false false false false false false false true false false false:=by decide
theorem yLt:kcP Kd.enter.code false false false false false false false false false true false false:=by decide
theorem yLA:kcP Kd.leave.code false false false false false false false false false false true false:=by decide
theorem yLF:kcP Kd.issue.code false false false false false false false false false false false true:=by decide
def cOk(p:Int×Rg)(M:Option (Rg×Int×Unit)):Prop:=M=some (if p.1=0 then p.2 else yAg,p.1,())
theorem errC{n:Int}(hn:n≠0)(y:Rg):cOk (n,y) (some (yAg,n,())):=by unfold cOk;rw[if_neg hn]
theorem yQo{n:Int}(hn:n≠0)(y:Rg)(z:Option (Rg×Int×Unit)):cOk (n,y) (bif n != 0 then some (yAg,n,())else z):=by unfold cOk;rw[if_neg hn,bifT (by simp[hn])]
theorem y4P{x:Rg}:cOk (0,x) (some (x,0,())):=rfl
theorem rEta(r:Rg):(r.fst,(r.snd.fst.fst,r.snd.fst.snd.fst,()),r.snd.snd.fst,r.snd.snd.snd.fst,r.snd.snd.snd.snd.fst,r.snd.snd.snd.snd.snd.fst,r.snd.snd.snd.snd.snd.snd.fst,r.snd.snd.snd.snd.snd.snd.snd.fst,r.snd.snd.snd.snd.snd.snd.snd.snd.fst,r.snd.snd.snd.snd.snd.snd.snd.snd.snd.fst,r.snd.snd.snd.snd.snd.snd.snd.snd.snd.snd.fst,())=r:=rfl
theorem cpG{α:Type}(gs:List α)(z:α):List.take (List.replicate ((gs.length:Int).toNat) z).length gs++List.drop gs.length (List.replicate ((gs.length:Int).toNat) z)=gs:=by
 simp
theorem cpC(n:Nat)(h:n<=1000):(true && decide (0<=(n:Int)) && decide ((n:Int)<=(memMax:Int)) && (n:Int) == (n:Int))=true:=by
 have:=nmem n h;simp;omega
theorem y3K{i:Int}(h0:-9223372036854775808<=i)(h1:i<=9223372036854775807):i64.wrap i=i:=by
 unfold IntKind.wrap IntKind.bits IntKind.signed;simp only[Nat.reduceSub,Int.reducePow,decide_eq_true_eq,Bool.true_and];split<;>omega
theorem eqVs(b:Str):eqV Ty.str b b=true:=by simp[eqV]
theorem eqVi(b:Int):eqV (Ty.int i64) b b=true:=by simp[eqV]
theorem eqVr(a b c d:Int):eqV ((Ty.int i64).pair ((Ty.int i64).pair Ty.unit)) (a,b,()) (c,d,())=decide (a=c/\b=d):=by
 by_cases h1:a=c<;>by_cases h2:b=d<;>simp[eqV,h1,h2]
theorem shC{r:Rg}{e:Ev}{d:Kd}{M:Option (Rg×Int×Unit)}(h:cOk (let p:=act r d (nmE e 0) (nmE e 1) (vlE e 1) (vlE e 2);(p.1,setT p.2 (vlE e 0))) M):cOk (aftK r e d) (bif decide (vlE e 0 < r.1)then some (yAg,20,())else M):=by
 unfold aftK;by_cases h0:vlE e 0 < rTk r
 ·rw[if_pos h0,bifT (y4 h0)];exact errC (by decide) _
 ·rw[if_neg h0,bifF (y5 h0)];exact h
theorem yOG(r:Rg)(n:Int)(a:Str)(t:Int)(hi:Inv r)(hv:True):cOk (aftK r (n,Kd.gate.str,[a],[t],[],()) .gate) (zP_M r (n,Kd.gate.str,[a],[t],[],())):=by
 have hgl:(rGs r).length<=1000:=by have:=hi.gl;omega
 have hsl:(rSs r).length<=1000:=by have:=hi.sl;omega
 have htl:(rTs r).length<=1000:=by have:=hi.tl;omega
 unfold zP_M zP_m;simp only[y01,Option.getD_some,yNB,cond_true,cond_false,ix0,ix1,ix2,bind_some,rEta];refine shC (e:=(n,Kd.gate.str,[a],[t],[],())) ?_
 show cOk ((act r .gate a [] 0 0).1,setT (act r .gate a [] 0 0).2 t) _
 unfold act;rw[yLn r a hgl];simp only[bind_some,y5Y,y0l];cases hg:gAt (rGs r) a with
 |some i =>
  rw[y4 (show gI (some i) >= 0 from natCast_nonneg i)]
  exact errC (n:=9) (by decide) _
 |none =>
  rw[y5 (show ¬ gI none >= 0 by decide)]
  simp only[Option.isSome_none,Bool.false_eq_true,if_false];by_cases h2:16<=(rGs r).length
  ·rw[y4 (show ((rGs r).length:Int) >= 16 by omega)]
   simp only[if_pos h2];exact errC (n:=5) (by decide) _
  ·rw[y5 (show ¬ ((rGs r).length:Int) >= 16 by omega)]
   simp only[if_neg h2];rw[show zI_M r.2.2.2.2.2.2.2.2.1 (a,false,0,[],[],())=some (rGs r++[(a,false,0,[],[],())],())from addG _ _ hgl]
   exact y4P
theorem yNG(r:Rg)(n t v w:Int)(hi:Inv r)(hv:True):cOk (aftK r (n,Kd.rule.str,[],[t,v,w],[],()) .rule) (zP_M r (n,Kd.rule.str,[],[t,v,w],[],())):=by
 have hgl:(rGs r).length<=1000:=by have:=hi.gl;omega
 have hsl:(rSs r).length<=1000:=by have:=hi.sl;omega
 have htl:(rTs r).length<=1000:=by have:=hi.tl;omega
 unfold zP_M zP_m;simp only[y01,Option.getD_some,yNK,cond_true,cond_false,ix0,ix1,ix2,bind_some,rEta];refine shC (e:=(n,Kd.rule.str,[],[t,v,w],[],())) ?_
 show cOk ((act r .rule [] [] v w).1,setT (act r .rule [] [] v w).2 t) _
 unfold act;rw[yQD];simp only[bind_some];erw [eqVr]
 by_cases h:ckRl v w=0
 ·rw[h];simp only[ne_eq,not_true_eq_false,if_false];cases decide (v=r.2.1.1/\w=r.2.1.2.1)<;>exact y4P
 ·have h2:¬ (v=r.2.1.1/\w=r.2.1.2.1):=λ e=>h (by rw[e.1,e.2];exact hi.rule)
  rw[y5 h2];simp only[if_pos h,Bool.not_false,cond_true];rw[bifT (show (ckRl v w != 0)=true by simp[h])]
  exact yQo h _ _
theorem yDP(r:Rg)(n t v w:Int)(hi:Inv r)(hv:0<=v/\0<=w):cOk (aftK r (n,Kd.forecast.str,[],[t,v,w],[],()) .forecast) (zP_M r (n,Kd.forecast.str,[],[t,v,w],[],())):=by
 have hgl:(rGs r).length<=1000:=by have:=hi.gl;omega
 have hsl:(rSs r).length<=1000:=by have:=hi.sl;omega
 have htl:(rTs r).length<=1000:=by have:=hi.tl;omega
 unfold zP_M zP_m;simp only[y01,Option.getD_some,yE1,cond_true,cond_false,ix0,ix1,ix2,bind_some,rEta];refine shC (e:=(n,Kd.forecast.str,[],[t,v,w],[],())) ?_
 show cOk ((act r .forecast [] [] v w).1,setT (act r .forecast [] [] v w).2 t) _
 unfold act;simp only[ckHt,y5Y,y0l,bind_some];unfold ckR;by_cases h:4096 < w
 ·rw[if_pos (show w < 0\/4096 < w from .inr h)]
  simp only[if_pos h];exact errC (n:=3) (by decide) _
 ·rw[if_neg (show ¬ (w < 0\/4096 < w) by omega)]
  simp only[if_neg h];by_cases h2:v<=rRun r
  ·rw[show decide (v<=r.2.2.1)=true from y4 h2]
   simp only[if_pos h2];exact errC (n:=21) (by decide) _
  ·rw[show decide (v<=r.2.2.1)=false from y5 h2]
   simp only[if_neg h2];exact y4P
theorem yLJ(r:Rg)(n:Int)(a:Str)(t v:Int)(hi:Inv r)(hv:0<=v):cOk (aftK r (n,Kd.level.str,[a],[t,v],[],()) .level) (zP_M r (n,Kd.level.str,[a],[t,v],[],())):=by
 have hgl:(rGs r).length<=1000:=by have:=hi.gl;omega
 have hsl:(rSs r).length<=1000:=by have:=hi.sl;omega
 have htl:(rTs r).length<=1000:=by have:=hi.tl;omega
 unfold zP_M zP_m;simp only[y01,Option.getD_some,yLb,cond_true,cond_false,ix0,ix1,ix2,bind_some,rEta];refine shC (e:=(n,Kd.level.str,[a],[t,v],[],())) ?_
 show cOk ((act r .level a [] v 0).1,setT (act r .level a [] v 0).2 t) _
 unfold act;simp only[yz,ckHt,y5Y,y0l,bind_some];unfold ckR;by_cases h:a=sSea
 ·rw[show decide (a=[115,101,97])=true from y4 h]
  simp only[if_pos h,cond_true];by_cases h2:4096 < v
  ·rw[if_pos (show v < 0\/4096 < v from .inr h2)]
   simp only[if_pos h2];exact errC (n:=3) (by decide) _
  ·rw[if_neg (show ¬ (v < 0\/4096 < v) by omega)]
   simp only[if_neg h2];exact y4P
 ·rw[show decide (a=[115,101,97])=false from y5 h]
  simp only[if_neg h,cond_false];by_cases h1:a=yIL
  ·rw[show decide (a=[98,97,115,105,110])=true from y4 h1]
   simp only[if_pos h1,cond_true];by_cases h2:4096 < v
   ·rw[if_pos (show v < 0\/4096 < v from .inr h2)]
    simp only[if_pos h2];exact errC (n:=3) (by decide) _
   ·rw[if_neg (show ¬ (v < 0\/4096 < v) by omega)]
    simp only[if_neg h2];exact y4P
  ·rw[show decide (a=[98,97,115,105,110])=false from y5 h1]
   simp only[if_neg h1,cond_false];exact errC (n:=13) (by decide) _
theorem decC(r:Rg)(a:Str)(t:Int):cOk (0,setT (decd r a) t) (bif a == [119,97,105,116]then some ((t,(r.snd.fst.fst,r.snd.fst.snd.fst,()),r.snd.snd.fst,r.snd.snd.snd.fst,r.snd.snd.snd.snd.fst,r.snd.snd.snd.snd.snd.fst,r.snd.snd.snd.snd.snd.snd.fst,r.snd.snd.snd.snd.snd.snd.snd.fst,r.snd.snd.snd.snd.snd.snd.snd.snd.fst,r.snd.snd.snd.snd.snd.snd.snd.snd.snd.fst,r.snd.snd.snd.snd.snd.snd.snd.snd.snd.snd.fst,()),(0:Int),())else
  bif a == [99,108,111,115,101]then (bif !r.snd.snd.snd.snd.snd.snd.fst == [99,108,111,115,101]then some ((t,(r.snd.fst.fst,r.snd.fst.snd.fst,()),r.snd.snd.fst,r.snd.snd.snd.fst,r.snd.snd.snd.snd.fst,r.snd.snd.snd.snd.snd.fst,a,i64.wrap (r.snd.snd.snd.snd.snd.snd.snd.fst+1),r.snd.snd.snd.snd.snd.snd.snd.snd.fst,r.snd.snd.snd.snd.snd.snd.snd.snd.snd.fst,r.snd.snd.snd.snd.snd.snd.snd.snd.snd.snd.fst,()),(0:Int),())else
   some ((t,(r.snd.fst.fst,r.snd.fst.snd.fst,()),r.snd.snd.fst,r.snd.snd.snd.fst,r.snd.snd.snd.snd.fst,r.snd.snd.snd.snd.snd.fst,a,r.snd.snd.snd.snd.snd.snd.snd.fst,r.snd.snd.snd.snd.snd.snd.snd.snd.fst,r.snd.snd.snd.snd.snd.snd.snd.snd.snd.fst,r.snd.snd.snd.snd.snd.snd.snd.snd.snd.snd.fst,()),(0:Int),()))else
   some ((t,(r.snd.fst.fst,r.snd.fst.snd.fst,()),r.snd.snd.fst,r.snd.snd.snd.fst,r.snd.snd.snd.snd.fst,r.snd.snd.snd.snd.snd.fst,a,r.snd.snd.snd.snd.snd.snd.snd.fst,r.snd.snd.snd.snd.snd.snd.snd.snd.fst,r.snd.snd.snd.snd.snd.snd.snd.snd.snd.fst,r.snd.snd.snd.snd.snd.snd.snd.snd.snd.snd.fst,()),(0:Int),())):=by
 simp only[yz];unfold decd;by_cases h1:a=sWait
 ·have h3:a≠sClose:=by rw[h1];decide
  rw[if_pos h1,if_neg (show ¬ (a=sClose/\rSt r≠sClose)from λ h=>h3 h.1),show decide (a=[119,97,105,116])=true from y4 h1]
  exact y4P
 rw[if_neg h1,show decide (a=[119,97,105,116])=false from y5 h1]
 by_cases h2:a=sClose
 ·rw[show decide (a=[99,108,111,115,101])=true from y4 h2]
  by_cases h3:rSt r=sClose
  ·rw[if_neg (show ¬ (a=sClose/\rSt r≠sClose)from λ h=>h.2 h3),show decide (r.2.2.2.2.2.2.1=[99,108,111,115,101])=true from y4 h3]
   exact y4P
  ·rw[if_pos (show (a=sClose/\rSt r≠sClose)from ⟨h2,h3⟩),show decide (r.2.2.2.2.2.2.1=[99,108,111,115,101])=false from y5 h3]
   exact y4P
 ·rw[if_neg (show ¬ (a=sClose/\rSt r≠sClose)from λ h=>h2 h.1),show decide (a=[99,108,111,115,101])=false from y5 h2]
  exact y4P
theorem yIp(r:Rg)(n:Int)(a:Str)(t:Int)(hi:Inv r)(hv:True):cOk (aftK r (n,Kd.decide.str,[a],[t],[],()) .decide) (zP_M r (n,Kd.decide.str,[a],[t],[],())):=by
 have hgl:(rGs r).length<=1000:=by have:=hi.gl;omega
 have hsl:(rSs r).length<=1000:=by have:=hi.sl;omega
 have htl:(rTs r).length<=1000:=by have:=hi.tl;omega
 unfold zP_M zP_m;simp only[y01,Option.getD_some,yIH,cond_true,cond_false,ix0,ix1,ix2,bind_some,rEta];refine shC (e:=(n,Kd.decide.str,[a],[t],[],())) ?_
 show cOk ((act r .decide a [] 0 0).1,setT (act r .decide a [] 0 0).2 t) _
 unfold act;simp only[yMm,advC,y5Y,y0l,bind_some];by_cases h1:y3z a
 ·rw[if_pos h1];simp only[if_neg (show ¬ ¬ y3z a from λ h=>h h1)]
  by_cases h2:a=adv r
  ·rw[show (a == adv r)=true from beq_iff_eq.2 h2]
   simp only[if_neg (show ¬ a≠adv r from λ h=>h h2)]
   exact decC r a t
  ·rw[show (a == adv r)=false from by rw[yz];exact y5 h2]
   simp only[if_pos (show a≠adv r from h2)]
   exact errC (n:=19) (by decide) _
 ·rw[if_neg h1];simp only[if_pos h1];exact errC (n:=13) (by decide) _
theorem yE5(r:Rg)(n:Int)(a:Str)(t:Int)(hi:Inv r)(hv:True):cOk (aftK r (n,Kd.override.str,[a],[t],[],()) .override) (zP_M r (n,Kd.override.str,[a],[t],[],())):=by
 have hgl:(rGs r).length<=1000:=by have:=hi.gl;omega
 have hsl:(rSs r).length<=1000:=by have:=hi.sl;omega
 have htl:(rTs r).length<=1000:=by have:=hi.tl;omega
 unfold zP_M zP_m;simp only[y01,Option.getD_some,yDv,cond_true,cond_false,ix0,ix1,ix2,bind_some,rEta];refine shC (e:=(n,Kd.override.str,[a],[t],[],())) ?_
 show cOk ((act r .override a [] 0 0).1,setT (act r .override a [] 0 0).2 t) _
 unfold act;simp only[yMm,advC,y5Y,y0l,bind_some];by_cases h1:y3z a
 ·rw[if_pos h1];simp only[if_neg (show ¬ ¬ y3z a from λ h=>h h1)]
  by_cases h2:a=adv r
  ·rw[show (a == adv r)=true from beq_iff_eq.2 h2]
   simp only[if_pos h2];exact errC (n:=19) (by decide) _
  ·rw[show (a == adv r)=false from by rw[yz];exact y5 h2]
   simp only[if_neg h2];exact decC r a t
 ·rw[if_neg h1];simp only[if_pos h1];exact errC (n:=13) (by decide) _
theorem yGy(r:Rg)(n:Int)(a b:Str)(t v:Int)(hi:Inv r)(hv:True):cOk (aftK r (n,Kd.command.str,[a,b],[t,v],[],()) .command) (zP_M r (n,Kd.command.str,[a,b],[t,v],[],())):=by
 have hgl:(rGs r).length<=1000:=by have:=hi.gl;omega
 have hsl:(rSs r).length<=1000:=by have:=hi.sl;omega
 have htl:(rTs r).length<=1000:=by have:=hi.tl;omega
 unfold zP_M zP_m;simp only[y01,Option.getD_some,yHI,cond_true,cond_false,ix0,ix1,ix2,bind_some,rEta];refine shC (e:=(n,Kd.command.str,[a,b],[t,v],[],())) ?_
 show cOk ((act r .command a b v 0).1,setT (act r .command a b v 0).2 t) _
 unfold act;rw[yLn r a hgl];simp only[bind_some,yP3,yIh,y0l];cases hg:gAt (rGs r) a with
 |none =>
  rw[bifT (y4 (show gI none < 0 by decide))]
  exact errC (n:=10) (by decide) _
 |some i =>
  obtain ⟨g,g1,g2,g3⟩:=y2B hg;rw[bifF (y5 (show ¬ gI (some i) < 0 from not_lt.2 (natCast_nonneg i)))]
  rw[show idx r.2.2.2.2.2.2.2.2.1 (gI (some i))=some g from (y00 _ _).trans g1]
  simp only[g3,bind_some];have hj:v≠0->¬ v < g.2.2.1->(v=g.2.2.1->b=g.2.2.2.1)->∀ (p:Int×Rg),p=(if v=g.2.2.1 then (0,r)else if mvs r g b≠0 then (mvs r g b,r)
    else (0,mkR (rTk r) (rRl r) (rRun r) (rHt r) (rSea r) (rBa r) (rSt r) (rCs r) ((rGs r).set i (g.1,b == y1B,v,b,g.2.2.2.2.1,())) (rSs r) (rTs r))) ->
    cOk (p.1,setT p.2 t) (y7h 0 r (n,Kd.command.str,[a,b],[t,v],[],()) (gI (some i),()) b v g):=by
   intro k1 k2 k3 p hp;subst hp;unfold y7h;simp only[ix0,bind_some];by_cases h4:v=g.2.2.1
   ·rw[if_pos h4,bifT (by simp[h4])]
    exact y4P
   rw[if_neg h4,bifF (by simp[h4])]
   rw[show zQ_M (r.fst,(r.snd.fst.fst,r.snd.fst.snd.fst,()),r.snd.snd.fst,r.snd.snd.snd.fst,r.snd.snd.snd.snd.fst,r.snd.snd.snd.snd.snd.fst,r.snd.snd.snd.snd.snd.snd.fst,r.snd.snd.snd.snd.snd.snd.snd.fst,r.snd.snd.snd.snd.snd.snd.snd.snd.fst,r.snd.snd.snd.snd.snd.snd.snd.snd.snd.fst,r.snd.snd.snd.snd.snd.snd.snd.snd.snd.snd.fst,()) (g.1,g.2.1,g.2.2.1,g.2.2.2.1,g.2.2.2.2.1,()) b=some (mvs r g b,())from mvsC r g b]
   simp only[bind_some];by_cases h5:mvs r g b=0
   ·rw[if_neg (by simp[h5]),bifF (show (mvs r g b != 0)=false by simp[h5])]
    rw[show r.2.2.2.2.2.2.2.2.1=rGs r from rfl,bifT (cpC _ hgl),cpG]
    rw[show idx (rGs r) (gI (some i))=some g from (y00 _ _).trans g1]
    have g4:(rGs r)[(gI (some i)).toNat]?=some g:=g1;have hlt:(gI (some i)).toNat < (rGs r).length:=(List.getElem?_eq_some_iff.1 g4).1;simp only[bind_some,eqVs,eqVi,cond_true,g4];simp only[List.getElem?_set_self hlt,List.length_set,hlt,bind_some,List.set_set,cond_true];exact y4P
   ·rw[if_pos h5,bifT (show (mvs r g b != 0)=true by simp[h5])]
    exact yQo h5 _ _
  by_cases h1:b=y1B\/b=y1j
  ·rw[if_pos h1];simp only[if_neg (show ¬ (b≠y1B/\b≠y1j)from λ h=>h1.elim h.1 h.2)]
   by_cases h2:v=0
   ·simp only[if_pos h2];rw[show (v == 0)=true from beq_iff_eq.2 h2]
    cases (v == g.2.2.1)<;>exact errC (n:=6) (by decide) _
   simp only[if_neg h2];rw[show (v == 0)=false from by simp[h2]]
   by_cases h3:v < g.2.2.1
   ·simp only[if_pos h3];rw[y4 h3];cases (v == g.2.2.1)<;>exact errC (n:=11) (by decide) _
   simp only[if_neg h3];rw[y5 h3];by_cases h4:v=g.2.2.1
   ·rw[bifT (show (v == g.2.2.1)=true from beq_iff_eq.2 h4)]
    simp only[if_pos h4];by_cases h5:b=g.2.2.2.1
    ·simp only[if_neg (show ¬ b≠g.2.2.2.1 from λ h=>h h5)]
     rw[show (b == g.2.2.2.1)=true from beq_iff_eq.2 h5]
     exact hj h2 h3 (λ _=>h5) (0,r) (by rw[if_pos h4])
    ·simp only[if_pos (show b≠g.2.2.2.1 from h5)]
     rw[show (b == g.2.2.2.1)=false from by rw[yz];exact y5 h5]
     exact errC (n:=30) (by decide) _
   ·rw[bifF (show (v == g.2.2.1)=false from by simp[h4])]
    simp only[if_neg h4];exact hj h2 h3 (λ h=>absurd h h4) _ (by rw[if_neg h4])
  ·rw[if_neg h1];simp only[if_pos (show (b≠y1B/\b≠y1j)from ⟨λ h=>h1 (.inl h),λ h=>h1 (.inr h)⟩)]
   cases (v == g.2.2.1)<;>exact errC (n:=13) (by decide) _
theorem yOg(r:Rg)(n:Int)(a b:Str)(t:Int)(hi:Inv r)(hv:True):cOk (aftK r (n,Kd.lock.str,[a,b],[t],[],()) .lock) (zP_M r (n,Kd.lock.str,[a,b],[t],[],())):=by
 have hgl:(rGs r).length<=1000:=by have:=hi.gl;omega
 have hsl:(rSs r).length<=1000:=by have:=hi.sl;omega
 have htl:(rTs r).length<=1000:=by have:=hi.tl;omega
 unfold zP_M zP_m;simp only[y01,Option.getD_some,yOp,cond_true,cond_false,ix0,ix1,ix2,bind_some,rEta];refine shC (e:=(n,Kd.lock.str,[a,b],[t],[],())) ?_
 show cOk ((act r .lock a b 0 0).1,setT (act r .lock a b 0 0).2 t) _
 unfold act;rw[yLn r a hgl];simp only[bind_some];cases hg:gAt (rGs r) a with
 |none =>
  rw[bifT (y4 (show gI none < 0 by decide))]
  exact errC (n:=10) (by decide) _
 |some i =>
  obtain ⟨g,g1,g2,g3⟩:=y2B hg;rw[bifF (y5 (show ¬ gI (some i) < 0 from not_lt.2 (natCast_nonneg i)))]
  rw[show idx r.2.2.2.2.2.2.2.2.1 (gI (some i))=some g from (y00 _ _).trans g1]
  simp only[g3,bind_some];by_cases h1:g.2.2.2.2.1≠[]
  ·simp only[if_pos h1];rw[bifT (by simp[h1])]
   exact errC (n:=33) (by decide) _
  ·simp only[if_neg h1];rw[bifF (by simpa using h1)]
   rw[show r.2.2.2.2.2.2.2.2.1=rGs r from rfl,bifT (cpC _ hgl),cpG]
   have g4:(rGs r)[(gI (some i)).toNat]?=some g:=g1;rw[show idx (rGs r) (gI (some i))=some g from (y00 _ _).trans g1]
   simp only[bind_some,g4];exact y4P
theorem yKO(r:Rg)(n:Int)(a b:Str)(t:Int)(hi:Inv r)(hv:True):cOk (aftK r (n,Kd.unlock.str,[a,b],[t],[],()) .unlock) (zP_M r (n,Kd.unlock.str,[a,b],[t],[],())):=by
 have hgl:(rGs r).length<=1000:=by have:=hi.gl;omega
 have hsl:(rSs r).length<=1000:=by have:=hi.sl;omega
 have htl:(rTs r).length<=1000:=by have:=hi.tl;omega
 unfold zP_M zP_m;simp only[y01,Option.getD_some,yJR,cond_true,cond_false,ix0,ix1,ix2,bind_some,rEta];refine shC (e:=(n,Kd.unlock.str,[a,b],[t],[],())) ?_
 show cOk ((act r .unlock a b 0 0).1,setT (act r .unlock a b 0 0).2 t) _
 unfold act;rw[yLn r a hgl];simp only[bind_some];cases hg:gAt (rGs r) a with
 |none =>
  rw[bifT (y4 (show gI none < 0 by decide))]
  exact errC (n:=10) (by decide) _
 |some i =>
  obtain ⟨g,g1,g2,g3⟩:=y2B hg;rw[bifF (y5 (show ¬ gI (some i) < 0 from not_lt.2 (natCast_nonneg i)))]
  rw[show idx r.2.2.2.2.2.2.2.2.1 (gI (some i))=some g from (y00 _ _).trans g1]
  simp only[g3,bind_some];by_cases h1:g.2.2.2.2.1≠b
  ·simp only[if_pos h1];rw[bifT (by simp[h1])]
   exact errC (n:=33) (by decide) _
  ·simp only[if_neg h1];rw[bifF (by simpa using h1)]
   rw[show r.2.2.2.2.2.2.2.2.1=rGs r from rfl,bifT (cpC _ hgl),cpG]
   have g4:(rGs r)[(gI (some i)).toNat]?=some g:=g1;rw[show idx (rGs r) (gI (some i))=some g from (y00 _ _).trans g1]
   simp only[bind_some,g4];exact y4P
theorem yLm(r:Rg)(n:Int)(a:Str)(t:Int)(hi:Inv r)(hv:True):cOk (aftK r (n,Kd.enter.str,[a],[t],[],()) .enter) (zP_M r (n,Kd.enter.str,[a],[t],[],())):=by
 have hgl:(rGs r).length<=1000:=by have:=hi.gl;omega
 have hsl:(rSs r).length<=1000:=by have:=hi.sl;omega
 have htl:(rTs r).length<=1000:=by have:=hi.tl;omega
 unfold zP_M zP_m;simp only[y01,Option.getD_some,yLt,cond_true,cond_false,ix0,ix1,ix2,bind_some,rEta];refine shC (e:=(n,Kd.enter.str,[a],[t],[],())) ?_
 show cOk ((act r .enter a [] 0 0).1,setT (act r .enter a [] 0 0).2 t) _
 unfold act;rw[show bsM r.2.2.2.2.2.2.2.2.2.1 a=some (((cntS a (rSs r):Nat):Int),decide (a∈rSs r),())from bsC (rSs r) a hsl hi.ss]
 simp only[bind_some];rw[show zR_M r (λ x=>zO_M x.fst)=some (((rGs r).filter (·.2.1)).map (·.1),())from yPZ r (·.2.1) _ (λ g=>rfl) hgl]
 simp only[bind_some];have hj:∀ shut:Bool,(shut=true ↔ (rSt r=sClose\/(rGs r).any (·.2.1)=true))->cOk (let p:=(if a∈rSs r then ((9:Int),r)else if rSt r=sClose\/(rGs r).any (·.2.1)=true then (20,r)else if 16<=(rSs r).length then (5,r)
   else (0,mkR (rTk r) (rRl r) (rRun r) (rHt r) (rSea r) (rBa r) (rSt r) (rCs r) (rGs r) (insS a (rSs r)) (rTs r)));(p.1,setT p.2 t)) (y5o 0 r (n,Kd.enter.str,[a],[t],[],()) (((cntS a (rSs r):Nat):Int),decide (a∈rSs r),()) shut):=by
  intro shut hs;unfold y5o;simp only[ix0,yFP,y0l,bind_some];by_cases h1:a∈rSs r
  ·rw[y4 h1];simp only[if_pos h1];exact errC (n:=9) (by decide) _
  rw[y5 h1];simp only[if_neg h1];by_cases h2:rSt r=sClose\/(rGs r).any (·.2.1)=true
  ·rw[hs.2 h2];simp only[if_pos h2];exact errC (n:=20) (by decide) _
  rw[show shut=false from eq_false_iff.2 λ h=>h2 (hs.1 h)]
  simp only[if_neg h2];by_cases h3:16<=(rSs r).length
  ·rw[show decide ((r.2.2.2.2.2.2.2.2.2.1.length:Int) >= 16)=true from y4 (show ((rSs r).length:Int) >= 16 by omega)]
   simp only[if_pos h3];exact errC (n:=5) (by decide) _
  rw[show decide ((r.2.2.2.2.2.2.2.2.2.1.length:Int) >= 16)=false from y5 (show ¬ ((rSs r).length:Int) >= 16 by omega)]
  simp only[if_neg h3];have c1:=yDM a (rSs r);rw[show decide (r.2.2.2.2.2.2.2.2.2.1.length<=memMax)=true from y4 (nmem _ hsl),show decide (0<=((cntS a (rSs r):Nat):Int))=true from y4 (by omega),
   show decide (((cntS a (rSs r):Nat):Int)<=(r.2.2.2.2.2.2.2.2.2.1.length:Int))=true from y4 (show ((cntS a (rSs r):Nat):Int)<=((rSs r).length:Int) by omega),show decide (r.2.2.2.2.2.2.2.2.2.1.length < memMax)=true from y4 (show (rSs r).length < memMax by have:=y7C _ hsl;omega)]
  rw[show y79 r.2.2.2.2.2.2.2.2.2.1 (((cntS a (rSs r):Nat):Int)).toNat a=insS a (rSs r)from insC (rSs r) a h1]
  exact y4P
 have hlen:decide (((((rGs r).filter (·.2.1)).map (·.1)).length:Int) > 0)=(rGs r).any (·.2.1):=by
  cases hany:(rGs r).any (·.2.1)with
  |true =>
   obtain ⟨g,h1,h2⟩:=List.any_eq_true.1 hany;have:0 < ((rGs r).filter (·.2.1)).length:=List.length_pos_of_mem (List.mem_filter.2 ⟨h1,h2⟩);exact y4 (by simp only[List.length_map];omega)
  |false =>
   have:(rGs r).filter (·.2.1)=[]:=List.filter_eq_nil_iff.2 λ g hg h=>by
    have:=List.any_eq_false.1 hany g hg;exact this h
   rw[this];rfl
 by_cases h1:rSt r=sClose
 ·rw[bifT (show (r.2.2.2.2.2.2.1 == [99,108,111,115,101])=true from beq_iff_eq.2 h1)]
  exact hj true ⟨λ _=>.inl h1,λ _=>rfl⟩
 ·rw[bifF (show (r.2.2.2.2.2.2.1 == [99,108,111,115,101])=false from by rw[yz];exact y5 h1),hlen]
  exact hj _ ⟨.inr,λ h=>h.resolve_left h1⟩
theorem yLk(r:Rg)(n:Int)(a:Str)(t:Int)(hi:Inv r)(hv:True):cOk (aftK r (n,Kd.leave.str,[a],[t],[],()) .leave) (zP_M r (n,Kd.leave.str,[a],[t],[],())):=by
 have hgl:(rGs r).length<=1000:=by have:=hi.gl;omega
 have hsl:(rSs r).length<=1000:=by have:=hi.sl;omega
 have htl:(rTs r).length<=1000:=by have:=hi.tl;omega
 unfold zP_M zP_m;simp only[y01,Option.getD_some,yLA,cond_true,cond_false,ix0,ix1,ix2,bind_some,rEta];refine shC (e:=(n,Kd.leave.str,[a],[t],[],())) ?_
 show cOk ((act r .leave a [] 0 0).1,setT (act r .leave a [] 0 0).2 t) _
 unfold act;rw[show bsM r.2.2.2.2.2.2.2.2.2.1 a=some (((cntS a (rSs r):Nat):Int),decide (a∈rSs r),())from bsC (rSs r) a hsl hi.ss]
 simp only[bind_some];by_cases h1:a∈rSs r
 ·rw[y4 h1];simp only[if_neg (show ¬ (a ∉ rSs r)from λ h=>h h1),Bool.not_true,cond_false]
  have c1:cntS a (rSs r) < (rSs r).length:=(List.getElem?_eq_some_iff.1 (y7Y hi.ss h1).1).1;rw[y3K (show -9223372036854775808<=((cntS a (rSs r):Nat):Int)+1 by omega) (by omega)]
  rw[show decide (r.2.2.2.2.2.2.2.2.2.1.length<=memMax)=true from y4 (nmem _ hsl),show decide (0<=((cntS a (rSs r):Nat):Int))=true from y4 (by omega),show decide (((cntS a (rSs r):Nat):Int) < ((cntS a (rSs r):Nat):Int)+1)=true from y4 (by omega),
   show decide (((cntS a (rSs r):Nat):Int)+1<=(r.2.2.2.2.2.2.2.2.2.1.length:Int))=true from y4 (show ((cntS a (rSs r):Nat):Int)+1<=((rSs r).length:Int) by omega)]
  rw[show (((cntS a (rSs r):Nat):Int)+1).toNat=cntS a (rSs r)+1 by omega,show y90 r.2.2.2.2.2.2.2.2.2.1 (((cntS a (rSs r):Nat):Int)).toNat (cntS a (rSs r)+1)=delS a (rSs r)from cutC (rSs r) a hi.ss h1]
  exact y4P
 ·rw[y5 h1];simp only[if_pos h1];exact errC (n:=10) (by decide) _
theorem yLX(r:Rg)(n:Int)(a:Str)(t:Int)(hi:Inv r)(hv:True):cOk (aftK r (n,Kd.issue.str,[a],[t],[],()) .issue) (zP_M r (n,Kd.issue.str,[a],[t],[],())):=by
 have hgl:(rGs r).length<=1000:=by have:=hi.gl;omega
 have hsl:(rSs r).length<=1000:=by have:=hi.sl;omega
 have htl:(rTs r).length<=1000:=by have:=hi.tl;omega
 unfold zP_M zP_m;simp only[y01,Option.getD_some,yLF,cond_true,cond_false,ix0,ix1,ix2,bind_some,rEta];refine shC (e:=(n,Kd.issue.str,[a],[t],[],())) ?_
 show cOk ((act r .issue a [] 0 0).1,setT (act r .issue a [] 0 0).2 t) _
 unfold act;rw[yQp r a htl];simp only[bind_some];cases hg:tAt (rTs r) a with
 |none =>
  rw[bifT (y4 (show gI none < 0 by decide))]
  by_cases h2:64<=(rTs r).length
  ·rw[show decide ((r.2.2.2.2.2.2.2.2.2.2.1.length:Int) >= 64)=true from y4 (show ((rTs r).length:Int) >= 64 by omega)]
   simp only[if_pos h2];exact errC (n:=5) (by decide) _
  ·rw[show decide ((r.2.2.2.2.2.2.2.2.2.2.1.length:Int) >= 64)=false from y5 (show ¬ ((rTs r).length:Int) >= 64 by omega)]
   simp only[if_neg h2,cond_false];rw[show zH_M r.2.2.2.2.2.2.2.2.2.2.1 (a,1,())=some (rTs r++[(a,1,())],())from addT _ _ htl]
   exact y4P
 |some i =>
  obtain ⟨g,g1,g2,g3⟩:=tAt_some hg;rw[bifF (y5 (show ¬ gI (some i) < 0 from not_lt.2 (natCast_nonneg i)))]
  simp only[g3];rw[show r.2.2.2.2.2.2.2.2.2.2.1=rTs r from rfl,bifT (cpC _ htl),cpG]
  have g4:(rTs r)[(gI (some i)).toNat]?=some g:=g1;rw[show idx (rTs r) (gI (some i))=some g from (y00 _ _).trans g1]
  simp only[bind_some,g4];exact y4P
theorem caft(r:Rg)(e:Ev)(d:Kd)(h:EvOk e d)(hd:d≠.undo)(hi:Inv r):zP_M r e=some (if (aft r e).1=0 then (aft r e).2 else yAg,(aft r e).1,()):=by
 show cOk (aft r e) _
 unfold aft;rw[y3j h];have hv:=h.vals;cases d;case gate=>obtain ⟨n,a,t,rfl⟩:=ev11 h rfl rfl;exact yOG r n a t hi trivial
 case rule=>obtain ⟨n,t,v,w,rfl⟩:=ev03 h rfl rfl;exact yNG r n t v w hi trivial
 case forecast=>obtain ⟨n,t,v,w,rfl⟩:=ev03 h rfl rfl;exact yDP r n t v w hi ⟨(hv v (by simp)).1,(hv w (by simp)).1⟩
 case level=>obtain ⟨n,a,t,v,rfl⟩:=ev12 h rfl rfl;exact yLJ r n a t v hi (hv v (by simp)).1
 case decide=>obtain ⟨n,a,t,rfl⟩:=ev11 h rfl rfl;exact yIp r n a t hi trivial
 case override=>obtain ⟨n,a,t,rfl⟩:=ev11 h rfl rfl;exact yE5 r n a t hi trivial
 case command=>obtain ⟨n,a,b,t,v,rfl⟩:=ev22 h rfl rfl;exact yGy r n a b t v hi trivial
 case lock=>obtain ⟨n,a,b,t,rfl⟩:=ev21 h rfl rfl;exact yOg r n a b t hi trivial
 case unlock=>obtain ⟨n,a,b,t,rfl⟩:=ev21 h rfl rfl;exact yKO r n a b t hi trivial
 case enter=>obtain ⟨n,a,t,rfl⟩:=ev11 h rfl rfl;exact yLm r n a t hi trivial
 case leave=>obtain ⟨n,a,t,rfl⟩:=ev11 h rfl rfl;exact yLk r n a t hi trivial
 case issue=>obtain ⟨n,a,t,rfl⟩:=ev11 h rfl rfl;exact yLX r n a t hi trivial
 case undo=>exact absurd rfl hd
end Go.Tw
end
