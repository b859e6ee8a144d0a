import Derived.Test.YtkfigfhjbejikaaGreatDoorVB
import Derived.Laws.MakeOwn
import Derived.Laws.CopyRow
set_option linter.all false
open List (getElem?_append_left getElem?_eq_getElem getElem?_map getElem?_set_ne getElem?_set_self length_map map_cons map_nil mem_append mem_cons mem_cons_self mem_map mem_of_getElem? mem_singleton)
open Option (bind_eq_some_iff map_eq_some_iff map_some)
open Nat (le_refl lt_or_ge)
open Bool (and_eq_true)
section
namespace Go.Vx
open Go.RowKit
variable [GT]
section
variable {P:Program} {A0:Nat->Prop} {w0:Base} {ρ:Places} {s:St} {a:Act} {w w':World} {g:G} {R:Type} {K:SV->Option R} {r:R} {o:Oper}
theorem y0v{b:Builtin}{args:Array Operand}{ts:Array TypeId}(ho:o.op=.call { callee:=.builtin b,args,argTypes:=ts }) :
  (execOp a.eval o).run P w=(builtin b ts o.type (args.map λ|.const _=>true|_=>false) (args.map a.eval)).run P w:=by
 unfold execOp;simp only[ho,resolve,invoke,Sem.run_bind,Sem.run_pure,Result.andThen_ok];rfl
theorem y1t{t:TypeId}{i:TyI}(h:y0m P t i=true)(hty:i.ty.isSlice=true):∃ e,P.underlying t=some (.slice e):=by
 cases hi:i.ty<;>rw[hi]at hty<;>simp[Ty.isSlice]at hty
 ·exact ⟨_,(yJ h (.inl hi)).1⟩
 ·exact ⟨_,(yJ h (.inr hi)).1⟩
theorem yHC(hT:yh P g.T)(h:Rel P A0 w0 ρ s a w){t:TypeId}{i:TyI}(hi:yR g.T t=some i){sv:SV}{v:Value}(hx:yE P (Av A0 ρ s.cH) w ρ sv v){ty:TypeId}
  (hk:lenK i.ty s.cH sv K=some r):∃ n:Nat,(Builtin.len_ #[t] ty #[v]).run P w=.ok (.int .i64 n) w/\K (.val (.int .i64) (n:Int))=some r:=by
 unfold lenK at hk;split at hk
 ·split at hk
  ·rename_i hs;obtain ⟨e,hu⟩:=y1t (hT.shape hi) hs;obtain ⟨l,hl,rfl⟩:=hx;simp only[y6]at hl;obtain ⟨p,c,rfl,_⟩:=hl;exact ⟨_,by simp[Builtin.len_,run_underlying hu,Ty.wrap,Ty.agg,goInt],hk⟩
  ·cases hk
 ·split at hk
  ·rename_i hs;obtain ⟨e,hu⟩:=y1t (hT.shape hi) hs;obtain ⟨l,hl,rfl⟩:=hx;simp only[y6]at hl;obtain ⟨p,c,rfl,_⟩:=hl;exact ⟨_,by simp[Builtin.len_,run_underlying hu,Ty.wrap,Ty.agg,goInt],hk⟩
  ·cases hk
 ·split at hk
  ·rename_i bs hs;have hu:=y2H (hT.shape hi) hs;rw[y3p hx];have hs:(⟨(bs:List UInt8).toArray⟩:ByteArray).size=(bs:List UInt8).length:=by simp[ByteArray.size]
   exact ⟨_,by simp only[Builtin.len_];simp[run_underlying hu,goInt,hs],hk⟩
  ·cases hk
 ·split at hk
  ·rename_i hs;obtain ⟨e,hu⟩:=y1t (hT.shape hi) hs;simp only[yE]at hx;subst hx;exact ⟨0,by simp[Builtin.len_,run_underlying hu,goInt],hk⟩
  ·cases hk
 ·split at hk
  ·rename_i β hs;obtain ⟨e,hu⟩:=y1t (hT.shape hi) hs;split at hk
   ·rename_i e' u xs nn hch;obtain ⟨hlen,_⟩:=(h.cH β _ (getD_some hch)).1;simp only[yE]at hx;subst hx;exact ⟨xs.length,by simp[Builtin.len_,run_underlying hu,goInt,hlen],hk⟩
   ·rename_i e' u q e2 v xs hch;obtain ⟨⟨hlen,_⟩,_⟩:=(h.cH β _ (getD_some hch)).1;simp only[yE]at hx;subst hx;exact ⟨xs.length,by simp[Builtin.len_,run_underlying hu,goInt,hlen],hk⟩
   ·cases hk
  ·cases hk
 ·split at hk
  ·rename_i β m hs;obtain ⟨e,hu⟩:=y1t (hT.shape hi) hs;split at hk
   ·rename_i e' u q e2 v' xs hch;obtain ⟨x,hx1,hk2⟩:=bind_eq_some_iff.1 hk;obtain ⟨ys,hys,hk3⟩:=bind_eq_some_iff.1 hk2;obtain ⟨q',hq',rfl⟩:=hx;obtain ⟨b,q2,l,hb,h0,h6,h7⟩:=y6T (h.cH β _ (getD_some hch)).1 hx1;rw[hq']at h0;cases h0;obtain ⟨ys',hys',_,_,h8,h9⟩:=h7.comp;rw[hys]at hys';cases hys';exact ⟨List.length ys,by simp[Builtin.len_,run_underlying hu,goInt,h8],hk3⟩
   ·cases hk
  ·cases hk
 ·split at hk
  ·rename_i n u hty;obtain ⟨hu,_⟩:=y3U (hT.shape hi) hty;exact ⟨n,by cases v<;>simp[Builtin.len_,run_underlying hu,goInt],hk⟩
  ·cases hk
theorem yKS(hT:yh P g.T)(h:Rel P A0 w0 ρ s a w){args:Array Operand}{ts:Array TypeId}(ho:o.op=.call { callee:=.builtin .len,args,argTypes:=ts })(hk:yY g s o K=some r):Yld P A0 ρ s a w o K r:=by
 simp only[yY,ho]at hk;split at hk
 ·rename_i x t hxs hts;split at hk
  ·rename_i i hi;have hx:=(y5 (T:=g.T) h t x).1;obtain ⟨n,h1,h2⟩:=yHC (ty:=o.type) hT h hi hx hk;have e1:args.map a.eval=#[a.eval x]:=by apply Array.toList_inj.1;simp[hxs]
   have e2:ts=#[t]:=by apply Array.toList_inj.1;simp[hts]
   refine Yld.here (sv:=.val (.int .i64) (n:Int)) (v:=.int .i64 n) ?_ (y2U _ _) trivial h2;rw[y0v ho,e1,e2];simp only[builtin,Sem.run_bind,h1,Result.andThen_ok,Sem.run_pure]
  ·cases hk
 ·cases hk
theorem y77(h:Rel P A0 w0 ρ s a w){k:IntKind}{T:List (TypeId×TyI)}{t:TypeId}:∀ {l:List Operand} {r:List Int},yGn k (l.map λ x=>yB T t s x)=some r->l.map a.eval=r.map (Value.int k)
 |[],r,h=>by cases h;rfl
 |x::l,r,hr=>by
  rw[map_cons]at hr;have hx:=(y5 (T:=T) h t x).1;unfold yGn at hr;split at hr
  ·rename_i he;cases he
  ·rename_i j n l' he;simp only[List.cons.injEq]at he;obtain ⟨he,rfl⟩:=he;rw[he]at hx;obtain ⟨hk,hr⟩:=y0n hr;subst hk;obtain ⟨r',hr',rfl⟩:=map_eq_some_iff.1 hr;rw[map_cons,map_cons,yo hx,y77 h hr']
  ·cases hr
theorem yAa(h:Rel P A0 w0 ρ s a w){mx:Bool}{args:Array Operand}{T:List (TypeId×TyI)}{t:TypeId}(hk:maxK mx (args.toList.map λ x=>yB T t s x) K=some r) :
  ∃ (k:IntKind) (x:Int) (l:List Int) (y:Int),(args.map a.eval).toList=Value.int k x::l.map (Value.int k)/\y=l.foldl (λ a b=>if mx then (if b > a then b else a)else (if b < a then b else a)) x/\K (.val (.int k) y)=some r:=by
 unfold maxK at hk;have hl:(args.map a.eval).toList=args.toList.map a.eval:=by simp
 rw[hl];split at hk
 ·rename_i k x j y heq;obtain ⟨hkj,hk⟩:=y0n hk;subst hkj;match hargs:args.toList,heq with
  |[p,q],heq =>
   simp only[map_cons,map_nil,List.cons.injEq,and_true]at heq;have h1:=(y5 (T:=T) h t p).1;have h2:=(y5 (T:=T) h t q).1;rw[heq.1]at h1;rw[heq.2]at h2;exact ⟨k,x,[y],_,by simp[yo h1,yo h2],rfl,hk⟩
  |[],heq=>simp at heq
  |[_],heq=>simp at heq
  |_::_::_::_,heq=>simp at heq
 ·rename_i k x l' _ heq;obtain ⟨rs,hrs,hk2⟩:=bind_eq_some_iff.1 hk;clear hk;match hargs:args.toList,heq with
  |[],heq=>cases heq
  |p::q,heq =>
   simp only[map_cons,List.cons.injEq]at heq;obtain ⟨h0,rfl⟩:=heq;have h1:=(y5 (T:=T) h t p).1;rw[h0]at h1;have h2:=y77 h hrs;split at hk2
   ·refine ⟨k,x,_,_,by rw[map_cons,yo h1,h2],?_,hk2⟩
    cases mx<;>rfl
   ·refine ⟨k,x,_,_,by rw[map_cons,yo h1,h2],?_,hk2⟩
    cases mx<;>rfl
   ·cases hk2
 ·cases hk
theorem yGe(k:IntKind)(w:World):∀ (l:List Int) (x:Int),((l.map (Value.int k)).foldlM Builtin.max2 (Value.int k x)).run P w=.ok (.int k (l.foldl (λ a b=>if b > a then b else a) x)) w
 |[],x=>rfl
 |y::l,x=>by
  rw[map_cons,List.foldlM_cons,List.foldl_cons];simp only[Builtin.max2,Sem.run_bind,Sem.run_pure,Result.andThen_ok];exact yGe k w l _
theorem yFY(k:IntKind)(w:World):∀ (l:List Int) (x:Int),((l.map (Value.int k)).foldlM Builtin.min2 (Value.int k x)).run P w=.ok (.int k (l.foldl (λ a b=>if b < a then b else a) x)) w
 |[],x=>rfl
 |y::l,x=>by
  rw[map_cons,List.foldlM_cons,List.foldl_cons];simp only[Builtin.min2,Sem.run_bind,Sem.run_pure,Result.andThen_ok];exact yFY k w l _
theorem yJW(h:Rel P A0 w0 ρ s a w){args:Array Operand}{ts:Array TypeId}(ho:o.op=.call { callee:=.builtin .max,args,argTypes:=ts })(hk:yY g s o K=some r):Yld P A0 ρ s a w o K r:=by
 simp only[yY,ho]at hk;obtain ⟨k,x,l,y,h1,h3,h2⟩:=yAa h hk;refine Yld.here (sv:=.val (.int k) y) (v:=.int k y) ?_ (y2U _ _) trivial h2;rw[y0v ho];have hm:=yGe (P:=P) k w l x;simp only[if_true]at h3;rw[<- h3]at hm;simp only[builtin,Builtin.max_,h1,Sem.run_bind,hm,Result.andThen_ok,Sem.run_pure]
theorem yKw(h:Rel P A0 w0 ρ s a w){args:Array Operand}{ts:Array TypeId}(ho:o.op=.call { callee:=.builtin .min,args,argTypes:=ts })(hk:yY g s o K=some r):Yld P A0 ρ s a w o K r:=by
 simp only[yY,ho]at hk;obtain ⟨k,x,l,y,h1,h3,h2⟩:=yAa h hk;refine Yld.here (sv:=.val (.int k) y) (v:=.int k y) ?_ (y2U _ _) trivial h2;rw[y0v ho];have hm:=yFY (P:=P) k w l x;simp only[Bool.false_eq_true,if_false]at h3;rw[<- h3]at hm;simp only[builtin,Builtin.min_,h1,Sem.run_bind,hm,Result.andThen_ok,Sem.run_pure]
theorem yKb(h:Rel P A0 w0 ρ s a w){args:Array Operand}{T:List (TypeId×TyI)}{t:TypeId}{sv:SV}(he:(args.toList.map λ x=>yB T t s x)=[sv]):∃ v,args.map a.eval=#[v]/\yE P (Av A0 ρ s.cH) w ρ sv v:=by
 match hargs:args.toList,he with
 |[p],he =>
  simp only[map_cons,map_nil,List.cons.injEq,and_true]at he;have h1:=(y5 (T:=T) h t p).1;rw[he]at h1;exact ⟨_,by apply Array.toList_inj.1;simp[hargs],h1⟩
 |[],he=>simp at he
 |_::_::_,he=>simp at he
theorem yHN(h:Rel P A0 w0 ρ s a w){args:Array Operand}{ts:Array TypeId}(ho:o.op=.call { callee:=.builtin .complex,args,argTypes:=ts })(hk:yY g s o K=some r):Yld P A0 ρ s a w o K r:=by
 simp only[yY,ho]at hk;unfold yIZ at hk;split at hk
 ·rename_i k x j y heq;split at hk
  ·rename_i hkj;subst hkj;match hargs:args.toList,heq with
   |[p,q],heq =>
    simp only[map_cons,map_nil,List.cons.injEq,and_true]at heq;have h1:=(y5 (T:=g.T) h o.type p).1;have h2:=(y5 (T:=g.T) h o.type q).1;rw[heq.1]at h1;rw[heq.2]at h2;obtain ⟨x,hx,rfl⟩:=y4q h1;obtain ⟨y,hy,rfl⟩:=y4q h2;have ea:args.map a.eval=#[.float k x,.float k y]:=by apply Array.toList_inj.1;simp[hargs,hx,hy]
    refine Yld.here (sv:=.val (.cplx k) (fcan k x,fcan k y)) (v:=.complex k x y) ?_ (yO0 _ _ _) trivial hk;rw[y0v ho,ea];have hr:(Builtin.complex_ ts o.type #[.float k x,.float k y]).run P w=.ok (.complex k x y) w:=by
     have hdef:Builtin.complex_ ts o.type #[.float k x,.float k y]=(if k=k then pure (.complex k x y)else stuck "complex: parts of different kinds"):=rfl
     rw[hdef,if_pos rfl];rfl
    simp only[builtin,Sem.run_bind,hr,Result.andThen_ok,Sem.run_pure]
   |[],heq=>simp at heq
   |[_],heq=>simp at heq
   |_::_::_::_,heq=>simp at heq
  ·cases hk
 ·cases hk
theorem yH1(h:Rel P A0 w0 ρ s a w){args:Array Operand}{ts:Array TypeId}(ho:o.op=.call { callee:=.builtin .real,args,argTypes:=ts })(hk:yY g s o K=some r):Yld P A0 ρ s a w o K r:=by
 simp only[yY,ho]at hk;unfold yLT at hk;split at hk
 ·rename_i k z heq;obtain ⟨v,h1,h2⟩:=yKb h heq;obtain ⟨p,q,rfl,hp,hq⟩:=y6G h2;refine Yld.here (sv:=.val (.flt k) z.1) (v:=.float k p) ?_ (hp ▸ y6Q _ _) trivial hk;rw[y0v ho,h1];have hr:(Builtin.real_ ts o.type #[.complex k p q]).run P w=.ok (.float k p) w:=rfl;simp only[builtin,Sem.run_bind,hr,Result.andThen_ok,Sem.run_pure]
 ·cases hk
theorem yIF(h:Rel P A0 w0 ρ s a w){args:Array Operand}{ts:Array TypeId}(ho:o.op=.call { callee:=.builtin .imag,args,argTypes:=ts })(hk:yY g s o K=some r):Yld P A0 ρ s a w o K r:=by
 simp only[yY,ho]at hk;unfold yKM at hk;split at hk
 ·rename_i k z heq;obtain ⟨v,h1,h2⟩:=yKb h heq;obtain ⟨p,q,rfl,hp,hq⟩:=y6G h2;refine Yld.here (sv:=.val (.flt k) z.2) (v:=.float k q) ?_ (hq ▸ y6Q _ _) trivial hk;rw[y0v ho,h1];have hr:(Builtin.imag_ ts o.type #[.complex k p q]).run P w=.ok (.float k q) w:=rfl;simp only[builtin,Sem.run_bind,hr,Result.andThen_ok,Sem.run_pure]
 ·cases hk
theorem yDY{α:Type}{c:Prop}[Decidable c]{x:Option α}{y:α}(h:(if c then x else none)=some y):c/\x=some y:=by
 split at h
 ·exact ⟨‹_›,h⟩
 ·cases h
theorem y7I{k:Ty}(hk:k.keyAll=true):k.keyOk=true\/k.keyF=true:=by
 unfold Ty.keyAll at hk;cases h:k.keyOk with
 |true=>exact .inl rfl
 |false=>rw[h]at hk;exact .inr hk
theorem y9c{k:Ty}(hk:k.keyOk=true):k.keyAll=true:=by simp[Ty.keyAll,hk]
theorem y4j{A:Nat->Prop}:∀ {k:Ty} {x:k.den} {l:List Value},k.keyF=true->(y6 P k A w x l ↔ l=k.flatV x)
 |.unit,_,_,_=>by simp[y6,Ty.flatV]
 |.pair a b,x,l,hk=>by
  have hk':a.keyPart=true/\b.keyF=true:=by simpa[Ty.keyF]using hk
  have hb:=λ {l:List Value}=>y4j (A:=A) (k:=b) (x:=x.2) (l:=l) hk'.2
  have ha:∀ {l:List Value},y6 P a A w x.1 l ↔ l=a.flatV x.1:=by
   intro l;cases a<;>first|(simp only[y6,Ty.flatV];done)|(cases hk'.1;done)|(simp[y6,Ty.flatV])
  simp only[y6,Ty.flatV];constructor
  ·rintro ⟨l1,l2,rfl,h1,h2⟩
   rw[ha.1 h1,hb.1 h2]
  ·intro h;exact ⟨_,_,h,ha.2 rfl,hb.2 rfl⟩
theorem yMf{A:Nat->Prop}{k:Ty}{x:k.den}{l:List Value}(hk:k.keyAll=true):y6 P k A w x l ↔ l=k.flatV x:=by
 rcases y7I hk with hk|hk
 ·cases k<;>first|(cases hk;done)|(simp[y6,Ty.flatV])
 ·exact y4j hk
theorem y7t{A:Nat->Prop}{k:Ty}{x:k.den}{l:List Value}(hk:k.keyAll=true)(h:y6 P k A w x l):k.wrap l=yc k x:=by
 rw[(yMf hk).1 h];rfl
theorem y8K(a b:List UInt8):((⟨a.toArray⟩:ByteArray) == ⟨b.toArray⟩)=(a == b):=by
 show (a.toArray == b.toArray)=(a == b)
 simp
structure KeyD (P:Program) (kt:TypeId) (k:Ty):Prop where
 eqv:∀ x y:k.den,eqV k x y=true->x=y
 check:∀ (w:World) (e:Bool) (x:k.den),(Instr.checkKey e 10000 kt (yc k x)).run P w=.ok () w
 nil:∀ (w:World) (y:k.den),(Instr.findKey kt (yc k y) []).run P w=.ok none w
 find:∀ {v:Ty} (y:k.den) (ms:List MapEntry) (es:List (k.den×v.den)),ms.length=es.length ->
  (∀ (j:Nat) (e:MapEntry) (x:k.den×v.den),ms[j]?=some e->es[j]?=some x->e.key=yc k x.1) ->
  ((∀ w,(Instr.findKey kt (yc k y) ms).run P w=.ok none w)/\yZ k v es y=none/\∀ z,y0a k v es y z=es++[(y,z)]) \/
  ∃ (j:Nat) (e:MapEntry) (x:k.den×v.den),ms[j]?=some e/\es[j]?=some x/\x.1=y/\(∀ w,(Instr.findKey kt (yc k y) ms).run P w=.ok (some (j,e.val)) w)/\yZ k v es y=some x.2/\∀ z,y0a k v es y z=es.set j (y,z)
theorem yBd{k v:Ty}(F:List MapEntry->Nat->Option (Nat×Value)->Prop)(y:k.den)(hnil:∀ i,F [] i none)(heq:∀ x:k.den,eqV k y x=true->y=x)
  (hyes:∀ (e:MapEntry) (x:k.den) (ms:List MapEntry) (i:Nat),e.key=yc k x->eqV k y x=true->F (e::ms) i (some (i,e.val)))
  (hno:∀ (e:MapEntry) (x:k.den) (ms:List MapEntry) (i:Nat) (o:Option (Nat×Value)),e.key=yc k x->eqV k y x=false->F ms (i+1) o->F (e::ms) i o) :
  ∀ (ms:List MapEntry) (es:List (k.den×v.den)) (i:Nat),ms.length=es.length ->
  (∀ (j:Nat) (e:MapEntry) (x:k.den×v.den),ms[j]?=some e->es[j]?=some x->e.key=yc k x.1) ->
  (F ms i none/\yZ k v es y=none/\∀ z,y0a k v es y z=es++[(y,z)]) \/
  ∃ (j:Nat) (e:MapEntry) (x:k.den×v.den),ms[j]?=some e/\es[j]?=some x/\x.1=y/\F ms i (some (i+j,e.val))/\yZ k v es y=some x.2/\∀ z,y0a k v es y z=es.set j (y,z)
 |[],[],i,_,_=>.inl ⟨hnil i,rfl,λ _=>rfl⟩
 |[],_::_,_,h,_=>by simp at h
 |_::_,[],_,h,_=>by simp at h
 |e::ms,x::es,i,h,hm=>by
  have h0:e.key=yc k x.1:=hm 0 e x rfl rfl;have ih:=yBd F y hnil heq hyes hno ms es (i+1) (by simpa using h) (λ j e' x' h1 h2=>hm (j+1) e' x' (by simpa using h1) (by simpa using h2))
  cases hq:eqV k y x.1 with
  |true =>
   refine .inr ⟨0,e,x,rfl,rfl,(heq _ hq).symm,?_,?_,λ z=>?_⟩
   ·simpa using hyes e x.1 ms i h0 hq
   ·simp[yZ,hq]
   ·simp[y0a,hq]
  |false =>
   rcases ih with ⟨h1,h2,h3⟩|⟨j,e',x',h1,h2,h3,h4,h5,h6⟩
   ·exact .inl ⟨hno e x.1 ms i _ h0 hq h1,by simp[yZ,hq,h2],λ z=>by simp[y0a,hq,h3]⟩
   ·refine .inr ⟨j+1,e',x',by simpa using h1,by simpa using h2,h3,?_,by simp[yZ,hq,h5],λ z=>by simp[y0a,hq,h6]⟩
    have:=hno e x.1 ms i _ h0 hq h4;rwa[show i+1+j=i+(j+1) by omega]at this
theorem yFU{kt:TypeId}{k:Ty}{d:TypeDesc}(hu:P.underlying kt=some d)(hv:∀ x y:k.den,eqV k x y=true->x=y)(hs:∀ x y:k.den,Instr.sameNow d (yc k x) (yc k y)=some (eqV k x y))
  (hc:∀ (w:World) (e:Bool) (x:k.den),(Instr.checkKey e 10000 kt (yc k x)).run P w=.ok () w):KeyD P kt k where
 eqv:=hv
 check:=hc
 nil w y:=by simp[Instr.findKey,run_underlying hu,Instr.findNow]
 find {v} y ms es hl hm:=by
  have run:∀ {r:Option (Nat×Value)},Instr.findNow d (yc k y) ms 0=some r->∀ w,(Instr.findKey kt (yc k y) ms).run P w=.ok r w:=by
   intro r h w;simp[Instr.findKey,run_underlying hu,h]
  rcases yBd (v:=v) (λ ms i o=>Instr.findNow d (yc k y) ms i=some o) y (λ _=>rfl) (hv y)
   (λ e x ms i h0 hq=>by simp[Instr.findNow,h0,hs,hq]) (λ e x ms i o h0 hq h=>by simp[Instr.findNow,h0,hs,hq,h]) ms es 0 hl hm with ⟨h1,h2,h3⟩|⟨j,e,x,h1,h2,h3,h4,h5,h6⟩
  ·exact .inl ⟨run h1,h2,h3⟩
  ·exact .inr ⟨j,e,x,h1,h2,h3,by simpa using run h4,h5,h6⟩
theorem yBx:∀ {k:Ty} (x y:k.den),k.keyF=true->eqV k x y=true->x=y
 |.unit,_,_,_,_=>rfl
 |.pair a b,x,y,hk,h=>by
  have hk':a.keyPart=true/\b.keyF=true:=by simpa[Ty.keyF]using hk
  have h':eqV a x.1 y.1=true/\eqV b x.2 y.2=true:=by simpa[eqV]using h
  have h2:=yBx x.2 y.2 hk'.2 h'.2;have h1:x.1=y.1:=by
   have h3:=h'.1;cases a<;>first|(cases hk'.1;done)|(simp only[eqV]at h3;exact eq_of_beq h3)
  exact Prod.ext h1 h2
theorem yHM{m:Nat}{e:Bool}{d:Nat}{t:TypeId}{a:Ty}(hp:a.keyPart=true)(hc:cmpB P m t a=true)(v:Value)(w:World):(Instr.checkKey e (d+1) t v).run P w=.ok () w:=by
 have hd:∃ q,P.underlying t=some q/\(q=.bool\/q=.string\/∃ j,q=.int j):=by
  cases m with
  |zero=>cases hc
  |succ m =>
   cases hu:P.underlying t with
   |none=>cases a<;>first|(cases hp;done)|(simp[cmpB,hu]at hc)
   |some q =>
    refine ⟨q,rfl,?_⟩;cases a<;>first|(cases hp;done)|skip
    all_goals
     simp only[cmpB,hu]at hc;cases q<;>first|(cases hc;done)|simp
 obtain ⟨q,hu,hq⟩:=hd;unfold Instr.checkKey;simp only[Sem.run_bind,run_underlying hu,Result.andThen_ok];rcases hq with rfl|rfl|⟨j,rfl⟩<;>rfl
theorem y74{m:Nat}{e:Bool}{d:Nat}:∀ (fs:List Field) (off:Nat) (k:Ty) (cs:Array Value),k.keyF=true->cmpF P (cmpB P m) fs off k=true->off+k.size<=cs.size ->
  ∀ w,(forIn fs PUnit.unit λ (f:Field) (_:PUnit)=>(do
   if f.name ≠ "_" then Instr.checkKey e (d+1) f.type (<- part f.type cs f.offset)
   pure (ForInStep.yield PUnit.unit):Sem (ForInStep PUnit))).run P w=.ok PUnit.unit w
 |[],_,_,_,_,_,_,w=>by simp
 |f::fs,off,k,cs,hk,hc,hl,w=>by
  cases k;case pair a b =>
   have hk':a.keyPart=true/\b.keyF=true:=by simpa[Ty.keyF]using hk
   simp only[cmpF,and_eq_true,Bool.not_eq_true',beq_eq_false_iff_ne,beq_iff_eq]at hc;obtain ⟨⟨⟨⟨c1,c2⟩,c3⟩,c4⟩,c5⟩:=hc;simp only[Ty.size]at hl;have p1:=y3A (w:=w) (y0u c3) (cs:=cs) (off:=f.offset) (by omega)
   have p2:(Instr.checkKey e (d+1) f.type (a.wrap ((cs.toList.drop f.offset).take a.size))).run P w=.ok () w:=by
    exact yHM hk'.1 c4 _ w
   have ih:=y74 (m:=m) (e:=e) (d:=d) fs (off+a.size) b cs hk'.2 c5 (by omega) w
   simp only[List.forIn_cons,Sem.run_bind,c1,ne_eq,not_false_eq_true,if_true,Result.andThen_ok,p1,p2,Sem.run_pure];exact ih
  all_goals simp[cmpF]at hc
theorem yEo{kt:TypeId}{k:Ty}{fs:Array Field}(hu:P.underlying kt=some (.struct fs))(hF:k.keyF=true)(hc:cmpB P 30 kt k=true):KeyD P kt k:=by
 have hag:k.agg=true:=by cases k<;>first|rfl|(cases hF;done)
 have hfs:cmpF P (cmpB P 29) fs.toList 0 k=true:=by
  cases k<;>first|(cases hF;done)|skip
  all_goals
   simp only[cmpB,hu,and_eq_true]at hc;exact hc.2
 have hsz:∀ x:k.den,(k.flatV x).length=k.size:=λ x=>((y4j (P:=P) (w:=default) (A:=λ _=>False) (x:=x) hF).2 rfl).length
 have heq:∀ (w:World) (x y:k.den),(Op.equal kt (yc k x) (yc k y)).run P w=.ok (eqV k x y) w:=λ w x y =>
  y4X (w:=w) 9970 30 hc ((y4j (A:=λ _=>False) hF).2 rfl) ((y4j hF).2 rfl)
 refine ⟨λ x y=>yBx x y hF,λ w e x=>?_,λ w y=>?_,λ {v} y ms es hl hm=>?_⟩
 ·show (Instr.checkKey e (9998+1+1) kt (yc k x)).run P w=.ok () w
  unfold Instr.checkKey yc Ty.wrap;rw[if_pos hag];simp only[Sem.run_bind,run_underlying hu,Result.andThen_ok];rw[<- Array.forIn_toList];have:=y74 (e:=e) (d:=9998) fs.toList 0 k (k.flatV x).toArray hF hfs (by simp[hsz]) w
  simp at this ⊢;rw[this];rfl
 ·simp[Instr.findKey,run_underlying hu,Instr.findNow]
 ·have run:∀ {r:Option (Nat×Value)},(∀ w,(Instr.findAsking kt (yc k y) ms 0).run P w=.ok r w)->ms≠[]->∀ w,(Instr.findKey kt (yc k y) ms).run P w=.ok r w:=by
   intro r h hne w;cases ms with
   |nil=>exact absurd rfl hne
   |cons e ms =>
    have hn:Instr.findNow (.struct fs) (yc k y) (e::ms) 0=none:=by
     simp[Instr.findNow,Instr.sameNow]
    simp only[Instr.findKey,Sem.run_bind,run_underlying hu,Result.andThen_ok,hn,h w]
  rcases yBd (v:=v) (λ ms i o=>∀ w,(Instr.findAsking kt (yc k y) ms i).run P w=.ok o w) y (λ _ w=>by simp[Instr.findAsking]) (λ x=>yBx y x hF)
   (λ e x ms i h0 hq w=>by simp[Instr.findAsking,h0,heq,hq]) (λ e x ms i o h0 hq h w=>by simp[Instr.findAsking,h0,heq,hq,h w]) ms es 0 hl hm with ⟨h1,h2,h3⟩|⟨j,e,x,h1,h2,h3,h4,h5,h6⟩
  ·refine .inl ⟨?_,h2,h3⟩;by_cases hne:ms=[]
   ·subst hne;intro w;simp[Instr.findKey,run_underlying hu,Instr.findNow]
   ·exact run h1 hne
  ·refine .inr ⟨j,e,x,h1,h2,h3,?_,h5,h6⟩;simpa using run h4 (by rintro rfl;simp at h1)
theorem y62{t:TypeId}{i:TyI}{k v:Ty}(h:y0m P t i=true)(hi:i.ty=.map k v) :
  ∃ kt et dk,P.underlying t=some (.map kt et)/\Fits P kt k/\Fits P et v/\P.underlying kt=some dk/\KeyD P kt k:=by
 unfold y0m at h;rw[hi]at h;split at h<;>first|(cases h;done)|skip
 all_goals rename_i e1 e2
 all_goals first|(cases e1;done)|skip
 all_goals try (simp at e1;done)
 case _ => 
  cases e1;simp only[and_eq_true]at h;obtain ⟨⟨h1,h2⟩,h3⟩:=h;have chk:∀ {kt:TypeId} {d:TypeDesc} {k:Ty},P.underlying kt=some d->(d=.string\/∃ j,d=.int j)->∀ (w:World) (e:Bool) (x:k.den),(Instr.checkKey e 10000 kt (yc k x)).run P w=.ok () w:=by
   intro kt d k hu hd w e x;show (Instr.checkKey e (9999+1) kt _).run P w=.ok () w
   unfold Instr.checkKey;simp only[Sem.run_bind,run_underlying hu,Result.andThen_ok];rcases hd with rfl|⟨j,rfl⟩<;>rfl
  split at h3
  ·rename_i hu;refine ⟨_,_,_,e2,y0u h1,y0u h2,hu,yFU hu (λ x y hq=>?_) (λ x y=>?_) (chk hu (.inl rfl))⟩
   ·simp only[eqV]at hq;exact eq_of_beq hq
   ·simp only[yc,Ty.wrap,Ty.agg,Ty.flatV,List.headD,Instr.sameNow,eqV,y8K,Bool.false_eq_true,if_false]
  ·rename_i j l hu;have hj:j=l:=by simpa using h3
   subst hj;refine ⟨_,_,_,e2,y0u h1,y0u h2,hu,yFU hu (λ x y hq=>?_) (λ x y=>?_) (chk hu (.inr ⟨_,rfl⟩))⟩
   ·simp only[eqV]at hq;exact eq_of_beq hq
   ·simp only[yc,Ty.wrap,Ty.agg,Ty.flatV,List.headD,Instr.sameNow,eqV,if_true,Bool.false_eq_true,if_false]
  ·rename_i fs hu;simp only[and_eq_true]at h3;exact ⟨_,_,_,e2,y0u h1,y0u h2,hu,yEo hu h3.1 h3.2⟩
  ·cases h3
theorem y1e{b:Nat}{ms:Array MapEntry}{c:Nat}(h:w.heap[b]?=some (.map ms c)):(getObj b).run P w=.ok (.map ms c) w:=by
 simp[getObj,Sem.run,h]
theorem yF1(h:Rel P A0 w0 ρ s a w){sv:SV}{v:Value}{u e:Ty}{es:List (u.den×e.den)}(hs:yE P (Av A0 ρ s.cH) w ρ sv v)(hm:yBX s.cH sv=some ⟨.map u e,es⟩) :
  (v=.map none/\es=[])\/∃ (b:Nat) (ms:Array MapEntry) (c:Nat),v=.map (some b)/\w.heap[b]?=some (.map ms c)/\ms.size=es.length /\
   ∀ (i:Nat) (x:u.den×e.den),es[i]?=some x->∃ (m:MapEntry) (lv:List Value),ms[i]?=some m/\m.key=yc u x.1/\y6 P e (Av A0 ρ s.cH) w x.2 lv/\m.val=e.wrap lv:=by
 unfold yBX at hm;split at hm
 ·cases hm;obtain ⟨l,hl,rfl⟩:=hs;simp only[y6]at hl;rcases hl with ⟨rfl,rfl⟩|⟨b,ms,c,rfl,_,h1,h2,h3⟩
  ·exact .inl ⟨rfl,rfl⟩
  ·exact .inr ⟨b,ms,c,rfl,h1,h2,h3⟩
 ·rename_i β;unfold y5t at hm;split at hm
  ·rename_i hch;cases hm;obtain ⟨b,ms,c,hb,h1,h2,h3⟩:=(h.cH β _ (getD_some hch)).1;simp only[yE]at hs;exact .inr ⟨b,ms,c,by rw[hs,hb],h1,h2,h3⟩
  ·cases hm
 ·cases hm
theorem y3y{A:Nat->Prop}{n:Nat}{k v:Ty}{es:List (k.den×v.den)}{y:k.den}{ok:Bool}{b:Bool}{x:v.den}{lx:List Value}(hx:y6 P v A w x lx)(h1:(yZ k v es y).getD v.dflt=x)(h2:(yZ k v es y).isSome=b)
  (hk:yBM k v es y ok K=some r):∃ sv,yE P A w ρ sv (if ok then .tuple #[v.wrap lx,.bool b]else v.wrap lx)/\sv.inn n/\K sv=some r:=by
 unfold yBM at hk;rw[h1,h2]at hk;cases ok with
 |true =>
  refine ⟨.tup (.pair v (.pair .bool .unit)) (x,b,()),⟨lx++([.bool b]++[]),⟨lx,_,rfl,hx,[.bool b],[],rfl,rfl,rfl⟩,?_⟩,trivial,hk⟩;have e1:(lx++([Value.bool b]++[])).take v.size=lx:=by rw[<- hx.length,List.take_left]
  have e2:(lx++([Value.bool b]++[])).drop v.size=[Value.bool b]++[]:=by rw[<- hx.length,List.drop_left]
  simp only[Ty.group,e1,e2];rfl
 |false=>exact ⟨.val v x,⟨lx,hx,rfl⟩,trivial,hk⟩
omit [GT] in
theorem y4U{k:Ty}(hk:k.keyOk=true)(x y:k.den):y6t k x y=eqV k x y:=by
 cases k<;>first|rfl|cases hk
omit [GT] in
theorem y46{k v:Ty}{y:k.den}:∀ {es:List (k.den×v.den)},yZ k v es y=none->∀ x∈es,eqV k y x.1=false
 |[],_,_,h=>by cases h
 |p::l,h,x,hx=>by
  simp only[yZ]at h;cases hq:eqV k y p.1 with
  |true=>rw[hq]at h;cases h
  |false =>
   rw[hq]at h;rcases mem_cons.1 hx with rfl|hx
   ·exact hq
   ·exact y46 h x hx
theorem y9f{cs:List (Option Chunk)}{sv:SV}{hv:HoleV}(h:y91 cs sv=some hv):∃ β e es,sv=.mO β/\cs[β]?=some (some (.mps hv.k e hv.u es (some (hv.x,hv.γ)))):=by
 unfold y91 at h;split at h
 ·rename_i β;split at h
  ·rename_i hch;cases h;exact ⟨β,_,_,rfl,getD_some hch⟩
  ·cases h
 ·cases h
theorem yDk(hT:yh P g.T)(h:Rel P A0 w0 ρ s a w){t:TypeId}{x ix:Operand}{ok:Bool}(ho:o.op=.lookup t x ix ok)(hk:yY g s o K=some r):Yld P A0 ρ s a w o K r:=by
 simp only[yY,ho]at hk;have hex:execOp a.eval o=(do pure (.value (<- Instr.lookup t (a.eval x) (a.eval ix) ok))):=by simp only[execOp,ho]
 split at hk
 ·rename_i i k v es hi hm;obtain ⟨⟨hty,hkey,hz⟩,hk⟩:=yDY hk;obtain ⟨y,hy,hk⟩:=bind_eq_some_iff.1 hk;obtain ⟨kt,et,dk,h1,h2,h3,h4,h5⟩:=y62 (hT.shape hi) hty;obtain ⟨inf,z,f1,f2,f3,f4,f5⟩:=y19 h3 hz;obtain ⟨ly,hly,hiv⟩:=yw (y5 (T:=g.T) h 0 ix).1 hy;rw[y7t hkey hly]at hiv;have hzero:(zeroValue et).run P w=.ok (v.wrap v.zeroV) w:=by rw[y3x f1 f2,f5]
  have hzc:y6 P v (Av A0 ρ s.cH) w v.dflt v.zeroV:=y3V v hz;rcases yF1 h (y5 (T:=g.T) h t x).1 hm with ⟨hv,rfl⟩|⟨b,ms,c,hv,g1,g2,g3⟩
  ·obtain ⟨sv,q1,q2,q3⟩:=y3y (ρ:=ρ) (n:=s.cH.length) (b:=false) hzc rfl rfl hk;refine Yld.of_run hex ?_ q1 q2 q3;have hf:=h5.nil w y;rw[hv,hiv];unfold Instr.lookup;simp only[Sem.run_bind,run_underlying h1,Result.andThen_ok,Sem.run_pure,h5.check,hf,hzero]
  ·have hkeys:∀ (j:Nat) (e:MapEntry) (p:k.den×v.den),ms.toList[j]?=some e->es[j]?=some p->e.key=yc k p.1:=by
    intro j e p he hp;obtain ⟨m,lv,r1,r2,r3,r4⟩:=g3 j p hp;rw[Array.getElem?_toList,r1]at he;cases he;exact r2
   rcases h5.find y ms.toList es (by simpa using g2) hkeys with ⟨r1,r2,_⟩|⟨j,e,p,r1,r2,r3,r4,r5,_⟩
   ·obtain ⟨sv,q1,q2,q3⟩:=y3y (ρ:=ρ) (n:=s.cH.length) (b:=false) hzc (by rw[r2];rfl) (by rw[r2];rfl) hk
    refine Yld.of_run hex ?_ q1 q2 q3;rw[hv,hiv];unfold Instr.lookup;simp only[Sem.run_bind,run_underlying h1,Result.andThen_ok,Sem.run_pure,y1e g1,h5.check,r1,hzero]
   ·obtain ⟨m,lv,n1,n2,n3,n4⟩:=g3 j p r2;rw[Array.getElem?_toList,n1]at r1;cases r1;obtain ⟨sv,q1,q2,q3⟩:=y3y (ρ:=ρ) (n:=s.cH.length) (b:=true) n3 (by rw[r5];rfl) (by rw[r5];rfl) hk
    refine Yld.of_run hex ?_ q1 q2 q3;rw[hv,hiv];unfold Instr.lookup;simp only[Sem.run_bind,run_underlying h1,Result.andThen_ok,Sem.run_pure,y1e g1,h5.check,r4,n4]
 ·rename_i i hi hm;split at hk
  ·rename_i hv hh;obtain ⟨⟨hok,hty,hkey⟩,hk1⟩:=yDY hk;clear hk;subst hok;obtain ⟨y,hy,hk⟩:=bind_eq_some_iff.1 hk1;cases hq:y6t hv.k hv.x y with
   |false=>rw[hq]at hk;cases hk
   |true =>
   rw[hq]at hk;simp only[cond_true]at hk;obtain ⟨kt,et,dk,h1,h2,h3,h4,h5⟩:=y62 (hT.shape hi) hty;obtain ⟨inf,z,f1,f2,f3,f4,f5⟩:=y19 h3 (by rfl)
   obtain ⟨ly,hly,hiv⟩:=yw (y5 (T:=g.T) h 0 ix).1 hy;rw[y7t (y9c hkey) hly]at hiv;have hzero:(zeroValue et).run P w=.ok (Value.slice none 0 0) w:=by rw[y3x f1 f2,f5];rfl
   obtain ⟨β,e,es,hsv,hc⟩:=y9f hh;have hmv:=(y5 (T:=g.T) h t x).1;rw[hsv]at hmv;obtain ⟨b,ms,c,hb,g1,g2,⟨_,g3⟩,g4⟩:=(h.cH β _ hc).1;simp only[yE]at hmv;rw[hb]at hmv;have hkeys:∀ (j:Nat) (e:MapEntry) (p:hv.k.den×List hv.u.den),ms.toList[j]?=some e->es[j]?=some p->e.key=yc hv.k p.1:=by
    intro j e p he hp;obtain ⟨m,o',r1,_,r2,_⟩:=g4 j p hp;rw[Array.getElem?_toList,r1]at he;cases he;exact r2
   have hxy:hv.x=y:=h5.eqv _ _ (by rw[<- y4U hkey];exact hq)
   have hin:(SV.own hv.γ).inn s.cH.length:=h.cN β _ hc _ rfl;rcases h5.find (v:=.slice hv.u) y ms.toList es (by simpa using g2.1) hkeys with ⟨r1,r2,_⟩|⟨j,e',p,r1,r2,r3,r4,r5,_⟩
   ·refine Yld.of_run (sv:=.own hv.γ) (v:=.slice none 0 0) hex ?_ ?_ hin hk
    ·rw[hmv,hiv];unfold Instr.lookup;simp only[Sem.run_bind,run_underlying h1,Result.andThen_ok,Sem.run_pure,y1e g1,h5.check,r1,hzero];rfl
    ·obtain ⟨e1,e2,e3⟩:=g3 (hv.x,hv.γ) rfl (λ p hp=>by
      have:=y46 r2 p hp;simp only[y70,hxy];rw[y4U hkey];exact this)
     simp only[yE];rw[e1,e2,e3];rfl
   ·obtain ⟨m,o',n1,n2,n3,n4⟩:=g4 j p r2;rw[Array.getElem?_toList,n1]at r1;cases r1;have hhole:y70 hv.k (some (hv.x,hv.γ)) p.1=true:=by
     simp only[y70,r3];exact hq
    rcases n4 with ⟨q,hq1,_,_,n5⟩|⟨n5,_⟩
    ·cases hq1;refine Yld.of_run (sv:=.own hv.γ) (v:=e'.val) hex ?_ n5 hin hk;rw[hmv,hiv];unfold Instr.lookup;simp only[Sem.run_bind,run_underlying h1,Result.andThen_ok,Sem.run_pure,y1e g1,h5.check,r4];rfl
    ·rw[hhole]at n5;cases n5
  ·cases hk
 ·cases hk
theorem y9g(h:Rel P A0 w0 ρ s a w){args:Array Operand}{ts:Array TypeId}(ho:o.op=.call { callee:=.builtin .unsafeSliceData,args,argTypes:=ts })(hk:yY g s o K=some r):Yld P A0 ρ s a w o K r:=by
 simp only[yY,ho]at hk;split at hk
 ·rename_i x hxs;have hx:=y5 (T:=g.T) h 0 x;have e1:args.map a.eval=#[a.eval x]:=by apply Array.toList_inj.1;simp[hxs]
  unfold y9q at hk;split at hk
  ·rename_i β he;rw[he]at hx;split at hk
   ·rename_i e xs nn hch;obtain ⟨hlen,_,h3⟩:=(h.cH β _ (getD_some hch)).1;cases hd:decide (0 < List.length xs)with
    |false=>rw[hd]at hk;cases hk
    |true =>
    rw[hd]at hk;simp only[cond_true]at hk;have hd:=of_decide_eq_true hd;rcases h3 with ⟨_,h4,_⟩|⟨b,vs,hb,h4,h5,h6,h7,h8⟩
    ·omega
    ·have hv:a.eval x=.slice (some ⟨b,0,none⟩) (ρ β).len (ρ β).cap:=by
      have:=hx.1;simp only[yE,hb]at this;exact this
     refine Yld.here (sv:=.eP β 0 1 0) (v:=.pointer (some ⟨b,0,none⟩)) ?_ ⟨b,hb,rfl⟩ hx.2 hk;rw[y0v ho,e1,hv];have hc:(ρ β).cap≠0:=by omega
     have hr:(Builtin.unsafeSliceData_ ts o.type #[.slice (some ⟨b,0,none⟩) (ρ β).len (ρ β).cap]).run P w=.ok (.pointer (some ⟨b,0,none⟩)) w:=by
      have hdef:Builtin.unsafeSliceData_ ts o.type #[.slice (some ⟨b,0,none⟩) (ρ β).len (ρ β).cap]=(if (ρ β).cap≠0 then pure (.pointer (some ⟨b,0,none⟩))else do
       if (<- viewAt b).isSome then pure (.pointer (some ⟨b,0,none⟩))else pure (.pointer (some ⟨<- newObj (.view ⟨b,0,none⟩ (<- elemOf o.type)),0,none⟩))):=rfl
      rw[hdef,if_pos hc];rfl
     simp only[builtin,Sem.run_bind,hr,Result.andThen_ok,Sem.run_pure]
   ·cases hk
  ·cases hk
 ·cases hk
theorem y5m(hE:∀ e∈g.E,FnOK P e)(hT:yh P g.T)(h:Rel P A0 w0 ρ s a w)(hk:yY g s o K=some r):Yld P A0 ρ s a w o K r:=by
 cases ho:o.op with
 |move x=>exact yII (g:=g) h (.inl ho) (by simpa only[yY,ho]using hk)
 |assign x=>exact yCq (g:=g) h ho (by simpa only[yY,ho]using hk)
 |pick c x y=>exact yHW h ho hk
 |load t x=>exact yI7 hT h ho hk
 |binOp op t x y yt=>exact yF4 hT h ho hk
 |unOp op t x=>exact yHL h ho hk
 |convert sr d x=>exact yCY hT h ho hk
 |field t x f=>exact yFS hT h ho hk
 |fieldAddr t x f=>exact y8w hT h ho hk
 |indexAddr t x ix=>exact y8U hT h ho hk
 |index t x ix=>exact yFR hT h ho hk
 |lookup t x ix ok=>exact yDk hT h ho hk
 |extract x n=>exact yBo h ho hk
 |box e x=>exact yL3 h ho hk
 |build t ps=>exact yFQ hE hT h ho hk
 |buildSlice t n ps=>exact y7a hE hT h ho hk
 |makeFunc fn first caps=>exact yAA hE h ho hk
 |slice t x lo hi mx=>exact yBl hT h ho hk
 |nilCheck x=>exact yA5 h ho hk
 |call c =>
  obtain ⟨callee,args,ts⟩:=c;cases callee with
  |builtin b =>
   cases b with
   |len=>exact yKS hT h ho hk
   |max=>exact yJW h ho hk
   |min=>exact yKw h ho hk
   |complex=>exact yHN h ho hk
   |real=>exact yH1 h ho hk
   |imag=>exact yIF h ho hk
   |unsafeSliceData=>exact y9g h ho hk
   |_=>simp[yY,ho]at hk
  |_=>simp[yY,ho]at hk
 |_=>simp[yY,ho]at hk
end
end Go.Vx
end
section
namespace Go.Vx
open Go.RowKit
variable [GT]
section
variable {P:Program} {A0:Nat->Prop} {w0:Base} {ρ:Places} {s:St} {a:Act} {w w':World} {g:G}
theorem yy{cs:List (Option Chunk)}{β γ:Nat}{f:SV->SV}{ch':Chunk}(h:((cs.set β none).map (Option.map (Chunk.map f)))[γ]?=some (some ch')) :
  γ≠β/\∃ ch,cs[γ]?=some (some ch)/\ch'=ch.map f:=by
 rw[getElem?_map,map_eq_some_iff]at h;obtain ⟨o,h1,h2⟩:=h;rw[map_eq_some_iff]at h2;obtain ⟨ch,rfl,rfl⟩:=h2;by_cases hb:β=γ
 ·subst hb;rw[List.getElem?_set]at h1;simp at h1
 ·rw[getElem?_set_ne hb]at h1;exact ⟨λ e=>hb e.symm,ch,h1,rfl⟩
theorem y0r{β:Nat}{f:SV->SV}{n:Nat}(h:Av A0 ρ ((s.cH.set β none).map (Option.map (Chunk.map f))) n):Av A0 ρ s.cH n:=by
 rcases h with (h|⟨γ,c,hc,hb⟩)|⟨γ,c,hc,hb⟩
 ·exact .inl (.inl h)
 ·obtain ⟨_,ch,h1,_⟩:=yy hc;exact .inl (.inr ⟨γ,ch,h1,hb⟩)
 ·obtain ⟨_,ch,h1,_⟩:=yy hc;exact .inr ⟨γ,ch,h1,hb⟩
theorem Rel.free(h:Rel P A0 w0 ρ s a w){β:Nat}{ch:Chunk}(hc:s.cH[β]?=some (some ch)){f:SV->SV}{b:Nat}(hb:(ρ β).blk=some b):¬ Av A0 ρ ((s.cH.set β none).map (Option.map (Chunk.map f))) b:=by
 rintro ((h0|⟨γ,c,hg,hbg⟩)|⟨γ,c,hg,hbg⟩)
 ·have:=h.dom b h0;have:=(h.cH β ch hc).2 b hb;omega
 ·obtain ⟨_,c',h1,_⟩:=yy hg;exact h.subs.apart γ β c' ch b h1 hc hbg hb
 ·obtain ⟨hne,c',h1,_⟩:=yy hg;exact hne (h.inj γ β c' ch h1 hc (hbg.trans hb.symm) (by rw[hbg];simp))
theorem Rel.freeS(h:Rel P A0 w0 ρ s a w){β:Nat}{ch:Chunk}(hc:s.cH[β]?=some (some ch)){f:SV->SV}{b:Nat}(hb:some b∈(ρ β).subs):¬ Av A0 ρ ((s.cH.set β none).map (Option.map (Chunk.map f))) b:=by
 rintro ((h0|⟨γ,c,hg,hbg⟩)|⟨γ,c,hg,hbg⟩)
 ·have:=h.dom b h0;have:=h.subs.base β ch b hc hb;omega
 ·obtain ⟨hne,c',h1,_⟩:=yy hg;exact hne (h.subs.one γ β c' ch b h1 hc hbg hb)
 ·obtain ⟨_,c',h1,_⟩:=yy hg;exact h.subs.apart β γ ch c' b hc h1 hb hbg
theorem Rel.sub(h:Rel P A0 w0 ρ s a w)(β:Nat)(f:SV->SV)
  (hf:∀ sv v,sv.inn s.cH.length->yE P (Av A0 ρ s.cH) w ρ sv v->yE P (Av A0 ρ ((s.cH.set β none).map (Option.map (Chunk.map f)))) w ρ (f sv) v)
  (hn:∀ sv,sv.inn s.cH.length->(f sv).inn s.cH.length):Rel P A0 w0 ρ (s.sub β f) a w:=by
 have hlen:((s.cH.set β none).map (Option.map (Chunk.map f))).length=s.cH.length:=by simp
 have hsl:(s.sub β f).slots=s.slots.map f:=Slots.toList_map _ _;refine ⟨by rw[hsl,length_map];exact h.size,λ i sv hi=>?_,λ γ c hg=>?_,λ γ δ c d hg hd hbg hne=>?_,λ i sv hi=>?_,λ γ c hg=>?_,h.below,h.dom,h.defers,h.dep,(λ γ c q hg hq=>?_),h.round,h.glob,by simpa[St.sub]using h.kZ,λ i sv hi=>?_,λ i sv hi=>?_,h.subs.sub λ γ c hg=>by obtain ⟨_,ch,h1,rfl⟩:=yy hg;exact ⟨ch,h1,by cases ch<;>exact id⟩⟩
 ·rw[hsl]at hi;simp only[getElem?_map,map_eq_some_iff]at hi;obtain ⟨sv',h1,rfl⟩:=hi;exact hf _ _ (h.names i sv' h1) (h.slots i sv' h1)
 ·obtain ⟨_,ch,h1,rfl⟩:=yy hg;refine ⟨?_,(h.cH γ ch h1).2⟩;have hr:=(h.cH γ ch h1).1;have hi:=h.cN γ ch h1;cases ch with
  |box t cells =>
   obtain ⟨b,vs,e,hb,h2,h3,h4⟩:=hr;refine ⟨b,vs,e,hb,h2,by simpa[Chunk.map]using h3,λ i sv hs=>?_⟩
   simp only[getElem?_map,map_eq_some_iff]at hs;obtain ⟨sv',h5,rfl⟩:=hs;obtain ⟨v,h6,h7⟩:=h4 i sv' h5;exact ⟨v,h6,hf _ _ (hi sv' (mem_of_getElem? h5)) h7⟩
  |lp i info cells st =>
   obtain ⟨b,r,hb,h2,h3,h4,h5⟩:=hr;refine ⟨b,r,hb,h2,h3,by simpa using h4,λ i sv hs=>?_⟩
   simp only[getElem?_map,map_eq_some_iff]at hs;obtain ⟨sv',h6,rfl⟩:=hs;obtain ⟨v,h7,h8⟩:=h5 i sv' h6;exact ⟨v,h7,hf _ _ (hi sv' (mem_of_getElem? h6)) h8⟩
  |arr e t xs nn=>exact hr.keep (λ _ _=>rfl) (λ n _ hn=>y0r hn)
  |mp k v es=>exact hr.keep (λ _ _=>rfl) (λ n _ hn=>y0r hn)
  |it bs q=>exact hr.keep (λ _ _=>rfl) (λ n _ hn=>y0r hn)
  |mps k e u es hole=>exact hr.keep (λ _ _=>rfl) (λ n _ hn=>y0r hn)
  |nst e t o e' u xs=>exact hr.keep (λ _ _=>rfl) (λ n _ hn=>y0r hn)
  |rcd t cells =>
   obtain ⟨h2,h3,h4,h5⟩:=hr;refine ⟨h2,by rw[length_map];exact h3,by simpa using h4,λ i sv hs=>?_⟩
   simp only[getElem?_map,map_eq_some_iff]at hs;obtain ⟨sv',h6,rfl⟩:=hs;obtain ⟨v,h7,h8⟩:=h5 i sv' h6;exact ⟨v,h7,hf _ _ (hi sv' (mem_of_getElem? h6)) h8⟩
 ·obtain ⟨_,c1,h1,_⟩:=yy hg;obtain ⟨_,c2,h2,_⟩:=yy hd;exact h.inj γ δ c1 c2 h1 h2 hbg hne
 ·rw[hsl]at hi;simp only[getElem?_map,map_eq_some_iff]at hi;obtain ⟨sv',h1,rfl⟩:=hi;show (f sv').inn ((s.cH.set β none).map (Option.map (Chunk.map f))).length
  rw[hlen];exact hn _ (h.names i sv' h1)
 ·obtain ⟨_,ch,h1,rfl⟩:=yy hg;show (ch.map f).inn ((s.cH.set β none).map (Option.map (Chunk.map f))).length
  rw[hlen];have hi:=h.cN γ ch h1;cases ch with
  |box t cells =>
   intro sv hs;obtain ⟨sv',h2,rfl⟩:=mem_map.1 hs;exact hn _ (hi sv' h2)
  |lp i info cells st =>
   intro sv hs;obtain ⟨sv',h2,rfl⟩:=mem_map.1 hs;exact hn _ (hi sv' h2)
  |arr e t xs nn=>trivial
  |mp k v es=>trivial
  |it bs q=>trivial
  |mps k e u es hole=>exact hi
  |nst e t o e' u xs=>trivial
  |rcd t cells =>
   intro sv hs;obtain ⟨sv',h2,rfl⟩:=mem_map.1 hs;exact hn _ (hi sv' h2)
 ·obtain ⟨_,ch,h1,rfl⟩:=yy hg;exact h.lpi γ ch q h1 (by cases ch<;>exact hq)
 ·simp only[St.sub,getElem?_map,map_eq_some_iff]at hi;obtain ⟨sv',h1,rfl⟩:=hi;exact hf _ _ (h.kN i sv' h1) (h.kS i sv' h1)
 ·simp only[St.sub,getElem?_map,map_eq_some_iff]at hi;obtain ⟨sv',h1,rfl⟩:=hi;show (f sv').inn ((s.cH.set β none).map (Option.map (Chunk.map f))).length
  rw[hlen];exact hn _ (h.kN i sv' h1)
theorem yd.sub{A A':Nat->Prop}{β:Nat}{t:Ty}{x:t.den}(hA:∀ n,n < w.heap.size->A' n->A n)(hx:∀ b,(ρ β).blk=some b->yE P A' w ρ (.val (.ref t) x) (.pointer (some ⟨b,0,none⟩))) :
  ∀ {cs:List Cap} {vs:List Value},yd P A w ρ cs vs->yd P A' w ρ (cs.map (yDw β t x)) vs
 |[],[],_=>trivial
 |[],_::_,h=>h
 |_::_,[],h=>h
 |.box γ::cs,v::vs,h=>by
  refine ⟨?_,yd.sub hA hx h.2⟩;have h1:=h.1;simp only[yDw];split
  ·rename_i e;subst e;obtain ⟨b,hb,rfl⟩:=h1;exact hx b hb
  ·exact h1
 |.val u y::cs,v::vs,h=>by
  refine ⟨?_,yd.sub hA hx h.2⟩;obtain ⟨l,hl,e⟩:=h.1;exact ⟨l,hl.mono (λ _ _ _=>rfl) hA,e⟩
theorem y0L.sub{β:Nat}{u:Ty}{x:u.den}{n:Nat}:∀ {cs:List Cap},y0L n cs->y0L n (cs.map (yDw β u x))
 |[],_=>trivial
 |.box γ::cs,h=>by
  simp only[map_cons,yDw];split
  ·exact y0L.sub h.2
  ·exact ⟨h.1,y0L.sub h.2⟩
 |.val _ _::cs,h=>y0L.sub (cs:=cs) h
theorem y0z.arr{A:Nat->Prop}{e:TypeId}{u:Ty}{xs:List u.den}{o:Option Nat}{v:Value}(h:y0z P A w e u xs o v):∃ cap,v=.slice (o.map λ b=>⟨b,0,none⟩) xs.length cap/\yC P A w ρ ⟨o,xs.length,cap,[],[],[]⟩ (.arr e u xs false):=by
 obtain ⟨cap,h1,h2⟩:=h;exact ⟨cap,h1,rfl,(λ h=>by cases h),h2⟩
theorem y0z.of_arr{A:Nat->Prop}{p:Place}{e:TypeId}{u:Ty}{xs:List u.den}{nn:Bool}(h:yC P A w ρ p (.arr e u xs nn)):y0z P A w e u xs p.blk (.slice (p.blk.map λ b=>⟨b,0,none⟩) p.len p.cap):=by
 obtain ⟨h1,_,h2⟩:=h;refine ⟨p.cap,by rw[h1],?_⟩
 rcases h2 with ⟨h2,h3,h4⟩|⟨b,vs,h2,h3,h4,h5,h6,h7⟩
 ·exact .inl ⟨h2,by omega,h4⟩
 ·exact .inr ⟨b,vs,h2,h3,by omega,h5,h6,h7⟩
theorem yL6{A A':Nat->Prop}{p:Place}{k u:Ty}{e:TypeId}{es:List (k.den×List u.den)}(h:yC P A w ρ p (.mps k e u es none))(hA:∀ n,n < w.heap.size->A' n->A n)(hb:∀ b,p.blk=some b->¬ A' b)(hs:∀ b,some b∈p.subs->¬ A' b) :
  ∃ b,p.blk=some b/\y6 P (.map k (.slice u)) A' w es [.map (some b)]:=by
 obtain ⟨b,ms,c,h1,h2,h3,_,h4⟩:=h;refine ⟨b,h1,.inr ⟨b,ms,c,rfl,hb b h1,h2,h3.1,λ i x hi=>?_⟩⟩
 obtain ⟨en,o,h5,h6,h7,h8⟩:=h4 i x hi;rcases h8 with ⟨q,hq,_⟩|⟨_,h8⟩
 ·cases hq
 ·obtain ⟨cap,h9,h10⟩:=y0z.arr (ρ:=ρ) h8;exact ⟨en,_,h5,h7,(y68 h10 hA (λ b hb=>hs b (hb ▸ mem_of_getElem? h6))).2.2,h9⟩
theorem Rel.freeze(h:Rel P A0 w0 ρ s a w)(β:Nat):Rel P A0 w0 ρ (s.freeze β) a w:=by
 unfold St.freeze;split
 ·rename_i e t xs nn hch;have hc:=getD_some hch;obtain ⟨h1,h2,h3⟩:=y68 (A':=Av A0 ρ ((s.cH.set β none).map (Option.map (Chunk.map (y1k β (if nn then .val (.nS t) (some xs)else .val (.slice t) xs)))))) (h.cH β _ hc).1 (λ n _ hn=>y0r hn) (λ b hb=>h.free hc hb)
  have hval:yE P (Av A0 ρ ((s.cH.set β none).map (Option.map (Chunk.map (y1k β (if nn then .val (.nS t) (some xs)else .val (.slice t) xs)))))) w ρ (if nn then .val (.nS t) (some xs)else .val (.slice t) xs) (.slice ((ρ β).blk.map λ b=>⟨b,0,none⟩) (ρ β).len (ρ β).cap):=by
   cases nn with
   |true=>exact ⟨_,h2 rfl,rfl⟩
   |false=>exact ⟨_,h1 rfl,rfl⟩
  have hin:(if nn then SV.val (.nS t) (some xs)else .val (.slice t) xs).inn s.cH.length:=by cases nn<;>trivial
  clear h1 h2 h3;generalize (if nn then SV.val (.nS t) (some xs)else .val (.slice t) xs)=V at *
  refine h.sub β _ (λ sv v hi hs=>?_) (λ sv hi=>?_)
  ·cases sv with
   |own γ =>
    simp only[y1k];split
    ·rename_i e';subst e';simp only[yE]at hs;subst hs;exact hval
    ·exact hs
   |_=>exact hs.mono (λ _ _ _=>rfl) (λ n _ hn=>y0r hn)
  ·cases sv with
   |own γ =>
    simp only[y1k];split
    ·exact hin
    ·exact hi
   |_=>exact hi
 ·rename_i t cells hch;split
  ·rename_i x hx;have hc:=getD_some hch;have hval:∀ b,(ρ β).blk=some b->yE P (Av A0 ρ ((s.cH.set β none).map (Option.map (Chunk.map (yGS β t x))))) w ρ (.val (.ref t) x) (.pointer (some ⟨b,0,none⟩)):=by
    intro b hb;obtain ⟨b',vs,hb',h1,h2⟩:=yG5 (h.cH β _ hc).1;rw[hb]at hb';cases hb';have h3:=y1Z _ _ _ _ h2 hx;obtain ⟨b'',vs',e,hb'',h4,_⟩:=(h.cH β _ hc).1;rw[hb]at hb'';cases hb'';exact yD9 (h.free hc hb) (yM h4) h1 (h3.mono (λ _ _ _=>rfl) (λ n _ hn=>y0r hn))
   refine h.sub β _ (λ sv v hi hs=>?_) (λ sv hi=>?_)
   ·cases sv with
    |bP γ off =>
     simp only[yGS];split
     ·rename_i e;subst e;split
      ·rename_i e0;subst e0;obtain ⟨b,hb,rfl⟩:=hs;exact hval b hb
      ·trivial
     ·exact hs
    |clo f caps =>
     obtain ⟨vs,h1,h2⟩:=hs;exact ⟨vs,h1,yd.sub (λ n _ hn=>y0r hn) hval h2⟩
    |_=>exact hs.mono (λ _ _ _=>rfl) (λ n _ hn=>y0r hn)
   ·cases sv with
    |bP γ off =>
     simp only[yGS];split
     ·split<;>trivial
     ·exact hi
    |clo f caps=>exact y0L.sub hi
    |_=>exact hi
  ·exact h
 ·rename_i k u es hch;have hc:=getD_some hch;obtain ⟨b,hb,hm⟩:=yD0 (A':=Av A0 ρ ((s.cH.set β none).map (Option.map (Chunk.map (y7A β (.val (.map k u) es)))))) (h.cH β _ hc).1 (λ n _ hn=>y0r hn) (λ b hb=>h.free hc hb)
  refine h.sub β _ (λ sv v hi hs=>?_) (λ sv hi=>?_)
  ·cases sv with
   |mO γ =>
    simp only[y7A];split
    ·rename_i e';subst e';simp only[yE]at hs;subst hs;exact ⟨_,hm,by rw[hb];rfl⟩
    ·exact hs
   |_=>exact hs.mono (λ _ _ _=>rfl) (λ n _ hn=>y0r hn)
  ·cases sv with
   |mO γ =>
    simp only[y7A];split
    ·trivial
    ·exact hi
   |_=>exact hi
 ·rename_i k e u es hch;have hc:=getD_some hch;obtain ⟨b,hb,hm⟩:=yL6 (A':=Av A0 ρ ((s.cH.set β none).map (Option.map (Chunk.map (y7A β (.val (.map k (.slice u)) es)))))) (h.cH β _ hc).1 (λ n _ hn=>y0r hn) (λ b hb=>h.free hc hb) (λ b hb=>h.freeS hc hb)
  refine h.sub β _ (λ sv v hi hs=>?_) (λ sv hi=>?_)
  ·cases sv with
   |mO γ =>
    simp only[y7A];split
    ·rename_i e';subst e';simp only[yE]at hs;subst hs;exact ⟨_,hm,by rw[hb];rfl⟩
    ·exact hs
   |_=>exact hs.mono (λ _ _ _=>rfl) (λ n _ hn=>y0r hn)
  ·cases sv with
   |mO γ =>
    simp only[y7A];split
    ·trivial
    ·exact hi
   |_=>exact hi
 ·rename_i e t o e' u xs hch;have hc:=getD_some hch;have hst:=(h.cH β _ hc).1;have hA:∀ n,n < w.heap.size->Av A0 ρ ((s.cH.set β none).map (Option.map (Chunk.map (y9C β t o u xs)))) n->Av A0 ρ s.cH n:=λ n _ hn=>y0r hn
  have hm:=nst_cells (A':=Av A0 ρ ((s.cH.set β none).map (Option.map (Chunk.map (y9C β t o u xs))))) hst hA (λ b hb=>h.free hc hb) (λ b hb=>h.freeS hc hb)
  refine h.sub β _ (λ sv v hi hs=>?_) (λ sv hi=>?_)
  ·cases sv with
   |own γ =>
    simp only[y9C];split
    ·rename_i e';subst e';simp only[yE]at hs;subst hs;exact ⟨_,hm,rfl⟩
    ·exact hs
   |nO γ i =>
    simp only[y9C];split
    ·rename_i e2;subst e2;obtain ⟨q,hq,rfl⟩:=hs;split
     ·rename_i ys hys;obtain ⟨x,hx,hys⟩:=bind_eq_some_iff.1 hys;obtain ⟨b,q2,l,hb,h0,h6,h7⟩:=y6T hst hx;rw[hq]at h0;cases h0;obtain ⟨ys',hys',_,_,h8,h9⟩:=h7.comp;rw[hys]at hys';cases hys';refine ⟨_,h9.cells h8 hA (λ b hb=>h.freeS hc ?_),rfl⟩
      rw[hst.1.2.1,<- hb];exact mem_map.2 ⟨q,mem_of_getElem? hq,rfl⟩
     ·trivial
    ·exact hs
   |_=>exact hs.mono (λ _ _ _=>rfl) (λ n _ hn=>y0r hn)
  ·cases sv with
   |own γ =>
    simp only[y9C];split
    ·trivial
    ·exact hi
   |nO γ i =>
    simp only[y9C];split
    ·split<;>trivial
    ·exact hi
   |_=>exact hi
 ·rename_i t cells hch;split
  ·rename_i x hx;have hc:=getD_some hch;obtain ⟨_,hag,h2,h3⟩:=(h.cH β _ hc).1;have h4:=y1Z _ _ _ _ (show yD P (Av A0 ρ s.cH) w ρ cells (ρ β).vals from ⟨h2,h3⟩) hx
   rcases hag with ⟨hag,hln⟩|⟨rfl,_,h22⟩
   rotate_left
   ·exfalso
    have:=h4.length;rw[h2]at this;simp only[Ty.size]at this;omega
   refine h.sub β _ (λ sv v hi hs=>?_) (λ sv hi=>?_)
   ·cases sv with
    |sR γ =>
     simp only[yJp];split
     ·rename_i e';subst e';simp only[yE]at hs;subst hs;exact ⟨_,h4.mono (λ _ _ _=>rfl) (λ n _ hn=>y0r hn),by simp[Ty.wrap,hag,recV,hln]⟩
     ·exact hs
    |_=>exact hs.mono (λ _ _ _=>rfl) (λ n _ hn=>y0r hn)
   ·cases sv with
    |sR γ =>
     simp only[yJp];split
     ·trivial
     ·exact hi
    |_=>exact hi
  ·exact h
 ·exact h
theorem Rel.freezeCaps:∀ (cs:List Cap) {s:St},Rel P A0 w0 ρ s a w->Rel P A0 w0 ρ (Vx.freezeCaps cs s) a w
 |[],_,h=>h
 |.box β::cs,_,h=>Rel.freezeCaps cs (h.freeze β)
 |.val _ _::cs,_,h=>Rel.freezeCaps cs h
theorem Rel.settle1(h:Rel P A0 w0 ρ s a w)(sv:SV):Rel P A0 w0 ρ (s.settle1 sv) a w:=by
 unfold St.settle1;split
 ·exact h.freeze _
 ·exact h.freeze _
 ·exact h.freezeCaps _
 ·exact h
theorem Rel.settleCells1:∀ (l:List SV) {s:St},Rel P A0 w0 ρ s a w->Rel P A0 w0 ρ (Vx.settleCells1 l s) a w
 |[],_,h=>h
 |sv::l,_,h=>Rel.settleCells1 l (h.settle1 sv)
theorem Rel.settle(h:Rel P A0 w0 ρ s a w)(sv:SV):Rel P A0 w0 ρ (s.settle sv) a w:=by
 unfold St.settle;split
 ·split
  ·exact (Rel.settleCells1 _ h).freeze _
  ·exact h.freeze _
 ·exact h.freeze _
 ·exact h.settle1 _
theorem Rel.settleAll:∀ (xs:List Operand) {s:St},Rel P A0 w0 ρ s a w->Rel P A0 w0 ρ (Vx.settleAll xs s) a w
 |[],_,h=>h
 |.tmp t::l,_,h=>Rel.settleAll l (h.settle _)
 |.const _::l,_,h=>Rel.settleAll l h
 |.global _::l,_,h=>Rel.settleAll l h
 |.func _::l,_,h=>Rel.settleAll l h
structure Weak (P:Program) (A0:Nat->Prop) (w:World) (ρ ρ':Places) (s s':St):Prop where
 len:s'.slots.length=s.slots.length
 slots:∀ (i:Nat) (sv sv':SV) (v:Value),s.slots[i]?=some sv->s'.slots[i]?=some sv'->yE P (Av A0 ρ s.cH) w ρ sv v->yE P (Av A0 ρ' s'.cH) w ρ' sv' v
 cH:∀ (β:Nat) (ch':Chunk),s'.cH[β]?=some (some ch')->∃ γ ch,s.cH[γ]?=some (some ch)/\ρ' β=ρ γ/\(yC P (Av A0 ρ s.cH) w ρ (ρ γ) ch->yC P (Av A0 ρ' s'.cH) w ρ' (ρ γ) ch')/\ch'.isM=ch.isM
 inj:∀ (β δ:Nat) (c d:Chunk),s'.cH[β]?=some (some c)->s'.cH[δ]?=some (some d)->(ρ' β).blk=(ρ' δ).blk->(ρ' β).blk≠none->β=δ
 names:∀ (i:Nat) (sv:SV),s'.slots[i]?=some sv->sv.inn s'.cH.length
 cN:∀ (β:Nat) (ch:Chunk),s'.cH[β]?=some (some ch)->ch.inn s'.cH.length
 klen:s'.kept.length=s.kept.length
 kS:∀ (i:Nat) (sv sv':SV) (v:Value),s.kept[i]?=some sv->s'.kept[i]?=some sv'->yE P (Av A0 ρ s.cH) w ρ sv v->yE P (Av A0 ρ' s'.cH) w ρ' sv' v
 kN:∀ (i:Nat) (sv:SV),s'.kept[i]?=some sv->sv.inn s'.cH.length
 dep:s'.dep=s.dep
 nmk:s'.nmk=0->s.nmk=0
 rnd:s'.rnd=s.rnd
theorem Rel.weak(h:Rel P A0 w0 ρ s a w){ρ':Places}{s':St}(hw:Weak P A0 w ρ ρ' s s')(hl:∀ (β:Nat) (ch:Chunk) (q:Nat×LpInfo),s'.cH[β]?=some (some ch)->ch.lpNo=some q->w0.infos[q.1]?=some q.2):Rel P A0 w0 ρ' s' a w:=by
 refine ⟨hw.len.trans h.size,λ i sv' hi=>?_,λ β ch' hb=>?_,hw.inj,hw.names,hw.cN,h.below,h.dom,(let ⟨ms,⟨q1,q2,q3⟩,q4⟩:=h.defers;⟨ms,⟨q1,λ h0=>q2 (hw.nmk h0),q3⟩,q4⟩),⟨hw.dep.trans h.dep.1,hw.rnd.trans h.dep.2⟩,hl,h.round,h.glob,hw.klen.trans h.kZ,λ i sv' hi=>?_,hw.kN,⟨λ β c hb hm=>?_,λ β c n hb hn=>?_,λ β γ c d n hb hg hn=>?_,λ β γ c d n hb hg hn hm=>?_⟩⟩
 ·have hlt:i < s.slots.length:=hw.len ▸ (List.getElem?_eq_some_iff.1 hi).1;exact hw.slots i _ sv' _ (getElem?_eq_getElem hlt) hi (h.slots i _ (getElem?_eq_getElem hlt))
 ·obtain ⟨γ,ch,h1,h2,h3,_⟩:=hw.cH β ch' hb;rw[h2];exact ⟨h3 (h.cH γ ch h1).1,(h.cH γ ch h1).2⟩
 ·have hlt:i < s.kept.length:=hw.klen ▸ (List.getElem?_eq_some_iff.1 hi).1;exact hw.kS i _ sv' _ (getElem?_eq_getElem hlt) hi (h.kS i _ (getElem?_eq_getElem hlt))
 ·obtain ⟨γ,ch,h1,h2,_,h4⟩:=hw.cH β c hb;rw[h2];exact h.subs.plain γ ch h1 (h4 ▸ hm)
 ·obtain ⟨γ,ch,h1,h2,_,h4⟩:=hw.cH β c hb;rw[h2]at hn;exact h.subs.base γ ch n h1 hn
 ·obtain ⟨β',ch,h1,h2,_,h4⟩:=hw.cH β c hb;obtain ⟨γ',dh,h5,h6,_,h7⟩:=hw.cH γ d hg;rw[h2]at hn;rw[h6];exact h.subs.apart β' γ' ch dh n h1 h5 hn
 ·obtain ⟨β',ch,h1,h2,_,h4⟩:=hw.cH β c hb;obtain ⟨γ',dh,h5,h6,_,h7⟩:=hw.cH γ d hg;have hn':=hn;rw[h2]at hn';rw[h6]at hm;have he:=h.subs.one β' γ' ch dh n h1 h5 hn' hm;subst he;refine hw.inj β γ c d hb hg (by rw[h2,h6]) ?_
  rw[h2];cases hq:ch.isM with
  |false=>rw[h.subs.plain β' ch h1 hq]at hn';cases hn'
  |true =>
   cases ch with
   |mps k e u es hole =>
    obtain ⟨b,ms,c,hb',_⟩:=(h.cH β' _ h1).1;rw[hb'];simp
   |nst e t o e' u xs =>
    obtain ⟨⟨a1,a2,a3⟩,_,⟨_,a4,_⟩|⟨b,_,hb',_⟩⟩:=(h.cH β' _ h1).1
    ·have:(ρ β').ns=[]:=List.eq_nil_of_length_eq_zero (by omega)
     rw[a2,this]at hn';cases hn'
    ·rw[hb'];simp
   |_=>cases hq
end
end Go.Vx
end
section
namespace Go.Vx
open Go.RowKit
variable [GT]
section
variable {P:Program} {A0:Nat->Prop} {w0:Base} {ρ:Places} {s:St} {a:Act} {w w':World} {g:G}
theorem yG{α:Type}{c:Prop}[Decidable c]{x:Option α}{y:α}(h:(if c then x else none)=some y):c/\x=some y:=by
 split at h
 ·exact ⟨‹_›,h⟩
 ·cases h
theorem y2O{α β γ:Type}{o:Option α}{p:Option β}{f:α->β->γ}{y:γ}(h:(o.bind λ a=>p.map λ b=>f a b)=some y):∃ a b,o=some a/\p=some b/\f a b=y:=by
 cases o with
 |none=>cases h
 |some a=>cases p with
  |none=>cases h
  |some b=>exact ⟨a,b,rfl,rfl,Option.some.inj h⟩
theorem yx{l:List Nat}{β:Nat}(h:l.contains β=true):y0R l β < l.length/\l.getD (y0R l β) 0=β:=by
 have hm:β∈l:=by simpa using h
 have hlt:l.idxOf β < l.length:=List.idxOf_lt_length_of_mem hm;refine ⟨hlt,?_⟩;unfold y0R;rw[List.getD_eq_getElem?_getD,getElem?_eq_getElem hlt];simp
def y42(ρ:Places)(l:List Nat):Places:=λ i=>ρ (l.getD i 0)
theorem y05{l:List Nat}{β:Nat}(h:l.contains β=true):y42 ρ l (y0R l β)=ρ β:=by
 unfold y42;rw[(yx h).2]
theorem y4C{A A':Nat->Prop}{l:List Nat}(hA:∀ n,n < w.heap.size->A' n->A n):∀ {cs ds:List Cap} {vs:List Value},y1Y l cs=some ds->yd P A w ρ cs vs->yd P A' w (y42 ρ l) ds vs/\y0L l.length ds
 |[],ds,vs,h,hr=>by
  simp[y1Y]at h;subst h;cases vs with
  |nil=>exact ⟨trivial,trivial⟩
  |cons v vs=>exact hr.elim
 |c::cs,ds,vs,h,hr=>by
  simp only[y1Y,bind_eq_some_iff,map_eq_some_iff]at h;obtain ⟨d,hd,ds',hds,rfl⟩:=h;cases vs with
  |nil=>exact hr.elim
  |cons v vs =>
   obtain ⟨h1,h2⟩:=y4C hA hds hr.2;have h0:=hr.1;cases c with
   |box β =>
    simp only[Cap.rename]at hd;split at hd
    ·rename_i hc;cases hd;refine ⟨⟨?_,h1⟩,(yx hc).1,h2⟩;simp only[yE1,y05 hc];exact h0
    ·cases hd
   |val t x =>
    simp only[Cap.rename,Option.some.injEq]at hd;subst hd;obtain ⟨m,hm,e⟩:=h0;exact ⟨⟨⟨m,hm.mono (λ _ _ _=>rfl) hA,e⟩,h1⟩,h2⟩
theorem y2K{A A':Nat->Prop}{l:List Nat}(hA:∀ n,n < w.heap.size->A' n->A n){sv:SV}{v:Value}(h:yE P A w ρ sv v):yE P A' w (y42 ρ l) (sv.rename l) v:=by
 cases sv with
 |undef=>trivial
 |val t x=>obtain ⟨m,hm,e⟩:=h;exact ⟨m,hm.mono (λ _ _ _=>rfl) hA,e⟩
 |tup t x=>obtain ⟨m,hm,e⟩:=h;exact ⟨m,hm.mono (λ _ _ _=>rfl) hA,e⟩
 |xV t x=>obtain ⟨m,hm,e⟩:=h;exact ⟨m,hm.mono (λ _ _ _=>rfl) hA,e⟩
 |nils=>exact h
 |gone=>exact h
 |bP β off =>
  simp only[SV.rename];split
  ·rename_i hc;simp only[yE,y05 hc];exact h
  ·trivial
 |own β =>
  simp only[SV.rename];split
  ·rename_i hc;simp only[yE,y05 hc];exact h
  ·trivial
 |eP β i sz off =>
  simp only[SV.rename];split
  ·rename_i hc;simp only[yE,y05 hc];exact h
  ·trivial
 |oS β i sz =>
  simp only[SV.rename];split
  ·rename_i hc;simp only[yE,y05 hc];exact h
  ·trivial
 |mO β =>
  simp only[SV.rename];split
  ·rename_i hc;simp only[yE,y05 hc];exact h
  ·trivial
 |yld β =>
  simp only[SV.rename];split
  ·rename_i hc;simp only[yE,y05 hc];exact h
  ·trivial
 |mP β e =>
  simp only[SV.rename];split
  ·rename_i hc;simp only[yE,y05 hc];exact h
  ·trivial
 |sR β =>
  simp only[SV.rename];split
  ·rename_i hc;simp only[yE,y05 hc];exact h
  ·trivial
 |nO β i =>
  simp only[SV.rename];split
  ·rename_i hc;simp only[yE,y05 hc];exact h
  ·trivial
 |nP β i j sz off =>
  simp only[SV.rename];split
  ·rename_i hc;simp only[yE,y05 hc];exact h
  ·trivial
 |meth f β =>
  simp only[SV.rename];split
  ·rename_i hc;simp only[yE,y05 hc];exact h
  ·trivial
 |clo f caps =>
  simp only[SV.rename];split
  ·rename_i cs hcs;obtain ⟨vs,e,hr⟩:=h;exact ⟨vs,e,(y4C hA hcs hr).1⟩
  ·trivial
theorem y6J{l:List Nat}:∀ {cs ds:List Cap},y1Y l cs=some ds->y0L l.length ds
 |[],ds,h=>by simp[y1Y]at h;subst h;trivial
 |c::cs,ds,h=>by
  simp only[y1Y,bind_eq_some_iff,map_eq_some_iff]at h;obtain ⟨d,hd,ds',hds,rfl⟩:=h;have h2:=y6J hds;cases c with
  |box β =>
   simp only[Cap.rename]at hd;split at hd
   ·rename_i hc;cases hd;exact ⟨(yx hc).1,h2⟩
   ·cases hd
  |val t x=>simp only[Cap.rename,Option.some.injEq]at hd;subst hd;exact h2
theorem y4k{l:List Nat}(sv:SV):(sv.rename l).inn l.length:=by
 cases sv with
 |bP β off=>simp only[SV.rename];split;exact (yx ‹_›).1;trivial
 |own β=>simp only[SV.rename];split;exact (yx ‹_›).1;trivial
 |eP β i sz off=>simp only[SV.rename];split;exact (yx ‹_›).1;trivial
 |oS β i sz=>simp only[SV.rename];split;exact (yx ‹_›).1;trivial
 |mO β=>simp only[SV.rename];split;exact (yx ‹_›).1;trivial
 |yld β=>simp only[SV.rename];split;exact (yx ‹_›).1;trivial
 |mP β e=>simp only[SV.rename];split;exact (yx ‹_›).1;trivial
 |sR β=>simp only[SV.rename];split;exact (yx ‹_›).1;trivial
 |nO β i=>simp only[SV.rename];split;exact (yx ‹_›).1;trivial
 |nP β i j sz off=>simp only[SV.rename];split;exact (yx ‹_›).1;trivial
 |meth f β=>simp only[SV.rename];split;exact (yx ‹_›).1;trivial
 |clo f caps =>
  simp only[SV.rename];split
  ·exact y6J ‹_›
  ·trivial
 |_=>trivial
theorem yEM{A:Nat->Prop}{sv:SV}{v:Value}(h:yE P A w ρ sv v):yE P A w ρ (yIy sv) v:=by
 unfold yIy;split
 ·obtain ⟨m,hm,e⟩:=h;exact ⟨m,y7T hm,e⟩
 ·exact h
theorem yFd(keep:List Nat):∀ (l:List SV) (k i:Nat) (sv':SV),(y2i keep k l)[i]?=some sv'->∃ sv,l[i]?=some sv/\(sv'=yIy sv\/sv'=.undef)
 |[],_,i,_,h=>by simp[y2i]at h
 |sv::l,k,i,sv',h=>by
  simp only[y2i]at h;cases i with
  |zero =>
   simp at h;subst h;refine ⟨sv,rfl,?_⟩;split
   ·exact .inl rfl
   ·exact .inr rfl
  |succ i=>simpa using yFd keep l (k+1) i sv' (by simpa using h)
theorem y8h(keep:List Nat):∀ (l:List SV) (k:Nat),(y2i keep k l).length=l.length
 |[],_=>rfl
 |sv::l,k=>by simp[y2i,y8h keep l (k+1)]
omit [GT] in
theorem Chunk.rename_some{l:List Nat}{c c':Chunk}(h:c.rename l=some c'):c'=c.map (SV.rename l)/\∀ k e u es q,c≠.mps k e u es (some q):=by
 unfold Chunk.rename at h;split at h
 ·cases h
 ·rename_i hn;cases h;exact ⟨rfl,λ k e u es q hc=>hn k e u es q hc⟩
theorem yA7(h:Rel P A0 w0 ρ s a w)(l keep:List Nat):Weak P A0 w ρ (y42 ρ l) s (y5p l keep s):=by
 unfold y5p;have hch:∀ (i:Nat) (ch':Chunk),(l.zipIdx.map λ p=>if y0R l p.1=p.2 then (s.cH.getD p.1 none).bind (Chunk.rename l)else none)[i]?=some (some ch') ->
   ∃ γ ch,s.cH[γ]?=some (some ch)/\y42 ρ l i=ρ γ/\(ch'=ch.map (SV.rename l)/\∀ k e u es q,ch≠.mps k e u es (some q))/\y0R l γ=i:=by
  intro i ch' hi;rw[getElem?_map,map_eq_some_iff]at hi;obtain ⟨⟨γ,j⟩,h1,h2⟩:=hi;rw[List.getElem?_zipIdx]at h1;simp only[map_eq_some_iff,Nat.zero_add,Prod.mk.injEq]at h1;obtain ⟨γ',h3,rfl,rfl⟩:=h1;simp only at h2;split at h2
  ·rename_i hn;rw[bind_eq_some_iff]at h2;obtain ⟨ch,h4,h5⟩:=h2;exact ⟨γ',ch,getD_some h4,by unfold y42;rw[List.getD_eq_getElem?_getD,h3];rfl,Chunk.rename_some h5,hn⟩
  ·cases h2
 have hA:∀ n,Av A0 (y42 ρ l) (l.zipIdx.map λ p=>if y0R l p.1=p.2 then (s.cH.getD p.1 none).bind (Chunk.rename l)else none) n->Av A0 ρ s.cH n:=by
  rintro n ((h0|⟨i,c,hc,hb⟩)|⟨i,c,hc,hb⟩)
  ·exact .inl (.inl h0)
  ·obtain ⟨γ,ch,h1,h2,_⟩:=hch i c hc;rw[h2]at hb;exact .inl (.inr ⟨γ,ch,h1,hb⟩)
  ·obtain ⟨γ,ch,h1,h2,_⟩:=hch i c hc;rw[h2]at hb;exact .inr ⟨γ,ch,h1,hb⟩
 refine ⟨by rw[St.slots_of];simp[y8h],λ i sv sv' v hs hs' hr=>?_,λ i ch' hi=>?_,λ i j c d hi hj hij hne=>?_,λ i sv hs=>?_,λ i ch hi=>?_,by simp,λ i sv sv' v hs hs' hr=>?_,λ i sv hs=>?_,rfl,id,rfl⟩
 ·rw[St.slots_of]at hs';simp only[getElem?_map,map_eq_some_iff]at hs';obtain ⟨sv1,h1,rfl⟩:=hs';obtain ⟨sv2,h2,h3⟩:=yFd keep _ _ _ _ h1;rw[hs]at h2;cases h2;rcases h3 with rfl|rfl
  ·exact y2K (λ n _ hn=>hA n hn) (yEM hr)
  ·trivial
 ·obtain ⟨γ,ch,h1,h2,⟨rfl,hnh⟩,_⟩:=hch i ch' hi;refine ⟨γ,ch,h1,h2,λ hr=>?_,by cases ch<;>rfl⟩
  cases ch with
  |box t cells =>
   obtain ⟨b,vs,e,hb,h3,h4,h5⟩:=hr;refine ⟨b,vs,e,hb,h3,by simpa[Chunk.map]using h4,λ j sv hj=>?_⟩
   simp only[getElem?_map,map_eq_some_iff]at hj;obtain ⟨sv',h6,rfl⟩:=hj;obtain ⟨v,h7,h8⟩:=h5 j sv' h6;exact ⟨v,h7,y2K (λ n _ hn=>hA n hn) h8⟩
  |lp j info cells st =>
   obtain ⟨b,r,hb,h3,h4,h5,h6⟩:=hr;refine ⟨b,r,hb,h3,h4,by simpa using h5,λ j sv hj=>?_⟩
   simp only[getElem?_map,map_eq_some_iff]at hj;obtain ⟨sv',h7,rfl⟩:=hj;obtain ⟨v,h8,h9⟩:=h6 j sv' h7;exact ⟨v,h8,y2K (λ n _ hn=>hA n hn) h9⟩
  |arr e t xs nn=>exact (yC.keep hr (λ _ _=>rfl) (λ n _ hn=>hA n hn))
  |mp k v es=>exact (yC.keep hr (λ _ _=>rfl) (λ n _ hn=>hA n hn))
  |it bs q=>exact (yC.keep hr (λ _ _=>rfl) (λ n _ hn=>hA n hn))
  |mps k e u es hole =>
   cases hole with
   |some q=>exact absurd rfl (hnh k e u es q)
   |none =>
    have h1:=yC.keep (A':=Av A0 (y42 ρ l) (l.zipIdx.map λ p=>if y0R l p.1=p.2 then (s.cH.getD p.1 none).bind (Chunk.rename l)else none)) hr (λ _ _=>rfl) (λ n _ hn=>hA n hn)
    exact h1.noHole
  |nst e t o e' u xs=>exact (yC.keep hr (λ _ _=>rfl) (λ n _ hn=>hA n hn))
  |rcd t cells =>
   obtain ⟨h3,h4,h5,h6⟩:=hr;refine ⟨h3,by rw[length_map];exact h4,by simpa using h5,λ j sv hj=>?_⟩
   simp only[getElem?_map,map_eq_some_iff]at hj;obtain ⟨sv',h7,rfl⟩:=hj;obtain ⟨v,h8,h9⟩:=h6 j sv' h7;exact ⟨v,h8,y2K (λ n _ hn=>hA n hn) h9⟩
 ·obtain ⟨γ,ch,h1,h2,_,h3⟩:=hch i c hi;obtain ⟨δ,dh,h4,h5,_,h6⟩:=hch j d hj;rw[h2,h5]at hij;rw[h2]at hne;have:=h.inj γ δ ch dh h1 h4 hij hne;rw[<- h3,<- h6,this]
 ·rw[St.slots_of]at hs;simp only[getElem?_map,map_eq_some_iff]at hs;obtain ⟨sv1,_,rfl⟩:=hs;simpa using y4k (l:=l) sv1
 ·obtain ⟨γ,ch',_,_,⟨rfl,hnh⟩,_⟩:=hch i ch hi;cases ch' with
  |box t cells =>
   intro sv hs;obtain ⟨sv',_,rfl⟩:=mem_map.1 hs;simpa using y4k (l:=l) sv'
  |lp j info cells st =>
   intro sv hs;obtain ⟨sv',_,rfl⟩:=mem_map.1 hs;simpa using y4k (l:=l) sv'
  |arr e t xs nn=>trivial
  |mp k v es=>trivial
  |it bs q=>trivial
  |mps k e u es hole =>
   cases hole with
   |some q=>exact absurd rfl (hnh k e u es q)
   |none=>intro q hq;cases hq
  |nst e t o e' u xs=>trivial
  |rcd t cells =>
   intro sv hs;obtain ⟨sv',_,rfl⟩:=mem_map.1 hs;simpa using y4k (l:=l) sv'
 ·simp only[getElem?_map,map_eq_some_iff]at hs';obtain ⟨sv1,h1,rfl⟩:=hs';rw[hs]at h1;cases h1;exact y2K (λ n _ hn=>hA n hn) hr
 ·simp only[getElem?_map,map_eq_some_iff]at hs;obtain ⟨sv1,_,rfl⟩:=hs;simpa using y4k (l:=l) sv1
theorem yAW(h:Rel P A0 w0 ρ s a w)(keep:List Nat):∃ ρ',Weak P A0 w ρ ρ' s (canon keep s):=⟨_,yA7 h _ keep⟩
def LpI(I:List LpInfo)(s:St):Prop:=∀ (β:Nat) (ch:Chunk) (q:Nat×LpInfo),s.cH[β]?=some (some ch)->ch.lpNo=some q->I[q.1]?=some q.2
theorem yFh{I:List LpInfo}(h:LpI I s)(keep:List Nat):LpI I (canon keep s):=by
 intro β ch q hb hq;unfold canon y5p at hb;simp only[getElem?_map,map_eq_some_iff]at hb;obtain ⟨⟨γ,j⟩,_,h2⟩:=hb;split at h2
 ·rw[bind_eq_some_iff]at h2;obtain ⟨c,h4,h5⟩:=h2;obtain ⟨rfl,_⟩:=Chunk.rename_some h5;exact h γ c q (getD_some h4) (by cases c<;>exact hq)
 ·cases h2
theorem Rel.canon(h:Rel P A0 w0 ρ s a w)(keep:List Nat):∃ ρ',Rel P A0 w0 ρ' (Vx.canon keep s) a w:=by
 obtain ⟨ρ',hw⟩:=yAW h keep;exact ⟨ρ',h.weak hw (yFh h.lpi keep)⟩
theorem y4b{A A':Nat->Prop}(hA:∀ n,n < w.heap.size->A' n->A n):∀ {l l':List Cap} {y:(y4d l).den} {vs:List Value},y3f l l'=some y->yd P A w ρ l' vs->yd P A' w ρ (y6B l y) vs
 |[],[],_,vs,_,h=>by cases vs with|nil=>trivial|cons v vs=>exact h.elim
 |[],_::_,_,_,h,_=>by simp[y3f]at h
 |.val t x::l,[],_,_,h,_=>by simp[y3f]at h
 |.box β::l,[],_,_,h,_=>by simp[y3f]at h
 |.val t x::l,.box γ::l',_,_,h,_=>by simp[y3f]at h
 |.box β::l,.val u z::l',_,_,h,_=>by simp[y3f]at h
 |.val t x::l,.val u z::l',y,vs,h,hr=>by
  obtain ⟨p,q,hp,hq,rfl⟩:=y2O (γ:=(y4d (.val t x::l)).den) (f:=λ a b=>(a,b)) h
  cases vs with
  |nil=>exact hr.elim
  |cons v vs =>
   refine ⟨?_,y4b hA hq hr.2⟩;obtain ⟨m,hm,e⟩:=hr.1;obtain ⟨h1,h2⟩:=y5g hp hm;exact ⟨m,h1.mono (λ _ _ _=>rfl) hA,by rw[h2];exact e⟩
 |.box β::l,.box γ::l',y,vs,h,hr=>by
  obtain ⟨e,h'⟩:=yG (α:=(y4d l).den) h;subst e;cases vs with
  |nil=>exact hr.elim
  |cons v vs=>exact ⟨hr.1,y4b hA h' hr.2⟩
theorem y1r{A A':Nat->Prop}(hA:∀ n,n < w.heap.size->A' n->A n):∀ (l l':List SV) (y:(y00 l).den),yU l l'=some y ->
  (yN l y).length=l'.length/\∀ (i:Nat) (sv sv':SV) (v:Value),l'[i]?=some sv->(yN l y)[i]?=some sv'->yE P A w ρ sv v->yE P A' w ρ sv' v:=by
 intro l;induction l with
 |nil =>
  intro l' y h;cases l' with
  |nil=>exact ⟨rfl,λ i sv sv' v hi=>by simp at hi⟩
  |cons x l'=>simp[yU]at h
 |cons x l ih =>
  intro l' y h;have step:∀ (x':SV) (l'':List SV) (z:(y00 l).den) (fx:SV) (fl:List SV),yU l l''=some z->fl=fx::yN l z->(∀ v,yE P A w ρ x' v->yE P A' w ρ fx v) ->
    fl.length=(x'::l'').length/\∀ (i:Nat) (sv sv':SV) (v:Value),(x'::l'')[i]?=some sv->fl[i]?=some sv'->yE P A w ρ sv v->yE P A' w ρ sv' v:=by
   intro x' l'' z fx fl hz hfl hx;obtain ⟨h1,h2⟩:=ih l'' z hz;subst hfl;refine ⟨by simp[h1],λ i sv sv' v hi hi' hr=>?_⟩
   cases i with
   |zero=>simp at hi hi';subst hi;subst hi';exact hx v hr
   |succ i=>exact h2 i sv sv' v (by simpa using hi) (by simpa using hi') hr
  have mono:∀ (sv:SV) (v:Value),yE P A w ρ sv v->yE P A' w ρ sv v:=λ sv v h=>h.mono (λ _ _ _=>rfl) hA
  cases l' with
  |nil=>cases x<;>simp only[yU,reduceCtorEq]at h
  |cons x' l'' =>
   cases x with
   |undef=>exact step x' l'' y .undef _ h rfl (λ _ _=>trivial)
   |eP β i sz off=>exact step x' l'' y .undef _ h rfl (λ _ _=>trivial)
   |oS β i sz=>exact step x' l'' y .undef _ h rfl (λ _ _=>trivial)
   |tup t z=>exact step x' l'' y .undef _ h rfl (λ _ _=>trivial)
   |xV t z=>exact step x' l'' y .undef _ h rfl (λ _ _=>trivial)
   |gone=>exact step x' l'' y .undef _ h rfl (λ _ _=>trivial)
   |nO β i=>exact step x' l'' y .undef _ h rfl (λ _ _=>trivial)
   |nP β i j sz off=>exact step x' l'' y .undef _ h rfl (λ _ _=>trivial)
   |sR β =>
    obtain ⟨e,h'⟩:=yG (α:=(y00 l).den) h;have e':x'=.sR β:=by
     cases x'<;>simp[yPY]at e
     rw[e]
    subst e';exact step _ l'' y _ _ h' rfl (λ v=>mono _ v)
   |nils =>
    obtain ⟨e,h'⟩:=yG (α:=(y00 l).den) h;have e':x'=.nils:=by cases x'<;>simp[yNC]at e;rfl
    subst e';exact step .nils l'' y .nils _ h' rfl (λ v=>mono .nils v)
   |bP β off =>
    obtain ⟨e,h'⟩:=yG (α:=(y00 l).den) h;have e':x'=.bP β off:=by
     cases x'<;>simp[yNb]at e
     rw[e.1,e.2]
    subst e';exact step _ l'' y _ _ h' rfl (λ v=>mono _ v)
   |own β =>
    obtain ⟨e,h'⟩:=yG (α:=(y00 l).den) h;have e':x'=.own β:=by
     cases x'<;>simp[yNh]at e
     rw[e]
    subst e';exact step _ l'' y _ _ h' rfl (λ v=>mono _ v)
   |mO β =>
    obtain ⟨e,h'⟩:=yG (α:=(y00 l).den) h;have e':x'=.mO β:=by
     cases x'<;>simp[yNU]at e
     rw[e]
    subst e';exact step _ l'' y _ _ h' rfl (λ v=>mono _ v)
   |yld β =>
    obtain ⟨e,h'⟩:=yG (α:=(y00 l).den) h;have e':x'=.yld β:=by
     cases x'<;>simp[yPq]at e
     rw[e]
    subst e';exact step _ l'' y _ _ h' rfl (λ v=>mono _ v)
   |meth hf β =>
    obtain ⟨e,h'⟩:=yG (α:=(y00 l).den) h;have e':x'=.meth hf β:=by
     cases x'<;>simp[yNO]at e
     rw[e.1,e.2]
    subst e';exact step _ l'' y _ _ h' rfl (λ v=>mono _ v)
   |mP β d =>
    obtain ⟨e,h'⟩:=yG (α:=(y00 l).den) h;have e':x'=.mP β d:=by
     cases x'<;>simp[yNI]at e
     rw[e.1,e.2]
    subst e';exact step _ l'' y _ _ h' rfl (λ v=>mono _ v)
   |clo f cs =>
    obtain ⟨p,q,hp,hq,rfl⟩:=y2O (γ:=(y00 (.clo f cs::l)).den) (f:=λ a b=>(a,b)) h
    unfold yQO at hp;split at hp
    ·rename_i f' ds;split at hp
     ·rename_i e;subst e;refine step _ l'' q _ _ hq rfl (λ v hv=>?_)
      obtain ⟨vs,e,hr⟩:=hv;exact ⟨vs,e,y4b hA hp hr⟩
     ·cases hp
    ·cases hp
   |val t z =>
    obtain ⟨p,q,hp,hq,rfl⟩:=y2O (γ:=(y00 (.val t z::l)).den) (f:=λ a b=>(a,b)) h
    refine step _ l'' q (.val t p) _ hq rfl (λ v hv=>?_)
    unfold yQ1 at hp;split at hp
    ·obtain ⟨m,hm,e⟩:=hv;obtain ⟨h1,h2⟩:=y2a hp hm;exact ⟨m,h1.mono (λ _ _ _=>rfl) hA,by rw[y52 h2];exact e⟩
    ·simp only[yE]at hv;subst hv;split at hp
     ·cases hp;exact ⟨_,y3b _,rfl⟩
     ·cases hp;exact ⟨_,y54 _,rfl⟩
     ·cases hp
    ·cases hp
theorem yA3{A A':Nat->Prop}{I:List LpInfo}(hA:∀ n,n < w.heap.size->A' n->A n):∀ (l l':List (Option Chunk)) (y:(y04 l).den),yb l l'=some y ->
  (∀ (β:Nat) (ch:Chunk) (q:Nat×LpInfo),l[β]?=some (some ch)->ch.lpNo=some q->I[q.1]?=some q.2)->(∀ (β:Nat) (ch:Chunk) (q:Nat×LpInfo),l'[β]?=some (some ch)->ch.lpNo=some q->I[q.1]?=some q.2) ->
  ∀ (i:Nat) (ch':Chunk),(yI l y)[i]?=some (some ch')->∃ ch,l'[i]?=some (some ch)/\(∀ p,yC P A w ρ p ch->yC P A' w ρ p ch')/\ch'.isM=ch.isM:=by
 intro l;induction l with
 |nil=>intro l' y h hI hI' i ch' hi;simp[yI]at hi
 |cons x l ih =>
  intro l' y h hI hI' i ch' hi;cases l' with
  |nil=>rcases x with _|(⟨t,cells⟩|⟨e,t,xs,nn⟩|⟨k,v,es⟩|⟨bs,q⟩|⟨i,info,cells,st⟩|⟨k,e,u,es,_|q⟩|⟨t,cells⟩|⟨e,t,o,e',u,xs⟩)<;>cases h
  |cons x' l'' =>
  have ih:=λ (l':List (Option Chunk)) (y:(y04 l).den) (h:yb l l'=some y) (e:l'=l'')=>ih l' y h (λ β ch q hb=>hI (β+1) ch q (by simpa using hb)) (by subst e;exact λ β ch q hb=>hI' (β+1) ch q (by simpa using hb))
  cases x with
  |none =>
   cases i with
   |zero=>simp[yI]at hi
   |succ i=>exact ih l'' y h rfl i ch' hi
  |some c =>
   cases c with
   |box t cells =>
    obtain ⟨p,hp,h2⟩:=bind_eq_some_iff.1 (show ((yO7 t cells x').bind λ y=>(yb l l'').map λ z=>(y,z))=some y from h)
    obtain ⟨q,hq,rfl⟩:=map_eq_some_iff.1 h2;cases i with
    |succ i=>exact ih l'' q hq rfl i ch' hi
    |zero =>
     have hi':some (Chunk.box t (yN cells p))=some ch':=by simpa[yI]using hi
     cases hi';unfold yO7 at hp;split at hp
     ·rename_i u cells';obtain ⟨rfl,hp2⟩:=yG hp;refine ⟨_,rfl,λ pl hr=>?_,rfl⟩
      obtain ⟨b,vs,e,hb,h3,h4,h5⟩:=hr;obtain ⟨h6,h7⟩:=y1r (P:=P) (ρ:=ρ) (A:=A) (A':=A') hA cells cells' p hp2;refine ⟨b,vs,e,hb,h3,by rw[h6];exact h4,λ j sv hj=>?_⟩
      have hlt:j < cells'.length:=h6 ▸ (List.getElem?_eq_some_iff.1 hj).1;obtain ⟨v,h8,h9⟩:=h5 j _ (getElem?_eq_getElem hlt);exact ⟨v,h8,h7 j _ sv v (getElem?_eq_getElem hlt) hj h9⟩
     ·cases hp
   |arr e t xs nn =>
    obtain ⟨p,hp,h2⟩:=bind_eq_some_iff.1 (show ((yOU e t nn x').bind λ y=>(yb l l'').map λ z=>(y,z))=some y from h)
    obtain ⟨q,hq,rfl⟩:=map_eq_some_iff.1 h2;cases i with
    |succ i=>exact ih l'' q hq rfl i ch' hi
    |zero =>
     have hi':some (Chunk.arr e t p nn)=some ch':=by simpa[yI]using hi
     cases hi';unfold yOU at hp;split at hp
     ·rename_i e' u xs' nn';obtain ⟨⟨rfl,hnn⟩,hp2⟩:=yG hp;refine ⟨_,rfl,λ pl hr=>?_,rfl⟩
      obtain ⟨e2,he2⟩:=y3F hp2;cases e2;simp only at he2;subst he2;have hr':=hr.keep (w':=w) (A':=A') (λ _ _=>rfl) hA
      obtain ⟨h1,h2,h3⟩:=hr';exact ⟨h1,λ hn=>h2 (hnn hn),h3⟩
     ·cases hp
   |mp k v es =>
    obtain ⟨p,hp,h2⟩:=bind_eq_some_iff.1 (show ((asMp k v x').bind λ y=>(yb l l'').map λ z=>(y,z))=some y from h)
    obtain ⟨q,hq,rfl⟩:=map_eq_some_iff.1 h2;cases i with
    |succ i=>exact ih l'' q hq rfl i ch' hi
    |zero =>
     have hi':some (Chunk.mp k v p)=some ch':=by simpa[yI]using hi
     cases hi';unfold asMp at hp;split at hp
     ·rename_i k' v' es';refine ⟨_,rfl,λ pl hr=>?_,rfl⟩
      obtain ⟨e2,he2⟩:=y3F hp;cases e2;simp only at he2;subst he2;exact hr.keep (w':=w) (A':=A') (λ _ _=>rfl) hA
     ·cases hp
   |it bs q =>
    obtain ⟨p,hp,h2⟩:=bind_eq_some_iff.1 (show ((asIt x').bind λ y=>(yb l l'').map λ z=>(y,z))=some y from h)
    obtain ⟨q,hq,rfl⟩:=map_eq_some_iff.1 h2;cases i with
    |succ i=>exact ih l'' q hq rfl i ch' hi
    |zero =>
     have hi':some (Chunk.it p.1 p.2)=some ch':=by simpa[yI]using hi
     cases hi';unfold asIt at hp;split at hp
     ·cases hp;exact ⟨_,rfl,λ pl hr=>hr.keep (w':=w) (A':=A') (λ _ _=>rfl) hA,rfl⟩
     ·cases hp
   |lp j info cells st =>
    obtain ⟨p,hp,h2⟩:=bind_eq_some_iff.1 (show ((asLp j cells st x').bind λ y=>(yb l l'').map λ z=>(y,z))=some y from h)
    obtain ⟨q,hq,rfl⟩:=map_eq_some_iff.1 h2;cases i with
    |succ i=>exact ih l'' q hq rfl i ch' hi
    |zero =>
     have hi':some (Chunk.lp j info (yN cells p) st)=some ch':=by simpa[yI]using hi
     cases hi';unfold asLp at hp;split at hp
     ·rename_i j' info' cells' st';obtain ⟨⟨rfl,rfl⟩,hp2⟩:=yG hp;have e1:=hI 0 _ (j,info) rfl rfl;have e2:=hI' 0 _ (j,info') rfl rfl;simp only at e1 e2;rw[e1]at e2;cases e2;refine ⟨_,rfl,λ pl hr=>?_,rfl⟩
      obtain ⟨b,r,hb,h3,h4,h5,h6⟩:=hr;obtain ⟨h7,h8⟩:=y1r (P:=P) (ρ:=ρ) (A:=A) (A':=A') hA cells cells' p hp2;refine ⟨b,r,hb,h3,h4,by rw[h7];exact h5,λ j sv hj=>?_⟩
      have hlt:j < cells'.length:=h7 ▸ (List.getElem?_eq_some_iff.1 hj).1;obtain ⟨v,h9,h10⟩:=h6 j _ (getElem?_eq_getElem hlt);exact ⟨v,h9,h8 j _ sv v (getElem?_eq_getElem hlt) hj h10⟩
     ·cases hp
   |mps k e u es hole =>
    cases hole with
    |some q =>
     cases i with
     |zero=>simp[yI]at hi
     |succ i=>exact ih l'' y h rfl i ch' hi
    |none =>
    obtain ⟨p,hp,h2⟩:=bind_eq_some_iff.1 (show ((yNy k e u x').bind λ y=>(yb l l'').map λ z=>(y,z))=some y from h)
    obtain ⟨q,hq,rfl⟩:=map_eq_some_iff.1 h2;cases i with
    |succ i=>exact ih l'' q hq rfl i ch' hi
    |zero =>
     have hi':some (Chunk.mps k e u p none)=some ch':=by simpa[yI]using hi
     cases hi';unfold yNy at hp;split at hp
     ·rename_i k' e' u' es';obtain ⟨rfl,hp2⟩:=yG hp;refine ⟨_,rfl,λ pl hr=>?_,rfl⟩
      obtain ⟨e2,he2⟩:=y3F hp2;cases e2;simp only at he2;subst he2;exact hr.keep (w':=w) (A':=A') (λ _ _=>rfl) hA
     ·cases hp
   |rcd t cells =>
    obtain ⟨p,hp,h2⟩:=bind_eq_some_iff.1 (show ((yOJ t cells x').bind λ y=>(yb l l'').map λ z=>(y,z))=some y from h)
    obtain ⟨q,hq,rfl⟩:=map_eq_some_iff.1 h2;cases i with
    |succ i=>exact ih l'' q hq rfl i ch' hi
    |zero =>
     have hi':some (Chunk.rcd t (yN cells p))=some ch':=by simpa[yI]using hi
     cases hi';unfold yOJ at hp;split at hp
     ·rename_i u cells';obtain ⟨rfl,hp2⟩:=yG hp;refine ⟨_,rfl,λ pl hr=>?_,rfl⟩
      obtain ⟨h3,h4,h5,h8⟩:=hr;obtain ⟨h6,h7⟩:=y1r (P:=P) (ρ:=ρ) (A:=A) (A':=A') hA cells cells' p hp2;refine ⟨h3,by rw[h6];exact h4,by rw[h6];exact h5,λ j sv hj=>?_⟩
      have hlt:j < cells'.length:=h6 ▸ (List.getElem?_eq_some_iff.1 hj).1;obtain ⟨v,h9,h10⟩:=h8 j _ (getElem?_eq_getElem hlt);exact ⟨v,h9,h7 j _ sv v (getElem?_eq_getElem hlt) hj h10⟩
     ·cases hp
   |nst e t o e' u xs =>
    obtain ⟨p,hp,h2⟩:=bind_eq_some_iff.1 (show ((yNv e t o e' u x').bind λ y=>(yb l l'').map λ z=>(y,z))=some y from h)
    obtain ⟨q,hq,rfl⟩:=map_eq_some_iff.1 h2;cases i with
    |succ i=>exact ih l'' q hq rfl i ch' hi
    |zero =>
     have hi':some (Chunk.nst e t o e' u p)=some ch':=by simpa[yI]using hi
     cases hi';unfold yNv at hp;split at hp
     ·rename_i d t' o' d' u' xs';obtain ⟨⟨rfl,rfl,rfl,rfl⟩,hp2⟩:=yG hp;refine ⟨_,rfl,λ pl hr=>?_,rfl⟩
      obtain ⟨e2,he2⟩:=y3F hp2;cases e2;simp only at he2;subst he2;exact hr.keep (w':=w) (A':=A') (λ _ _=>rfl) hA
     ·cases hp
structure St.Ok (s:St):Prop where
 names:∀ (i:Nat) (sv:SV),s.slots[i]?=some sv->sv.inn s.cH.length
 cN:∀ (β:Nat) (ch:Chunk),s.cH[β]?=some (some ch)->ch.inn s.cH.length
 kN:∀ (i:Nat) (sv:SV),s.kept[i]?=some sv->sv.inn s.cH.length
theorem Rel.ok(h:Rel P A0 w0 ρ s a w):s.Ok:=⟨h.names,h.cN,h.kN⟩
theorem y5d{n:Nat}:∀ {l:List Cap} (y:(y4d l).den),y0L n l->y0L n (y6B l y)
 |[],_,_=>trivial
 |.val t x::l,y,h=>y5d (l:=l) y.2 h
 |.box β::l,y,h=>⟨h.1,y5d (l:=l) y h.2⟩
theorem y1h{n:Nat}:∀ {l:List SV} (y:(y00 l).den),(∀ sv∈l,sv.inn n)->∀ sv∈yN l y,sv.inn n
 |[],_,_=>λ sv h=>by simp[yN]at h
 |x::l,y,hl=>by
  have ih:∀ z,∀ sv∈yN l z,sv.inn n:=λ z=>y1h (l:=l) z (λ sv hs=>hl sv (List.mem_cons_of_mem _ hs))
  have h0:=hl x (mem_cons_self ..);intro sv hs;cases x<;>rcases mem_cons.1 hs with rfl|hs<;>first|exact ih _ sv hs|trivial|exact h0|exact y5d _ h0
theorem yW:∀ (l:List (Option Chunk)) (y:(y04 l).den),(yI l y).length=l.length
 |[],_=>rfl
 |some (.box _ _)::l,y=>congrArg (·+1) (yW l y.2)
 |some (.arr _ _ _ _)::l,y=>congrArg (·+1) (yW l y.2)
 |some (.mp _ _ _)::l,y=>congrArg (·+1) (yW l y.2)
 |some (.it _ _)::l,y=>congrArg (·+1) (yW l y.2)
 |some (.lp _ _ _ _)::l,y=>congrArg (·+1) (yW l y.2)
 |some (.mps _ _ _ _ none)::l,y=>congrArg (·+1) (yW l y.2)
 |some (.rcd _ _)::l,y=>congrArg (·+1) (yW l y.2)
 |some (.nst _ _ _ _ _ _)::l,y=>congrArg (·+1) (yW l y.2)
 |some (.mps _ _ _ _ (some _))::l,y=>congrArg (·+1) (yW l y)
 |none::l,y=>congrArg (·+1) (yW l y)
theorem y6C{n:Nat}:∀ {l:List (Option Chunk)} (y:(y04 l).den),(∀ ch,some ch∈l->ch.inn n)->∀ ch,some ch∈yI l y->ch.inn n
 |[],_,_=>λ sv h=>by simp[yI]at h
 |x::l,y,hl=>by
  have ih:∀ z,∀ ch,some ch∈yI l z->ch.inn n:=λ z=>y6C (l:=l) z (λ sv hs=>hl sv (List.mem_cons_of_mem _ hs))
  intro ch hs;rcases x with _|(⟨t,cells⟩|⟨e,t,xs,nn⟩|⟨k,v,es⟩|⟨bs,q⟩|⟨i,info,cells,st⟩|⟨k,e,u,es,_|q⟩|⟨t,cells⟩|⟨e,t,o,e',u,xs⟩)
  ·rcases mem_cons.1 hs with hc|hs
   ·cases hc
   ·exact ih y ch hs
  ·rcases mem_cons.1 hs with hc|hs
   ·cases hc;exact y1h _ (hl _ (mem_cons_self ..))
   ·exact ih _ ch hs
  ·rcases mem_cons.1 hs with hc|hs
   ·cases hc;trivial
   ·exact ih _ ch hs
  ·rcases mem_cons.1 hs with hc|hs
   ·cases hc;trivial
   ·exact ih _ ch hs
  ·rcases mem_cons.1 hs with hc|hs
   ·cases hc;trivial
   ·exact ih _ ch hs
  ·rcases mem_cons.1 hs with hc|hs
   ·cases hc;exact y1h _ (hl _ (mem_cons_self ..))
   ·exact ih _ ch hs
  ·rcases mem_cons.1 hs with hc|hs
   ·cases hc;intro q hq;cases hq
   ·exact ih _ ch hs
  ·rcases mem_cons.1 hs with hc|hs
   ·cases hc
   ·exact ih y ch hs
  ·rcases mem_cons.1 hs with hc|hs
   ·cases hc;exact y1h _ (hl _ (mem_cons_self ..))
   ·exact ih _ ch hs
  ·rcases mem_cons.1 hs with hc|hs
   ·cases hc;trivial
   ·exact ih _ ch hs
theorem y6U{I:List LpInfo}:∀ {l:List (Option Chunk)} (y:(y04 l).den),(∀ (β:Nat) (ch:Chunk) (q:Nat×LpInfo),l[β]?=some (some ch)->ch.lpNo=some q->I[q.1]?=some q.2) ->
  ∀ (β:Nat) (ch:Chunk) (q:Nat×LpInfo),(yI l y)[β]?=some (some ch)->ch.lpNo=some q->I[q.1]?=some q.2
 |[],_,_=>λ β ch q hb=>by simp[yI]at hb
 |x::l,y,hI=>by
  have ih:∀ (z:(y04 l).den) (β:Nat) (ch:Chunk) (q:Nat×LpInfo),(yI l z)[β]?=some (some ch)->ch.lpNo=some q->I[q.1]?=some q.2:=
   λ z=>y6U (l:=l) z (λ β ch q hb=>hI (β+1) ch q (by simpa using hb))
  intro β ch q hb hq;rcases x with _|(⟨t,cells⟩|⟨e,t,xs,nn⟩|⟨k,v,es⟩|⟨bs,q0⟩|⟨i,info,cells,st⟩|⟨k,e,u,es,_|q0⟩|⟨t,cells⟩|⟨e,t,o,e',u,xs⟩)<;>(cases β with
   |zero=>(first|(simp[yI]at hb;done)|(simp[yI]at hb;subst hb;first|(cases hq;done)|exact hI 0 _ q rfl hq))
   |succ β=>exact ih _ β ch q (by simpa[yI]using hb) hq)
theorem yDM{I:List LpInfo}(h:LpI I s)(y:(stTy s).den):LpI I (y5Q s y):=y6U (l:=s.cH) y.2.1 h
theorem y7X(y:(stTy s).den):(y5Q s y).slots=yN s.slots y.1:=Slots.toList_ofList _
theorem yJO(h:s.Ok)(y:(stTy s).den):(y5Q s y).Ok:=by
 have h1:(y5Q s y).cH.length=s.cH.length:=yW _ _;refine ⟨λ i sv hi=>?_,λ β ch hb=>?_,λ i sv hi=>?_⟩
 ·rw[h1];rw[y7X]at hi;refine y1h (l:=s.slots) y.1 (λ sv hs=>?_) sv (mem_of_getElem? hi)
  obtain ⟨j,hj⟩:=List.getElem?_of_mem hs;exact h.names j sv hj
 ·rw[h1];refine y6C (l:=s.cH) y.2.1 (λ c hs=>?_) ch (mem_of_getElem? hb)
  obtain ⟨j,hj⟩:=List.getElem?_of_mem hs;exact h.cN j c hj
 ·rw[h1];refine y1h (l:=s.kept) y.2.2 (λ sv hs=>?_) sv (mem_of_getElem? hi)
  obtain ⟨j,hj⟩:=List.getElem?_of_mem hs;exact h.kN j sv hj
theorem yCo{s':St}(h:Rel P A0 w0 ρ s' a w)(hs:s.Ok)(hI:LpI w0.infos s)(hd:s.dep=s'.dep/\s.rnd=s'.rnd){y:(stTy s).den}(hy:stAs s s'=some y):Weak P A0 w ρ ρ s' (y5Q s y):=by
 have hnm:¬ (s.nmk=0/\s'.nmk≠0):=by
  intro hc;unfold stAs at hy;rw[if_pos hc]at hy;cases hy
 unfold stAs at hy;rw[if_neg hnm]at hy;obtain ⟨p,hp,hy2⟩:=bind_eq_some_iff.1 (show ((yU s.slots s'.slots).bind λ y=>(yb s.cH s'.cH).bind λ z=>(yU s.kept s'.kept).map λ u=>(y,z,u))=some y from hy)
 obtain ⟨q,hq,hy3⟩:=bind_eq_some_iff.1 hy2;obtain ⟨u,hu,rfl⟩:=map_eq_some_iff.1 hy3;have hok:=yJO hs (p,q,u);have hch:∀ (A A':Nat->Prop),(∀ n,n < w.heap.size->A' n->A n)->∀ (i:Nat) (ch':Chunk),(yI s.cH q)[i]?=some (some ch')->∃ ch,s'.cH[i]?=some (some ch)/\(∀ p,yC P A w ρ p ch->yC P A' w ρ p ch')/\ch'.isM=ch.isM:=
  λ A A' hA=>yA3 hA s.cH s'.cH q hq hI h.lpi
 have hsub:∀ (i:Nat) (ch':Chunk),(yI s.cH q)[i]?=some (some ch')->∃ ch,s'.cH[i]?=some (some ch):=by
  intro i ch' hi;obtain ⟨ch,h1,_⟩:=hch (λ _=>True) (λ _=>True) (λ _ _ h=>h) i ch' hi
  exact ⟨ch,h1⟩
 have hA:∀ n,n < w.heap.size->Av A0 ρ (yI s.cH q) n->Av A0 ρ s'.cH n:=by
  rintro n hn ((h0|⟨i,c,hc,hb⟩)|⟨i,c,hc,hb⟩)
  ·exact .inl (.inl h0)
  ·obtain ⟨ch,h1⟩:=hsub i c hc;exact .inl (.inr ⟨i,ch,h1,hb⟩)
  ·obtain ⟨ch,h1⟩:=hsub i c hc;exact .inr ⟨i,ch,h1,hb⟩
 have hsl:=λ (A A':Nat->Prop) (hA:∀ n,n < w.heap.size->A' n->A n)=>y1r (P:=P) (ρ:=ρ) hA s.slots s'.slots p hp
 have hkl:=λ (A A':Nat->Prop) (hA:∀ n,n < w.heap.size->A' n->A n)=>y1r (P:=P) (ρ:=ρ) hA s.kept s'.kept u hu
 have hfs:(y5Q s (p,q,u)).slots=yN s.slots p:=y7X _;refine ⟨by rw[hfs];exact (hsl _ _ hA).1,λ i sv sv' v h1 h2 h3=>(hsl _ _ hA).2 i sv sv' v h1 (hfs ▸ h2) h3,λ i ch' hi=>?_,λ i j c d hi hj hij hne=>?_,hok.names,hok.cN,(hkl _ _ hA).1,λ i sv sv' v h1 h2 h3=>(hkl _ _ hA).2 i sv sv' v h1 h2 h3,hok.kN,hd.1,λ h0=>Classical.byContradiction λ hn=>hnm ⟨h0,hn⟩,hd.2⟩
 ·obtain ⟨ch,h1,h2⟩:=hch _ _ hA i ch' hi;exact ⟨i,ch,h1,rfl,h2.1 _,h2.2⟩
 ·obtain ⟨c',h1⟩:=hsub i c hi;obtain ⟨d',h2⟩:=hsub j d hj;exact h.inj i j c' d' h1 h2 hij hne
theorem y2f(t:Ty)(x:t.den):y3L t t x=some x:=by simp[y3L]
theorem yKU(t:Ty)(x:t.den):conv t t x=some x:=by
 cases t<;>exact y2f _ x
theorem y5n:∀ l:List Cap,y3f l l=some (yLL l)
 |[]=>rfl
 |.val t x::l=>by
  show ((y3L t t x).bind λ y=>(y3f l l).map λ z=>(y,z))=_
  rw[y2f,y5n l];rfl
 |.box β::l=>by
  show (if β=β then y3f l l else none)=some (yLL l)
  rw[if_pos rfl,y5n l]
theorem ye:∀ l:List SV,yU l l=some (y2T l)
 |[]=>rfl
 |.val t x::l=>by
  show ((conv t t x).bind λ y=>(yU l l).map λ z=>(y,z))=_
  rw[yKU,ye l];rfl
 |.clo f cs::l=>by
  show ((if f=f then y3f cs cs else none).bind λ y=>(yU l l).map λ z=>(y,z))=_
  rw[if_pos rfl,y5n,ye l];rfl
 |.undef::l|.eP _ _ _ _::l|.oS _ _ _::l|.tup _ _::l|.xV _ _::l|.gone::l|.nO _ _::l|.nP _ _ _ _ _::l=>ye l
 |.sR β::l=>by
  show (if (decide (β=β))=true then yU l l else none)=some (y2T l)
  rw[if_pos (by simp),ye l]
 |.nils::l=>ye l
 |.bP β o::l=>by
  show (if (decide (β=β) && decide (o=o))=true then yU l l else none)=some (y2T l)
  rw[if_pos (by simp),ye l]
 |.own β::l=>by
  show (if (decide (β=β))=true then yU l l else none)=some (y2T l)
  rw[if_pos (by simp),ye l]
 |.mO β::l=>by
  show (if (decide (β=β))=true then yU l l else none)=some (y2T l)
  rw[if_pos (by simp),ye l]
 |.yld β::l=>by
  show (if (decide (β=β))=true then yU l l else none)=some (y2T l)
  rw[if_pos (by simp),ye l]
 |.meth f β::l=>by
  show (if (decide (f=f) && decide (β=β))=true then yU l l else none)=some (y2T l)
  rw[if_pos (by simp),ye l]
 |.mP β e::l=>by
  show (if (decide (β=β) && decide (e=e))=true then yU l l else none)=some (y2T l)
  rw[if_pos (by simp),ye l]
theorem yu:∀ l:List (Option Chunk),yb l l=some (y2Q l)
 |[]=>rfl
 |some (.box t cells)::l=>by
  show ((if t=t then yU cells cells else none).bind λ y=>(yb l l).map λ z=>(y,z))=_
  rw[if_pos rfl,ye,yu l];rfl
 |some (.arr e t xs nn)::l=>by
  show ((if e=e/\(nn=true->nn=true)then y3L (.slice t) (.slice t) xs else none).bind λ y=>(yb l l).map λ z=>(y,z))=_
  rw[if_pos ⟨rfl,λ h=>h⟩,y2f,yu l];rfl
 |some (.mp k v es)::l=>by
  show ((y3L (.map k v) (.map k v) es).bind λ y=>(yb l l).map λ z=>(y,z))=_
  rw[y2f,yu l];rfl
 |some (.it bs q)::l=>by
  show ((some (bs,q)).bind λ y=>(yb l l).map λ z=>(y,z))=_
  rw[yu l];rfl
 |some (.lp i info cells st)::l=>by
  show ((if i=i/\st=st then yU cells cells else none).bind λ y=>(yb l l).map λ z=>(y,z))=_
  rw[if_pos ⟨rfl,rfl⟩,ye,yu l];rfl
 |some (.mps k e u es none)::l=>by
  show ((if e=e then y3L (.map k (.slice u)) (.map k (.slice u)) es else none).bind λ y=>(yb l l).map λ z=>(y,z))=_
  rw[if_pos rfl,y2f,yu l];rfl
 |some (.rcd t cells)::l=>by
  show ((if t=t then yU cells cells else none).bind λ y=>(yb l l).map λ z=>(y,z))=_
  rw[if_pos rfl,ye,yu l];rfl
 |some (.nst e t o e' u xs)::l=>by
  show ((if e=e/\o=o/\e'=e'/\u=u then y3L (.slice t) (.slice t) xs else none).bind λ y=>(yb l l).map λ z=>(y,z))=_
  rw[if_pos ⟨rfl,rfl,rfl,rfl⟩,y2f,yu l];rfl
 |some (.mps _ _ _ _ (some _))::l=>yu l
 |none::l=>yu l
theorem yKc(s:St):stAs s s=some (stX s):=by
 unfold stAs;rw[if_neg (λ h=>h.2 h.1),ye,yu,ye];rfl
theorem Rel.freezeMs:∀ (n:Nat) {s:St},Rel P A0 w0 ρ s a w->Rel P A0 w0 ρ (Vx.freezeMs n s) a w
 |0,_,h=>h
 |n+1,s,h=>by
  unfold Vx.freezeMs;refine Rel.freezeMs n ?_
  split
  ·exact h.freeze n
  ·exact h
theorem Rel.frz(h:Rel P A0 w0 ρ s a w)(c:Code):Rel P A0 w0 ρ (frzS c s) a w:=by
 unfold frzS;split
 ·exact h
 ·exact h.freezeMs _
theorem Rel.frzK:∀ (keep:List Nat) {s:St},Rel P A0 w0 ρ s a w->Rel P A0 w0 ρ (Vx.frzK keep s) a w
 |[],_,h=>h
 |k::l,s,h=>by
  unfold Vx.frzK;refine Rel.frzK l ?_
  split
  ·exact h.settle _
  ·exact h
theorem yHI(h:Rel P A0 w0 ρ s a w)(c:Code)(keep:List Nat):∃ ρ',Rel P A0 w0 ρ' (y7Z c keep s) a w:=by
 obtain ⟨ρ',h1⟩:=((h.frz c).frzK keep).canon keep;refine ⟨ρ',h1.size,h1.slots,h1.cH,h1.inj,h1.names,h1.cN,h1.below,h1.dom,?_,h1.dep,h1.lpi,h1.round,h1.glob,h1.kZ,h1.kS,h1.kN,h1.subs⟩;obtain ⟨ms,⟨q1,q2,q3⟩,q4⟩:=h1.defers;refine ⟨ms,⟨q1,λ h0=>?_,q3⟩,q4⟩
 unfold y7Z at h0;dsimp only at h0;split at h0
 ·cases h0
 ·exact q2 h0
theorem yM2(h:Rel P A0 w0 ρ s a w)(keep:List Nat):(canon keep s).Ok:=by
 obtain ⟨ρ',h1⟩:=yAW h keep;exact ⟨h1.names,h1.cN,h1.kN⟩
end
end Go.Vx
end
section
namespace Go.Vx
open Go.RowKit
variable [GT]
section
variable {P:Program} {A0:Nat->Prop} {w0:Base} {ρ:Places} {s:St} {a:Act} {w w':World} {g:G}
omit [GT] in
theorem y1c:∀ (D:List Nat) (cs:List (Option Chunk)),(yA2 D cs).length=cs.length
 |[],_=>rfl
 |β::D,cs=>(y1c D (cs.set β none)).trans (by simp)
omit [GT] in
theorem yCi:∀ (D:List Nat) (cs:List (Option Chunk)) {γ:Nat} {c:Chunk},(yA2 D cs)[γ]?=some (some c)->γ ∉ D/\cs[γ]?=some (some c)
 |[],_,_,_,h=>⟨by simp,h⟩
 |β::D,cs,γ,c,h=>by
  obtain ⟨h1,h2⟩:=yCi D (cs.set β none) h;by_cases hb:β=γ
  ·subst hb;rw[List.getElem?_set]at h2;simp at h2
  ·rw[getElem?_set_ne hb]at h2;exact ⟨by simp only[mem_cons,not_or];exact ⟨λ e=>hb e.symm,h1⟩,h2⟩
theorem Rel.merge(h:Rel P A0 w0 ρ s a w)(D:List Nat){ch':Chunk}{p:Place}(ho:w'.os=w.os)(ht:w'.tape=w.tape)(hu:w'.output=w.output)(hsz:w.heap.size<=w'.heap.size)
  (hblk:∀ n,n < w.heap.size->(∀ β∈D,(ρ β).blk≠some n)->w'.heap[n]?=w.heap[n]?)
  (hD:∀ β∈D,∃ c,s.cH[β]?=some (some c)/\c.lpNo=none)
  (hp:∀ b,p.blk=some b->(∃ β∈D,(ρ β).blk=some b)\/w.heap.size<=b)
  (hps:∀ n,some n∈p.subs->∃ β∈D,(ρ β).blk=some n\/some n∈(ρ β).subs)
  (hpa:∀ n,some n∈p.subs->p.blk≠some n) (hpm:ch'.isM=false->p.subs=[])
  (hi:ch'.inn s.cH.length) (hlp:ch'.lpNo=none)
  (hc:∀ A,(∀ n,n < w.heap.size->A n->Av A0 ρ s.cH n)->yC P A w' ρ p ch') :
  Rel P A0 w0 (ρ.set s.cH.length p) { s with cH:=yA2 D s.cH++[some ch'] } a w':=by
 have hlen:=y1c D s.cH;have he:∀ γ,γ < s.cH.length->ρ.set s.cH.length p γ=ρ γ:=λ γ hγ=>Places.set_lt ρ p hγ
 have hcs:∀ (γ:Nat) (c:Chunk),(yA2 D s.cH++[some ch'])[γ]?=some (some c)->(γ ∉ D/\γ < s.cH.length/\s.cH[γ]?=some (some c))\/(γ=s.cH.length/\c=ch'):=by
  intro γ c hg;rcases yV hg with ⟨h1,h2⟩|⟨h1,h2⟩
  ·obtain ⟨h3,h4⟩:=yCi D _ h2;exact .inl ⟨h3,hlen ▸ h1,h4⟩
  ·exact .inr ⟨hlen ▸ h1,h2⟩
 have hnb:∀ (γ:Nat) (c:Chunk),γ ∉ D->s.cH[γ]?=some (some c)->∀ b,(ρ γ).blk=some b->∀ β∈D,(ρ β).blk≠some b:=by
  intro γ c hne hgc b hb β hβ hbb;obtain ⟨d,hd,_⟩:=hD β hβ;exact hne (h.inj γ β c d hgc hd (hb.trans hbb.symm) (by rw[hb];simp) ▸ hβ)
 have hnA:∀ n,¬ Av A0 ρ s.cH n->∀ β∈D,(ρ β).blk≠some n:=λ n hn β hβ hb=>by
  obtain ⟨d,hd,_⟩:=hD β hβ;exact hn (.inr ⟨β,d,hd,hb⟩)
 have hA:∀ n,n < w.heap.size->Av A0 (ρ.set s.cH.length p) (yA2 D s.cH++[some ch']) n->Av A0 ρ s.cH n:=by
  rintro n hn ((h0|⟨γ,c,hb,hbn⟩)|⟨γ,c,hb,hbn⟩)
  ·exact .inl (.inl h0)
  ·rcases hcs γ c hb with ⟨h1,h2,h3⟩|⟨rfl,rfl⟩
   ·rw[he γ h2]at hbn;exact .inl (.inr ⟨γ,c,h3,hbn⟩)
   ·rw[Places.set_self]at hbn;obtain ⟨β,hβ,hb|hb⟩:=hps n hbn
    ·obtain ⟨d,hd,_⟩:=hD β hβ;exact .inr ⟨β,d,hd,hb⟩
    ·obtain ⟨d,hd,_⟩:=hD β hβ;exact .inl (.inr ⟨β,d,hd,hb⟩)
  ·rcases hcs γ c hb with ⟨h1,h2,h3⟩|⟨rfl,rfl⟩
   ·rw[he γ h2]at hbn;exact .inr ⟨γ,c,h3,hbn⟩
   ·rw[Places.set_self]at hbn;rcases hp n hbn with ⟨β,hβ,h1⟩|h1
    ·obtain ⟨d,hd,_⟩:=hD β hβ;exact .inr ⟨β,d,hd,h1⟩
    ·omega
 have hK:Keep (Av A0 ρ s.cH) w w':=λ n hn hnA'=>hblk n hn (hnA n hnA')
 have hbase:∀ β∈D,∀ b,(ρ β).blk=some b->w0.w.heap.size<=b:=λ β hβ b hb=>by
  obtain ⟨d,hd,_⟩:=hD β hβ;exact (h.cH β d hd).2 b hb
 have hmk:∀ r:Nat,w.heap[r]?=some (Obj.deferred (some []))->w'.heap[r]?=some (Obj.deferred (some [])):=λ r hr=>by
  refine (hblk r (yM hr) λ β hβ hb=>?_).trans hr
  obtain ⟨d,hd,_⟩:=hD β hβ;exact (h.cH β d hd).1.no_mark hb hr
 refine ⟨h.size,λ i sv hs=>((h.slots i sv hs).congr he (h.names i sv hs)).mono hK hA,λ γ c hgc=>?_,λ γ δ c d hgc hd hbg hne=>?_,λ i sv hs=>SV.inn_mono (by simp[hlen]) (h.names i sv hs),λ γ c hgc=>?_,
  ⟨ho.trans h.below.os,ht.trans h.below.tape,hu.trans h.below.output,Nat.le_trans h.below.size hsz,λ n hn=>(hblk n (Nat.lt_of_lt_of_le hn h.below.size) (λ β hβ e=>by have:=hbase β hβ n e;omega)).trans (h.below.block n hn)⟩,h.dom,(let ⟨_,hm⟩:=h.defers;y1X hm hmk),h.dep,(λ γ c q hc hq=>by
   rcases hcs γ c hc with ⟨_,_,h3⟩|⟨_,rfl⟩
   ·exact h.lpi γ c q h3 hq
   ·rw[hlp]at hq;cases hq),(λ l hl=>by
   obtain ⟨r,hr⟩:=h.round l hl;refine ⟨r,(hblk l (yM hr) λ β hβ hb=>?_).trans hr⟩
   obtain ⟨d,hd,hdl⟩:=hD β hβ;exact (h.cH β d hd).1.no_loop hdl hb hr),h.glob,h.kZ,λ i sv hs=>((h.kS i sv hs).congr he (h.kN i sv hs)).mono hK hA,λ i sv hs=>SV.inn_mono (by simp[hlen]) (h.kN i sv hs),⟨λ γ c hgc hm=>?_,λ γ c n hgc hn=>?_,λ γ δ c d n hgc hd hn=>?_,λ γ δ c d n hgc hd hn hn2=>?_⟩⟩
 ·rcases hcs γ c hgc with ⟨h1,h2,h3⟩|⟨rfl,rfl⟩
  ·rw[he γ h2];refine ⟨?_,(h.cH γ c h3).2⟩;have h4:=(h.cH γ c h3).1.congr he (h.cN γ c h3);refine h4.frame (λ n hn hl=>hblk n hl (hnb γ c h1 h3 n hn)) (λ n hn hl=>hblk n hl λ β hβ hb=>?_) hK hA
   obtain ⟨d,hd,_⟩:=hD β hβ;exact h.subs.apart γ β c d n h3 hd hn hb
  ·rw[Places.set_self];refine ⟨(hc _ hA).congr he hi,λ b hb=>?_⟩
   rcases hp b hb with ⟨β,hβ,h1⟩|h1
   ·exact hbase β hβ b h1
   ·exact Nat.le_trans h.below.size h1
 ·have new:∀ (γ:Nat) (c:Chunk),γ ∉ D->s.cH[γ]?=some (some c)->(ρ γ).blk=p.blk->(ρ γ).blk=none:=by
   intro γ c hne hgc hbp;cases hq:(ρ γ).blk with
   |none=>rfl
   |some b =>
    rcases hp b (hbp ▸ hq)with ⟨β,hβ,h1⟩|h1
    ·exact absurd h1 (hnb γ c hne hgc b hq β hβ)
    ·have:=(h.cH γ c hgc).1.lt hq;omega
  rcases hcs γ c hgc with ⟨h1,h2,h3⟩|⟨h1,_⟩<;>rcases hcs δ d hd with ⟨h4,h5,h6⟩|⟨h4,_⟩
  ·rw[he γ h2,he δ h5]at hbg;rw[he γ h2]at hne;exact h.inj γ δ c d h3 h6 hbg hne
  ·subst h4;rw[he γ h2,Places.set_self]at hbg;rw[he γ h2]at hne;exact absurd (new γ c h1 h3 hbg) hne
  ·subst h1;rw[he δ h5,Places.set_self]at hbg;rw[Places.set_self]at hne;exact absurd (hbg.trans (new δ d h4 h6 hbg.symm)) hne
  ·omega
 ·rcases hcs γ c hgc with ⟨h1,h2,h3⟩|⟨rfl,rfl⟩
  ·exact Chunk.inn_mono (by simp[hlen]) (h.cN γ c h3)
  ·exact Chunk.inn_mono (by simp[hlen]) hi
 ·rcases hcs γ c hgc with ⟨h1,h2,h3⟩|⟨rfl,rfl⟩
  ·rw[he γ h2];exact h.subs.plain γ c h3 hm
  ·rw[Places.set_self];exact hpm hm
 ·rcases hcs γ c hgc with ⟨h1,h2,h3⟩|⟨rfl,rfl⟩
  ·rw[he γ h2]at hn;exact h.subs.base γ c n h3 hn
  ·rw[Places.set_self]at hn;obtain ⟨β,hβ,hb|hb⟩:=hps n hn
   ·exact hbase β hβ n hb
   ·obtain ⟨d,hd,_⟩:=hD β hβ;exact h.subs.base β d n hd hb
 ·rcases hcs γ c hgc with ⟨h1,h2,h3⟩|⟨rfl,rfl⟩
  ·rw[he γ h2]at hn;rcases hcs δ d hd with ⟨h4,h5,h6⟩|⟨rfl,rfl⟩
   ·rw[he δ h5];exact h.subs.apart γ δ c d n h3 h6 hn
   ·rw[Places.set_self];intro hpn;rcases hp n hpn with ⟨β,hβ,h7⟩|h7
    ·obtain ⟨d',hd',_⟩:=hD β hβ;exact h.subs.apart γ β c d' n h3 hd' hn h7
    ·have:=h.sub_lt h3 hn;omega
  ·rw[Places.set_self]at hn;rcases hcs δ d hd with ⟨h4,h5,h6⟩|⟨rfl,rfl⟩
   ·rw[he δ h5];obtain ⟨β,hβ,hb|hb⟩:=hps n hn
    ·intro hq;exact hnb δ d h4 h6 n hq β hβ hb
    ·obtain ⟨d',hd',_⟩:=hD β hβ;exact h.subs.apart β δ d' d n hd' h6 hb
   ·rw[Places.set_self];exact hpa n hn
 ·have key:∀ (δ:Nat) (d:Chunk),δ ∉ D->s.cH[δ]?=some (some d)->some n∈(ρ δ).subs->some n∈p.subs->False:=by
   intro δ d h1 h2 h3 h4;obtain ⟨β,hβ,hb|hb⟩:=hps n h4
   ·obtain ⟨d',hd',_⟩:=hD β hβ;exact h.subs.apart δ β d d' n h2 hd' h3 hb
   ·obtain ⟨d',hd',_⟩:=hD β hβ;exact h1 (h.subs.one δ β d d' n h2 hd' h3 hb ▸ hβ)
  rcases hcs γ c hgc with ⟨h1,h2,h3⟩|⟨rfl,rfl⟩
  ·rw[he γ h2]at hn;rcases hcs δ d hd with ⟨h4,h5,h6⟩|⟨rfl,rfl⟩
   ·rw[he δ h5]at hn2;exact h.subs.one γ δ c d n h3 h6 hn hn2
   ·rw[Places.set_self]at hn2;exact (key γ c h1 h3 hn hn2).elim
  ·rw[Places.set_self]at hn;rcases hcs δ d hd with ⟨h4,h5,h6⟩|⟨rfl,rfl⟩
   ·rw[he δ h5]at hn2;exact (key δ d h4 h6 hn2 hn).elim
   ·rfl
theorem Rel.writeSub(h:Rel P A0 w0 ρ s a w){β b:Nat}{ch ch':Chunk}(hβ:s.cH[β]?=some (some ch))(hb:some b∈(ρ β).subs)
  (hk:∀ n,n≠b->w'.heap[n]?=w.heap[n]?) (hsz:w'.heap.size=w.heap.size) (ho:w'.os=w.os) (ht:w'.tape=w.tape) (hu:w'.output=w.output) (hi:ch'.inn s.cH.length)
  (hc:∀ A,(∀ n,A n ↔ Av A0 ρ s.cH n)->yC P A w' ρ (ρ β) ch') (hlp:ch'.lpNo=ch.lpNo:=by rfl) (him:ch'.isM=ch.isM:=by rfl):Rel P A0 w0 ρ { s with cH:=s.cH.set β (some ch') } a w':=by
 have hβl:β < s.cH.length:=(List.getElem?_eq_some_iff.1 hβ).1;obtain ⟨vs0,e0,hcell⟩:=h.sub_cells hβ hb;have hcs:∀ (γ:Nat) (c:Chunk),(s.cH.set β (some ch'))[γ]?=some (some c)->(γ=β/\c=ch')\/(γ≠β/\s.cH[γ]?=some (some c)):=by
  intro γ c hg;by_cases hbg:β=γ
  ·subst hbg;rw[getElem?_set_self hβl]at hg;cases hg;exact .inl ⟨rfl,rfl⟩
  ·rw[getElem?_set_ne hbg]at hg;exact .inr ⟨λ e=>hbg e.symm,hg⟩
 have old:∀ (γ:Nat) (c:Chunk),(s.cH.set β (some ch'))[γ]?=some (some c)->∃ c',s.cH[γ]?=some (some c')/\(c.isM=false->c'.isM=false):=by
  intro γ c hg;rcases hcs γ c hg with ⟨rfl,rfl⟩|⟨_,hg⟩
  ·exact ⟨ch,hβ,λ e=>him ▸ e⟩
  ·exact ⟨c,hg,id⟩
 have new:∀ (γ:Nat) (c:Chunk),s.cH[γ]?=some (some c)->∃ c',(s.cH.set β (some ch'))[γ]?=some (some c'):=by
  intro γ c hg;by_cases hbg:β=γ
  ·subst hbg;exact ⟨ch',getElem?_set_self hβl⟩
  ·exact ⟨c,by rw[getElem?_set_ne hbg];exact hg⟩
 have hA:∀ n,Av A0 ρ (s.cH.set β (some ch')) n ↔ Av A0 ρ s.cH n:=by
  intro n;constructor
  ·rintro ((h0|⟨γ,c,hg,hbn⟩)|⟨γ,c,hg,hbn⟩)
   ·exact .inl (.inl h0)
   ·obtain ⟨c',h1,_⟩:=old γ c hg;exact .inl (.inr ⟨γ,c',h1,hbn⟩)
   ·obtain ⟨c',h1,_⟩:=old γ c hg;exact .inr ⟨γ,c',h1,hbn⟩
  ·rintro ((h0|⟨γ,c,hg,hbn⟩)|⟨γ,c,hg,hbn⟩)
   ·exact .inl (.inl h0)
   ·obtain ⟨c',h1⟩:=new γ c hg;exact .inl (.inr ⟨γ,c',h1,hbn⟩)
   ·obtain ⟨c',h1⟩:=new γ c hg;exact .inr ⟨γ,c',h1,hbn⟩
 have hAb:Av A0 ρ s.cH b:=.inl (.inr ⟨β,ch,hβ,hb⟩);have hK:Keep (Av A0 ρ s.cH) w w':=λ n _ hn=>hk n (λ e=>hn (e ▸ hAb))
 have hA1:∀ n,n < w.heap.size->Av A0 ρ (s.cH.set β (some ch')) n->Av A0 ρ s.cH n:=λ n _ hn=>(hA n).1 hn
 have hbw:w0.w.heap.size<=b:=h.subs.base β ch b hβ hb;refine ⟨h.size,λ i sv hs=>(h.slots i sv hs).mono hK hA1,λ γ c hg=>?_,λ γ δ c d hg hd hbg hne=>?_,λ i sv hs=>by simpa using h.names i sv hs,λ γ c hg=>?_,⟨ho.trans h.below.os,ht.trans h.below.tape,hu.trans h.below.output,hsz ▸ h.below.size,λ n hn=>(hk n (by omega)).trans (h.below.block n hn)⟩,h.dom,
  (let ⟨_,hm⟩:=h.defers;y1X hm λ r hr=>(hk r λ e=>by subst e;rw[hcell]at hr;cases hr).trans hr),h.dep,(λ γ c q hg hq=>?_),(λ l hl=>by
  obtain ⟨r,hr⟩:=h.round l hl;exact ⟨r,(hk l λ e=>by subst e;rw[hcell]at hr;cases hr).trans hr⟩),h.glob,h.kZ,λ i sv hs=>(h.kS i sv hs).mono hK hA1,λ i sv hs=>by simpa using h.kN i sv hs,h.subs.sub old⟩
 ·rcases hcs γ c hg with ⟨rfl,rfl⟩|⟨hne,hg⟩
  ·exact ⟨hc _ hA,(h.cH γ ch hβ).2⟩
  ·refine ⟨(h.cH γ c hg).1.frame (λ n hn _=>hk n λ e=>?_) (λ n hn _=>hk n λ e=>?_) hK hA1,(h.cH γ c hg).2⟩
   ·subst e;exact h.subs.apart β γ ch c n hβ hg hb hn
   ·subst e;exact hne (h.subs.one γ β c ch n hg hβ hn hb)
 ·obtain ⟨c1,h1,_⟩:=old γ c hg;obtain ⟨c2,h2,_⟩:=old δ d hd;exact h.inj γ δ c1 c2 h1 h2 hbg hne
 ·rcases hcs γ c hg with ⟨rfl,rfl⟩|⟨_,hg⟩
  ·simpa using hi
  ·simpa using h.cN γ c hg
 ·rcases hcs γ c hg with ⟨rfl,rfl⟩|⟨_,hg⟩
  ·exact h.lpi γ ch q hβ (hlp ▸ hq)
  ·exact h.lpi γ c q hg hq
theorem yC.mapS{A A':Nat->Prop}{p:Place}{ch:Chunk}{f:SV->SV}(hA:∀ n,n < w.heap.size->A' n->A n)(hf:∀ sv v,yE P A w ρ sv v->yE P A w ρ (f sv) v)(h:yC P A w ρ p ch):yC P A' w ρ p (ch.map f):=by
 have hm:∀ sv v,yE P A w ρ sv v->yE P A' w ρ (f sv) v:=λ sv v h=>(hf sv v h).mono (λ _ _ _=>rfl) hA
 have same:∀ c:Chunk,yC P A w ρ p c->yC P A' w ρ p c:=λ c h=>h.frame (λ _ _ _=>rfl) (λ _ _ _=>rfl) (λ _ _ _=>rfl) hA
 have cells:∀ (l:List SV) (i:Nat) (sv:SV),(l.map f)[i]?=some sv->∃ sv',l[i]?=some sv'/\f sv'=sv:=λ l i sv hi=>by
  rw[getElem?_map,map_eq_some_iff]at hi;exact hi
 cases ch with
 |box t l =>
  obtain ⟨b,vs,e,hb,h1,⟨h2,h2'⟩,h3⟩:=h;refine ⟨b,vs,e,hb,h1,⟨by rw[length_map];exact h2,h2'⟩,λ i sv hi=>?_⟩
  obtain ⟨sv',h4,rfl⟩:=cells _ _ _ hi;obtain ⟨v,h5,h6⟩:=h3 i sv' h4;exact ⟨v,h5,hm _ _ h6⟩
 |rcd t l =>
  obtain ⟨h1,h2,h2',h3⟩:=h;refine ⟨h1,by rw[length_map];exact h2,by rw[length_map];exact h2',λ i sv hi=>?_⟩
  obtain ⟨sv',h4,rfl⟩:=cells _ _ _ hi;obtain ⟨v,h5,h6⟩:=h3 i sv' h4;exact ⟨v,h5,hm _ _ h6⟩
 |lp i info l st =>
  obtain ⟨b,r,hb,h1,h2,h2',h3⟩:=h;refine ⟨b,r,hb,h1,h2,by rw[length_map];exact h2',λ i sv hi=>?_⟩
  obtain ⟨sv',h4,rfl⟩:=cells _ _ _ hi;obtain ⟨v,h5,h6⟩:=h3 i sv' h4;exact ⟨v,h5,hm _ _ h6⟩
 |arr e t xs nn=>exact same (.arr e t xs nn) h
 |mp k v es=>exact same (.mp k v es) h
 |it bs q=>exact same (.it bs q) h
 |mps k e u es hole=>exact same (.mps k e u es hole) h
 |nst e t q e' u xs=>exact same (.nst e t q e' u xs) h
omit [GT] in
theorem St.mapS_slots(s:St)(f:SV->SV):(s.mapS f).slots=s.slots.map f:=Slots.toList_map _ _
omit [GT] in
theorem y3s{cs:List (Option Chunk)}{f:SV->SV}{β:Nat}{c:Chunk}(h:(cs.map (Option.map (Chunk.map f)))[β]?=some (some c)):∃ c',cs[β]?=some (some c')/\c=c'.map f:=by
 rw[getElem?_map,map_eq_some_iff]at h;obtain ⟨o,h1,h2⟩:=h;cases o with
 |none=>cases h2
 |some c'=>exact ⟨c',h1,by cases h2;rfl⟩
theorem Rel.mapS(h:Rel P A0 w0 ρ s a w)(f:SV->SV)(hf:∀ sv v,yE P (Av A0 ρ s.cH) w ρ sv v->yE P (Av A0 ρ s.cH) w ρ (f sv) v)(hin:∀ sv:SV,sv.inn s.cH.length->(f sv).inn s.cH.length):Rel P A0 w0 ρ (s.mapS f) a w:=by
 have hlen:(s.mapS f).cH.length=s.cH.length:=by simp[St.mapS]
 have hA:∀ n,Av A0 ρ (s.mapS f).cH n->Av A0 ρ s.cH n:=by
  rintro n ((h0|⟨β,c,hb,hn⟩)|⟨β,c,hb,hn⟩)
  ·exact .inl (.inl h0)
  ·obtain ⟨c',h1,_⟩:=y3s hb;exact .inl (.inr ⟨β,c',h1,hn⟩)
  ·obtain ⟨c',h1,_⟩:=y3s hb;exact .inr ⟨β,c',h1,hn⟩
 have hm:∀ sv v,yE P (Av A0 ρ s.cH) w ρ sv v->yE P (Av A0 ρ (s.mapS f).cH) w ρ (f sv) v:=λ sv v h=>(hf sv v h).mono (λ _ _ _=>rfl) λ n _ hn=>hA n hn
 have hlp:∀ c:Chunk,(c.map f).lpNo=c.lpNo:=λ c=>by cases c<;>rfl
 have hisM:∀ c:Chunk,(c.map f).isM=c.isM:=λ c=>by cases c<;>rfl
 have hci:∀ c:Chunk,c.inn s.cH.length->(c.map f).inn s.cH.length:=λ c hc=>by
  cases c<;>first|exact hc|(intro sv hs;obtain ⟨sv',h1,rfl⟩:=mem_map.1 hs;exact hin _ (hc _ h1))
 refine h.weak (ρ':=ρ) ⟨?_,λ i sv sv' v h1 h2 h3=>?_,λ β ch' hb=>?_,λ β δ c d hb hd=>?_,λ i sv hi=>?_,λ β ch hb=>?_,?_,λ i sv sv' v h1 h2 h3=>?_,λ i sv hi=>?_,rfl,λ h=>h,rfl⟩ (λ β ch q hb hq=>?_)
 ·rw[St.mapS_slots,length_map]
 ·rw[St.mapS_slots,getElem?_map,h1]at h2;cases h2;exact hm _ _ h3
 ·obtain ⟨c',h1,rfl⟩:=y3s hb;exact ⟨β,c',h1,rfl,λ hr=>hr.mapS (λ n _ hn=>hA n hn) hf,hisM c'⟩
 ·obtain ⟨c',h1,rfl⟩:=y3s hb;obtain ⟨d',h2,rfl⟩:=y3s hd;exact h.inj β δ c' d' h1 h2
 ·rw[St.mapS_slots,getElem?_map,map_eq_some_iff]at hi;obtain ⟨sv',h1,rfl⟩:=hi;rw[hlen];exact hin _ (h.names i sv' h1)
 ·obtain ⟨c',h1,rfl⟩:=y3s hb;rw[hlen];exact hci _ (h.cN β c' h1)
 ·show (s.kept.map f).length=_
  rw[length_map]
 ·rw[show (s.mapS f).kept=s.kept.map f from rfl,getElem?_map,h1]at h2
  cases h2;exact hm _ _ h3
 ·rw[show (s.mapS f).kept=s.kept.map f from rfl,getElem?_map,map_eq_some_iff]at hi
  obtain ⟨sv',h1,rfl⟩:=hi;rw[hlen];exact hin _ (h.kN i sv' h1)
 ·obtain ⟨c',h1,rfl⟩:=y3s hb;rw[hlp]at hq;exact h.lpi β c' q h1 hq
end
end Go.Vx
end
section
namespace Go.Vx
open Go.RowKit
variable [GT]
section
variable {P:Program} {A0:Nat->Prop} {w0:Base} {ρ ρ':Places} {s:St} {a:Act} {w w':World} {g:G}
def Same(p q:Place):Prop:=p.blk=q.blk/\p.len=q.len/\p.cap=q.cap/\p.vals=q.vals/\p.ns=q.ns
theorem yd.same{A:Nat->Prop}{n:Nat}(he:∀ β,β < n->Same (ρ' β) (ρ β)):∀ {cs:List Cap} {vs:List Value},y0L n cs->yd P A w ρ cs vs->yd P A w ρ' cs vs
 |[],[],_,_=>trivial
 |[],_::_,_,h=>h
 |_::_,[],_,h=>h
 |.box β::cs,v::vs,hi,h=>⟨by have:=h.1;simp only[yE1]at this ⊢;rw[(he β hi.1).1];exact this,yd.same he hi.2 h.2⟩
 |.val t x::cs,v::vs,hi,h=>⟨h.1,yd.same he hi h.2⟩
theorem yE.same{A:Nat->Prop}{n:Nat}(he:∀ β,β < n->Same (ρ' β) (ρ β)){sv:SV}{v:Value}(hi:sv.inn n)(h:yE P A w ρ sv v):yE P A w ρ' sv v:=by
 cases sv with
 |bP β off=>obtain ⟨e1,e2,e3,e4,e5⟩:=he β hi;simp only[yE]at h ⊢;rw[e1];exact h
 |own β=>obtain ⟨e1,e2,e3,e4,e5⟩:=he β hi;simp only[yE]at h ⊢;rw[e1,e2,e3];exact h
 |mO β=>obtain ⟨e1,e2,e3,e4,e5⟩:=he β hi;simp only[yE]at h ⊢;rw[e1];exact h
 |yld β=>obtain ⟨e1,e2,e3,e4,e5⟩:=he β hi;simp only[yE]at h ⊢;rw[e1];exact h
 |mP β e=>obtain ⟨e1,e2,e3,e4,e5⟩:=he β hi;simp only[yE]at h ⊢;rw[e1,e2];exact h
 |eP β i sz off=>obtain ⟨e1,e2,e3,e4,e5⟩:=he β hi;simp only[yE]at h ⊢;rw[e1];exact h
 |oS β n sz=>obtain ⟨e1,e2,e3,e4,e5⟩:=he β hi;simp only[yE]at h ⊢;rw[e1,e2,e3];exact h
 |sR β=>obtain ⟨e1,e2,e3,e4,e5⟩:=he β hi;simp only[yE]at h ⊢;rw[e2,e4];exact h
 |nO β i=>obtain ⟨e1,e2,e3,e4,e5⟩:=he β hi;simp only[yE]at h ⊢;rw[e5];exact h
 |nP β i j sz off=>obtain ⟨e1,e2,e3,e4,e5⟩:=he β hi;simp only[yE]at h ⊢;rw[e5];exact h
 |meth f β=>obtain ⟨e1,e2,e3,e4,e5⟩:=he β hi;simp only[yE]at h ⊢;rw[e1];exact h
 |clo f caps=>obtain ⟨vs,h2,h3⟩:=h;exact ⟨vs,h2,h3.same he hi⟩
 |_=>exact h
theorem yC.same{A:Nat->Prop}{n:Nat}(he:∀ β,β < n->Same (ρ' β) (ρ β)){p:Place}{ch:Chunk}(hi:ch.inn n)(h:yC P A w ρ p ch):yC P A w ρ' p ch:=by
 cases ch with
 |box t cells =>
  obtain ⟨b,vs,e,hb,h1,h2,h3⟩:=h;exact ⟨b,vs,e,hb,h1,h2,λ i sv hs=>let ⟨v,hv,hr⟩:=h3 i sv hs;⟨v,hv,hr.same he (hi sv (mem_of_getElem? hs))⟩⟩
 |lp i info cells st =>
  obtain ⟨b,r,hb,h1,h2,h3,h4⟩:=h;exact ⟨b,r,hb,h1,h2,h3,λ i sv hs=>let ⟨v,hv,hr⟩:=h4 i sv hs;⟨v,hv,hr.same he (hi sv (mem_of_getElem? hs))⟩⟩
 |arr e t xs nn=>simpa only[yC]using h
 |mp k v es=>simpa only[yC]using h
 |it bs q=>simpa only[yC]using h
 |mps k e u es hole =>
  obtain ⟨b,ms,c,hb,h1,h2,⟨h3,h4⟩,h5⟩:=h;refine ⟨b,ms,c,hb,h1,h2,⟨h3,λ q hq hx=>?_⟩,λ i x hx=>?_⟩
  ·obtain ⟨e1,e2,e3,e4,e5⟩:=he _ (hi q hq);rw[e1,e2,e3];exact h4 q hq hx
  ·obtain ⟨en,o,h6,h7,h8,h9⟩:=h5 i x hx;refine ⟨en,o,h6,h7,h8,?_⟩;rcases h9 with ⟨q,hq,h9,h10,h11⟩|h9
   ·obtain ⟨e1,e2,e3,e4,e5⟩:=he _ (hi q hq);exact .inl ⟨q,hq,h9,h10,by rw[e1,e2,e3];exact h11⟩
   ·exact .inr h9
 |rcd t cells =>
  obtain ⟨h1,h2,h3,h4⟩:=h;exact ⟨h1,h2,h3,λ i sv hs=>let ⟨v,hv,hr⟩:=h4 i sv hs;⟨v,hv,hr.same he (hi sv (mem_of_getElem? hs))⟩⟩
 |nst e t o e' u xs=>simpa only[yC]using h
theorem yCe{cs:List (Option Chunk)}{β:Nat}{c:Chunk}(h:cs[β]?=some (some c)):β < cs.length:=by
 rcases lt_or_ge β cs.length with hl|hl
 ·exact hl
 ·rw[List.getElem?_eq_none hl]at h;cases h
theorem Rel.absorb(h:Rel P A0 w0 ρ s a w){β γ b:Nat}{k u:Ty}{e:TypeId}{es es':List (k.den×List u.den)}{hole:Option (k.den×Nat)}{xs:List u.den}{nn:Bool}{ms:Array MapEntry}{c:Nat}
  (hc:s.cH[β]?=some (some (.mps k e u es hole))) (hg:s.cH[γ]?=some (some (.arr e u xs nn))) (hb:(ρ β).blk=some b) (hm:w.heap[b]?=some (.map ms c)) {S:List (Option Nat)}
  (hS:∀ n,some n∈S->some n∈(ρ β).subs\/(ρ γ).blk=some n)
  (hk:∀ n,n≠b->w'.heap[n]?=w.heap[n]?) (hsz:w'.heap.size=w.heap.size) (ho:w'.os=w.os) (ht:w'.tape=w.tape) (hu:w'.output=w.output)
  (hr:∀ A,(∀ n,A n->Av A0 ρ s.cH n)->yC P A w' ρ { ρ β with subs:=S } (.mps k e u es' none)) :
  Rel P A0 w0 (ρ.set β { ρ β with subs:=S }) { s with cH:=(s.cH.set γ none).set β (some (.mps k e u es' none)) } a w':=by
 have hβ:=yCe hc;have hγ:=yCe hg;have hbg:β≠γ:=λ e'=>by subst e';rw[hc]at hg;cases hg
 have hsame:∀ δ,Same (ρ.set β { ρ β with subs:=S } δ) (ρ δ):=λ δ=>by
  unfold Places.set;split
  ·rename_i e';subst e';exact ⟨rfl,rfl,rfl,rfl,rfl⟩
  ·exact ⟨rfl,rfl,rfl,rfl,rfl⟩
 have hne:∀ δ,δ≠β->ρ.set β { ρ β with subs:=S } δ=ρ δ:=λ δ hd=>by unfold Places.set;rw[if_neg hd]
 have hcs:∀ (δ:Nat) (c:Chunk),((s.cH.set γ none).set β (some (.mps k e u es' none)))[δ]?=some (some c)->(δ=β/\c=.mps k e u es' none)\/(δ≠β/\δ≠γ/\s.cH[δ]?=some (some c)):=by
  intro δ c hd;by_cases h1:β=δ
  ·subst h1;rw[getElem?_set_self (by simpa using hβ)]at hd
   cases hd;exact .inl ⟨rfl,rfl⟩
  ·rw[getElem?_set_ne h1]at hd;by_cases h2:γ=δ
   ·subst h2;rw[getElem?_set_self hγ]at hd;cases hd
   ·rw[getElem?_set_ne h2]at hd;exact .inr ⟨Ne.symm h1,Ne.symm h2,hd⟩
 have hA:∀ n,Av A0 (ρ.set β { ρ β with subs:=S }) ((s.cH.set γ none).set β (some (.mps k e u es' none))) n->Av A0 ρ s.cH n:=by
  rintro n ((h0|⟨δ,c,hd,hn⟩)|⟨δ,c,hd,hn⟩)
  ·exact .inl (.inl h0)
  ·rcases hcs δ c hd with ⟨rfl,rfl⟩|⟨h1,_,hd⟩
   ·rw[Places.set_self]at hn;rcases hS n hn with hn|hn
    ·exact .inl (.inr ⟨δ,_,hc,hn⟩)
    ·exact .inr ⟨γ,_,hg,hn⟩
   ·rw[hne δ h1]at hn;exact .inl (.inr ⟨δ,c,hd,hn⟩)
  ·rw[(hsame δ).1]at hn;rcases hcs δ c hd with ⟨rfl,rfl⟩|⟨h1,_,hd⟩
   ·exact .inr ⟨δ,_,hc,hn⟩
   ·exact .inr ⟨δ,c,hd,hn⟩
 have hA1:∀ n,n < w.heap.size->Av A0 (ρ.set β { ρ β with subs:=S }) ((s.cH.set γ none).set β (some (.mps k e u es' none))) n->Av A0 ρ s.cH n:=λ n _ hn=>hA n hn
 have hAb:Av A0 ρ s.cH b:=.inr ⟨β,_,hc,hb⟩;have hK:Keep (Av A0 ρ s.cH) w w':=λ n _ hn=>hk n (λ e=>hn (e ▸ hAb))
 have hbw:w0.w.heap.size<=b:=(h.cH β _ hc).2 b hb;have hlen:((s.cH.set γ none).set β (some (.mps k e u es' none))).length=s.cH.length:=by simp
 refine ⟨h.size,λ i sv hs=>((h.slots i sv hs).mono hK hA1).same (λ δ _=>hsame δ) (h.names i sv hs),λ δ c hd=>?_,λ δ ε c d hd he hbe hnn=>?_,λ i sv hs=>by rw[hlen];exact h.names i sv hs,λ δ c hd=>?_,
  ⟨ho.trans h.below.os,ht.trans h.below.tape,hu.trans h.below.output,hsz ▸ h.below.size,λ n hn=>(hk n (by omega)).trans (h.below.block n hn)⟩,h.dom,
  (let ⟨_,hm⟩:=h.defers;y1X hm λ r hr=>(hk r λ e=>(h.cH β _ hc).1.no_mark hb (e ▸ hr)).trans hr),h.dep,(λ δ c q hd hq=>?_),(λ l hl=>?_),h.glob,h.kZ,
  λ i sv hs=>((h.kS i sv hs).mono hK hA1).same (λ δ _=>hsame δ) (h.kN i sv hs),λ i sv hs=>by rw[hlen];exact h.kN i sv hs,⟨λ δ c hd hq=>?_,λ δ c n hd hn=>?_,λ δ ε c d n hd he hn=>?_,λ δ ε c d n hd he hn hn2=>?_⟩⟩
 ·rcases hcs δ c hd with ⟨rfl,rfl⟩|⟨h1,h2,hd⟩
  ·rw[Places.set_self];exact ⟨(hr _ hA).noHole,(h.cH δ _ hc).2⟩
  ·rw[hne δ h1];refine ⟨((h.cH δ c hd).1.frame (λ n hn _=>hk n λ e'=>?_) (λ n hn _=>hk n λ e'=>?_) hK hA1).same (λ δ _=>hsame δ) (h.cN δ c hd),(h.cH δ c hd).2⟩
   ·subst e';exact h1 (h.inj δ β _ _ hd hc (hn.trans hb.symm) (by rw[hn];simp))
   ·subst e';exact h.subs.apart δ β _ _ n hd hc hn hb
 ·rw[(hsame δ).1,(hsame ε).1]at hbe;rw[(hsame δ).1]at hnn;have old:∀ (δ:Nat) (c:Chunk),((s.cH.set γ none).set β (some (.mps k e u es' none)))[δ]?=some (some c)->∃ c',s.cH[δ]?=some (some c'):=by
   intro δ c hd;rcases hcs δ c hd with ⟨rfl,rfl⟩|⟨_,_,hd⟩
   ·exact ⟨_,hc⟩
   ·exact ⟨c,hd⟩
  obtain ⟨c1,h1⟩:=old δ c hd;obtain ⟨c2,h2⟩:=old ε d he;exact h.inj δ ε c1 c2 h1 h2 hbe hnn
 ·show c.inn _
  rw[hlen];rcases hcs δ c hd with ⟨rfl,rfl⟩|⟨_,_,hd⟩
  ·intro q hq;cases hq
  ·exact h.cN δ c hd
 ·rcases hcs δ c hd with ⟨rfl,rfl⟩|⟨_,_,hd⟩
  ·cases hq
  ·exact h.lpi δ c q hd hq
 ·obtain ⟨r,hr⟩:=h.round l hl;exact ⟨r,(hk l λ e'=>by subst e';rw[hm]at hr;cases hr).trans hr⟩
 ·rcases hcs δ c hd with ⟨rfl,rfl⟩|⟨h1,_,hd⟩
  ·cases hq
  ·rw[hne δ h1];exact h.subs.plain δ c hd hq
 ·rcases hcs δ c hd with ⟨rfl,rfl⟩|⟨h1,_,hd⟩
  ·rw[Places.set_self]at hn;rcases hS n hn with hn|hn
   ·exact h.subs.base δ _ n hc hn
   ·exact (h.cH γ _ hg).2 n hn
  ·rw[hne δ h1]at hn;exact h.subs.base δ c n hd hn
 ·rw[(hsame ε).1];have hε:ε≠γ/\∃ d',s.cH[ε]?=some (some d'):=by
   rcases hcs ε d he with ⟨rfl,rfl⟩|⟨_,h2,he⟩
   ·exact ⟨hbg,_,hc⟩
   ·exact ⟨h2,_,he⟩
  obtain ⟨hε,d',he'⟩:=hε;rcases hcs δ c hd with ⟨rfl,rfl⟩|⟨h1,_,hd⟩
  ·rw[Places.set_self]at hn;rcases hS n hn with hn|hn
   ·exact h.subs.apart δ ε _ _ n hc he' hn
   ·intro h2;exact hε (h.inj ε γ _ _ he' hg (h2.trans hn.symm) (by rw[h2];simp))
  ·rw[hne δ h1]at hn;exact h.subs.apart δ ε _ _ n hd he' hn
 ·have key:∀ (ε:Nat) (d:Chunk),ε≠β->ε≠γ->s.cH[ε]?=some (some d)->some n∈S->some n∈(ρ ε).subs->False:=by
   intro ε d h1 h2 he hn hn2;rcases hS n hn with hn|hn
   ·exact h1 (h.subs.one ε β _ _ n he hc hn2 hn)
   ·exact h.subs.apart ε γ _ _ n he hg hn2 hn
  rcases hcs δ c hd with ⟨rfl,rfl⟩|⟨h1,h1',hd'⟩
  ·rcases hcs ε d he with ⟨rfl,rfl⟩|⟨h2,h2',he'⟩
   ·rfl
   ·rw[Places.set_self]at hn;rw[hne ε h2]at hn2;exact (key ε d h2 h2' he' hn hn2).elim
  ·rw[hne δ h1]at hn;rcases hcs ε d he with ⟨rfl,rfl⟩|⟨h2,h2',he'⟩
   ·rw[Places.set_self]at hn2;exact (key δ c h1 h1' hd' hn2 hn).elim
   ·rw[hne ε h2]at hn2;exact h.subs.one δ ε c d n hd' he' hn hn2
theorem Rel.takeOut(h:Rel P A0 w0 ρ s a w){β:Nat}{k u:Ty}{e:TypeId}{es:List (k.den×List u.den)}{y:k.den}{xs:List u.den}
  (hc:s.cH[β]?=some (some (.mps k e u es none))) {S:List (Option Nat)} {p:Place} (hps:p.subs=[])
  (hS:∀ n,some n∈S->some n∈(ρ β).subs) (hp:∀ n,p.blk=some n->some n∈(ρ β).subs/\some n ∉ S)
  (hr:∀ A,(∀ n,A n->Av A0 ρ s.cH n)->yC P A w ((ρ.set β { ρ β with subs:=S }).set s.cH.length p) { ρ β with subs:=S } (.mps k e u es (some (y,s.cH.length))))
  (ha:∀ A,(∀ n,A n->Av A0 ρ s.cH n)->yC P A w ρ p (.arr e u xs false)) :
  Rel P A0 w0 ((ρ.set β { ρ β with subs:=S }).set s.cH.length p) { s with cH:=s.cH.set β (some (.mps k e u es (some (y,s.cH.length))))++[some (.arr e u xs false)] } a w:=by
 have hβ:=yCe hc;generalize hρ:(ρ.set β { ρ β with subs:=S }).set s.cH.length p=ρ' at *
 have hself:ρ' s.cH.length=p:=by rw[<- hρ,Places.set_self]
 have hβ':ρ' β={ ρ β with subs:=S }:=by rw[<- hρ,Places.set_lt _ _ hβ,Places.set_self]
 have hne:∀ δ,δ < s.cH.length->δ≠β->ρ' δ=ρ δ:=λ δ hd h1=>by rw[<- hρ,Places.set_lt _ _ hd];unfold Places.set;rw[if_neg h1]
 have hsame:∀ δ,δ < s.cH.length->Same (ρ' δ) (ρ δ):=λ δ hd=>by
  by_cases h1:δ=β
  ·subst h1;rw[hβ'];exact ⟨rfl,rfl,rfl,rfl,rfl⟩
  ·rw[hne δ hd h1];exact ⟨rfl,rfl,rfl,rfl,rfl⟩
 have hlen:(s.cH.set β (some (.mps k e u es (some (y,s.cH.length))))++[some (Chunk.arr e u xs false)]).length=s.cH.length+1:=by simp
 have hcs:∀ (δ:Nat) (c:Chunk),(s.cH.set β (some (.mps k e u es (some (y,s.cH.length))))++[some (Chunk.arr e u xs false)])[δ]?=some (some c) ->
   (δ=β/\c=.mps k e u es (some (y,s.cH.length)))\/(δ≠β/\δ < s.cH.length/\s.cH[δ]?=some (some c))\/(δ=s.cH.length/\c=.arr e u xs false):=by
  intro δ c hd;rcases yV hd with ⟨hl,hd⟩|⟨h1,h2⟩
  ·by_cases h1:β=δ
   ·subst h1;rw[getElem?_set_self hβ]at hd;cases hd;exact .inl ⟨rfl,rfl⟩
   ·rw[getElem?_set_ne h1]at hd;exact .inr (.inl ⟨Ne.symm h1,by simpa using hl,hd⟩)
  ·exact .inr (.inr ⟨by simpa using h1,h2⟩)
 have hA:∀ n,Av A0 ρ' (s.cH.set β (some (.mps k e u es (some (y,s.cH.length))))++[some (Chunk.arr e u xs false)]) n->Av A0 ρ s.cH n:=by
  rintro n ((h0|⟨δ,c,hd,hn⟩)|⟨δ,c,hd,hn⟩)
  ·exact .inl (.inl h0)
  ·rcases hcs δ c hd with ⟨rfl,rfl⟩|⟨h1,h2,hd⟩|⟨rfl,rfl⟩
   ·rw[hβ']at hn;exact .inl (.inr ⟨δ,_,hc,hS n hn⟩)
   ·rw[hne δ h2 h1]at hn;exact .inl (.inr ⟨δ,c,hd,hn⟩)
   ·rw[hself,hps]at hn;cases hn
  ·rcases hcs δ c hd with ⟨rfl,rfl⟩|⟨h1,h2,hd⟩|⟨rfl,rfl⟩
   ·rw[hβ']at hn;exact .inr ⟨δ,_,hc,hn⟩
   ·rw[hne δ h2 h1]at hn;exact .inr ⟨δ,c,hd,hn⟩
   ·rw[hself]at hn;exact .inl (.inr ⟨β,_,hc,(hp n hn).1⟩)
 have hA1:∀ n,n < w.heap.size->Av A0 ρ' (s.cH.set β (some (.mps k e u es (some (y,s.cH.length))))++[some (Chunk.arr e u xs false)]) n->Av A0 ρ s.cH n:=λ n _ hn=>hA n hn
 have hK:Keep (Av A0 ρ s.cH) w w:=λ _ _ _=>rfl
 refine ⟨h.size,λ i sv hs=>((h.slots i sv hs).mono hK hA1).same hsame (h.names i sv hs),λ δ c hd=>?_,λ δ ε c d hd he hbe hnn=>?_,λ i sv hs=>SV.inn_mono (by simp) (h.names i sv hs),λ δ c hd=>?_,
  h.below,h.dom,h.defers,h.dep,(λ δ c q hd hq=>?_),h.round,h.glob,h.kZ,
  λ i sv hs=>((h.kS i sv hs).mono hK hA1).same hsame (h.kN i sv hs),λ i sv hs=>SV.inn_mono (by simp) (h.kN i sv hs),⟨λ δ c hd hq=>?_,λ δ c n hd hn=>?_,λ δ ε c d n hd he hn=>?_,λ δ ε c d n hd he hn hn2=>?_⟩⟩
 ·rcases hcs δ c hd with ⟨rfl,rfl⟩|⟨h1,h2,hd⟩|⟨rfl,rfl⟩
  ·rw[hβ'];exact ⟨hr _ hA,(h.cH δ _ hc).2⟩
  ·rw[hne δ h2 h1];exact ⟨((h.cH δ c hd).1.keep (λ _ _=>rfl) hA1).same hsame (h.cN δ c hd),(h.cH δ c hd).2⟩
  ·rw[hself];exact ⟨ha _ hA,λ b hb=>h.subs.base β _ b hc (hp b hb).1⟩
 ·have key:∀ (δ:Nat),δ < s.cH.length->(∃ c',s.cH[δ]?=some (some c'))->(ρ δ).blk=p.blk->(ρ δ).blk≠none->False:=by
   intro δ _ ⟨c',h1⟩ h2 h3;cases hq:p.blk with
   |none=>rw[hq]at h2;exact h3 h2
   |some n=>exact h.subs.apart β δ _ _ n hc h1 (hp n hq).1 (h2.trans hq)
  have old:∀ (δ:Nat) (c:Chunk),(s.cH.set β (some (.mps k e u es (some (y,s.cH.length))))++[some (Chunk.arr e u xs false)])[δ]?=some (some c)->(δ < s.cH.length/\∃ c',s.cH[δ]?=some (some c'))\/δ=s.cH.length:=by
   intro δ c hd;rcases hcs δ c hd with ⟨rfl,rfl⟩|⟨h1,h2,hd⟩|⟨rfl,rfl⟩
   ·exact .inl ⟨hβ,_,hc⟩
   ·exact .inl ⟨h2,_,hd⟩
   ·exact .inr rfl
  rcases old δ c hd with ⟨h1,h2⟩|rfl
  ·rw[(hsame δ h1).1]at hbe hnn;rcases old ε d he with ⟨h3,h4⟩|rfl
   ·rw[(hsame ε h3).1]at hbe;obtain ⟨c1,h2⟩:=h2;obtain ⟨c2,h4⟩:=h4;exact h.inj δ ε c1 c2 h2 h4 hbe hnn
   ·rw[hself]at hbe;exact (key δ h1 h2 hbe hnn).elim
  ·rw[hself]at hbe hnn;rcases old ε d he with ⟨h3,h4⟩|rfl
   ·rw[(hsame ε h3).1]at hbe;exact (key ε h3 h4 hbe.symm (by rw[<- hbe];exact hnn)).elim
   ·rfl
 ·show c.inn _
  rw[hlen];rcases hcs δ c hd with ⟨rfl,rfl⟩|⟨h1,h2,hd⟩|⟨rfl,rfl⟩
  ·intro q hq;cases hq;exact Nat.lt_succ_self _
  ·exact Chunk.inn_mono (Nat.le_succ _) (h.cN δ c hd)
  ·trivial
 ·rcases hcs δ c hd with ⟨rfl,rfl⟩|⟨h1,h2,hd⟩|⟨rfl,rfl⟩
  ·cases hq
  ·exact h.lpi δ c q hd hq
  ·cases hq
 ·rcases hcs δ c hd with ⟨rfl,rfl⟩|⟨h1,h2,hd⟩|⟨rfl,rfl⟩
  ·cases hq
  ·rw[hne δ h2 h1];exact h.subs.plain δ c hd hq
  ·rw[hself];exact hps
 ·rcases hcs δ c hd with ⟨rfl,rfl⟩|⟨h1,h2,hd⟩|⟨rfl,rfl⟩
  ·rw[hβ']at hn;exact h.subs.base δ _ n hc (hS n hn)
  ·rw[hne δ h2 h1]at hn;exact h.subs.base δ c n hd hn
  ·rw[hself,hps]at hn;cases hn
 ·have up:δ=β/\some n∈S/\some n∈(ρ β).subs\/δ≠β/\∃ c',s.cH[δ]?=some (some c')/\some n∈(ρ δ).subs:=by
   rcases hcs δ c hd with ⟨rfl,rfl⟩|⟨h1,h2,hd⟩|⟨rfl,rfl⟩
   ·rw[hβ']at hn;exact .inl ⟨rfl,hn,hS n hn⟩
   ·rw[hne δ h2 h1]at hn;exact .inr ⟨h1,c,hd,hn⟩
   ·rw[hself,hps]at hn;cases hn
  rcases hcs ε d he with ⟨rfl,rfl⟩|⟨h3,h4,he'⟩|⟨rfl,rfl⟩
  ·rw[(hsame ε hβ).1];rcases up with ⟨rfl,_,h1⟩|⟨_,c',h1,h2⟩
   ·exact h.subs.apart δ δ _ _ n hc hc h1
   ·exact h.subs.apart δ ε _ _ n h1 hc h2
  ·rw[(hsame ε h4).1];rcases up with ⟨rfl,_,h1⟩|⟨_,c',h1,h2⟩
   ·exact h.subs.apart δ ε _ _ n hc he' h1
   ·exact h.subs.apart δ ε _ _ n h1 he' h2
  ·rw[hself];intro h5;obtain ⟨h6,h7⟩:=hp n h5;rcases up with ⟨rfl,h1,_⟩|⟨h0,c',h1,h2⟩
   ·exact h7 h1
   ·exact h0 (h.subs.one δ β _ _ n h1 hc h2 h6)
 ·have up:∀ (δ:Nat) (c:Chunk),(s.cH.set β (some (.mps k e u es (some (y,s.cH.length))))++[some (Chunk.arr e u xs false)])[δ]?=some (some c)->some n∈(ρ' δ).subs->∃ c',s.cH[δ]?=some (some c')/\some n∈(ρ δ).subs:=by
   intro δ c hd hn;rcases hcs δ c hd with ⟨rfl,rfl⟩|⟨h1,h2,hd⟩|⟨rfl,rfl⟩
   ·rw[hβ']at hn;exact ⟨_,hc,hS n hn⟩
   ·rw[hne δ h2 h1]at hn;exact ⟨c,hd,hn⟩
   ·rw[hself,hps]at hn;cases hn
  obtain ⟨c1,h1,h2⟩:=up δ c hd hn;obtain ⟨c2,h3,h4⟩:=up ε d he hn2;exact h.subs.one δ ε c1 c2 n h1 h3 h2 h4
omit [GT] in
theorem y0V{k:Ty}(hk:k.keyOk=true){x y:k.den}:y6t k x y=true ↔ x=y:=by
 cases k with
 |str=>simp only[y6t];exact beq_iff_eq
 |int j=>simp only[y6t];exact beq_iff_eq
 |_=>cases hk
omit [GT] in
theorem y8n{k v:Ty}{y:k.den}{z:v.den}:∀ {es:List (k.den×v.den)},yZ k v es y=some z->∃ (j:Nat) (x:k.den×v.den),es[j]?=some x/\eqV k y x.1=true/\x.2=z
 |[],h=>by cases h
 |p::l,h=>by
  simp only[yZ]at h;cases hq:eqV k y p.1 with
  |true=>rw[hq]at h;cases h;exact ⟨0,p,rfl,hq,rfl⟩
  |false =>
   rw[hq]at h;obtain ⟨j,x,h1,h2,h3⟩:=y8n (es:=l) h;exact ⟨j+1,x,by simpa using h1,h2,h3⟩
theorem Rel.split(h:Rel P A0 w0 ρ s a w)(β:Nat)(x:SV):∃ ρ',Rel P A0 w0 ρ' (s.split β x) a w:=by
 unfold St.split;split
 ·rename_i k e u es hch;split
  ·rename_i hkey;split
   ·rename_i y hy;have hc:=getD_some hch;have hK:∀ A:Nat->Prop,Keep A w w:=λ _ _ _ _=>rfl
    obtain ⟨b,ms,c,hb,h1,h2,⟨⟨h3,h3k⟩,h4⟩,h5⟩:=(h.cH β _ hc).1;cases hg:yZ k (.slice u) es y with
    |none =>
     have hall:∀ x∈es,y70 k (some (y,s.cH.length)) x.1=false:=λ x hx=>by
      have:=y46 hg x hx;simp only[y70];rw[y4U hkey];exact this
     refine ⟨_,h.takeOut (y:=y) (xs:=[]) hc (S:=(ρ β).subs) (p:=⟨none,0,0,[],[],[]⟩) rfl (λ n hn=>hn) (λ n hn=>by cases hn) (λ A hA=>?_) (λ A hA=>⟨rfl,(λ hh=>by cases hh),.inl ⟨rfl,rfl,rfl⟩⟩)⟩
     refine ⟨b,ms,c,hb,h1,h2,⟨⟨h3,h3k⟩,λ q hq hx=>?_⟩,λ i x hi=>?_⟩
     ·cases hq;simp only[Places.set_self];exact ⟨trivial,trivial,trivial⟩
     ·obtain ⟨en,o,h6,h7,h8,h9⟩:=h5 i x hi;refine ⟨en,o,h6,h7,h8,.inr ⟨hall x (mem_of_getElem? hi),?_⟩⟩;rcases h9 with ⟨q,hq,_⟩|⟨_,h9⟩
      ·cases hq
      ·exact h9.frame (λ _ _ _=>rfl) (hK _) (λ n _ hn=>hA n hn)
    |some xs =>
     obtain ⟨j,x,hj,hjy,hjx⟩:=y8n hg;obtain ⟨en,o,h6,h7,h8,h9⟩:=h5 j x hj;have hxy:y=x.1:=(y0V hkey).1 (by rw[y4U hkey];exact hjy)
     rcases h9 with ⟨q,hq,_⟩|⟨_,h9⟩
     ·cases hq
     obtain ⟨cap,h10,h11⟩:=y0z.arr (ρ:=ρ) h9;rw[hjx]at h10 h11;have hjl:j < (ρ β).subs.length:=(List.getElem?_eq_some_iff.1 h7).1;refine ⟨_,h.takeOut (y:=y) (xs:=xs) hc (S:=(ρ β).subs.set j none) (p:=⟨o,List.length xs,cap,[],[],[]⟩) rfl (λ n hn=>?_) (λ n hn=>?_) (λ A hA=>?_) (λ A hA=>h11.keep (λ _ _=>rfl) (λ n _ hn=>hA n hn))⟩
     ·rcases List.mem_or_eq_of_mem_set hn with hn|hn
      ·exact hn
      ·cases hn
     ·simp only at hn;subst hn;refine ⟨mem_of_getElem? h7,λ hn=>?_⟩
      obtain ⟨i,hi⟩:=List.mem_iff_getElem?.1 hn;by_cases hij:j=i
      ·subst hij;rw[getElem?_set_self hjl]at hi;cases hi
      ·rw[getElem?_set_ne hij]at hi;exact hij (h3 j i n h7 hi)
     ·refine ⟨b,ms,c,hb,h1,⟨h2.1,by simpa using h2.2⟩,⟨⟨λ i i' n hi hi'=>?_,h3k⟩,λ q hq hx=>?_⟩,λ i x' hi=>?_⟩
      ·by_cases e1:j=i
       ·subst e1;simp only[getElem?_set_self hjl]at hi;cases hi
       ·by_cases e2:j=i'
        ·subst e2;simp only[getElem?_set_self hjl]at hi';cases hi'
        ·simp only[getElem?_set_ne e1]at hi;simp only[getElem?_set_ne e2]at hi';exact h3 i i' n hi hi'
      ·have:=hx x (mem_of_getElem? hj);simp only[y70,(y0V hkey).2 hxy]at this;cases this
      ·by_cases e1:j=i
       ·subst e1;rw[hj]at hi;cases hi;refine ⟨en,none,h6,by simp only[getElem?_set_self hjl],h8,.inl ⟨_,rfl,?_,rfl,?_⟩⟩
        ·simp only[y70];exact (y0V hkey).2 hxy
        ·simp only[Places.set_self];exact h10
       ·obtain ⟨en',o',h6',h7',h8',h9'⟩:=h5 i x' hi;refine ⟨en',o',h6',by simp only[getElem?_set_ne e1];exact h7',h8',.inr ⟨?_,?_⟩⟩
        ·cases hq:y70 k (some (y,s.cH.length)) x'.1 with
         |false=>rfl
         |true =>
          simp only[y70]at hq;have h12:=(y0V hkey).1 hq;exact absurd (h3k j i x x' hj hi ((y0V hkey).2 (hxy.symm.trans h12))) e1
        ·rcases h9' with ⟨q,hq,_⟩|⟨_,h9'⟩
         ·cases hq
         ·exact h9'.frame (λ _ _ _=>rfl) (hK _) (λ n _ hn=>hA n hn)
   ·exact ⟨ρ,h⟩
  ·exact ⟨ρ,h⟩
 ·exact ⟨ρ,h⟩
theorem Rel.splitAt(h:Rel P A0 w0 ρ s a w)(ops:List Oper):∃ ρ',Rel P A0 w0 ρ' (Vx.splitAt g ops s) a w:=by
 unfold Vx.splitAt;split
 ·exact h.split _ _
 ·exact ⟨ρ,h⟩
end
end Go.Vx
end
section
namespace Go.Vx
open Go.RowKit
variable [GT]
section
variable {P:Program} {A0:Nat->Prop} {w0:Base} {ρ:Places} {s:St} {a:Act} {w w':World} {g:G} {R:Type} {K:St->Option R} {r:R} {o:Oper}
def Eff(P:Program)(A0:Nat->Prop)(w0:Base)(a:Act)(w:World)(o:Oper)(K:St->Option R)(r:R):Prop:=
 ∃ a' w' ρ' s',((∃ v,(execOp a.eval o).run P w=.ok (.value v) w'/\a'=a.put o.dst v)\/((execOp a.eval o).run P w=.ok .skip w'/\a'=a.put o.dst undef))/\Rel P A0 w0 ρ' s' a' w'/\K s'=some r
theorem Eff.val{v:Value}{ρ':Places}{s':St}(h1:(execOp a.eval o).run P w=.ok (.value v) w')(h2:Rel P A0 w0 ρ' s' (a.put o.dst v) w')(h3:K s'=some r):Eff P A0 w0 a w o K r:=
 ⟨_,w',ρ',s',.inl ⟨v,h1,rfl⟩,h2,h3⟩
theorem Eff.skip{ρ':Places}{s':St}(h1:(execOp a.eval o).run P w=.ok .skip w')(h2:Rel P A0 w0 ρ' s' (a.put o.dst undef) w')(h3:K s'=some r):Eff P A0 w0 a w o K r:=
 ⟨_,w',ρ',s',.inr ⟨h1,rfl⟩,h2,h3⟩
theorem Yld.eff{F:SV->Option R}(h:Rel P A0 w0 ρ s a w)(hy:Yld P A0 ρ s a w o F r)(hF:∀ sv,F sv=K (s.put o.dst sv)):Eff P A0 w0 a w o K r:=by
 obtain ⟨sv,v,w',h1,h2,h3,h4,h5⟩:=hy;exact Eff.val h1 ((h.step h2).put o.dst h4 h3) ((hF sv).symm.trans h5)
theorem y3a(n:Nat):∀ (t:Ty) (x:t.den),∀ sv∈y0B t x,sv.inn n:=by
 intro t;induction t with
 |pair a b iha ihb =>
  intro x sv hs;rcases mem_append.1 hs with hs|hs
  ·exact iha _ sv hs
  ·exact ihb _ sv hs
 |arr m t ih =>
  intro x sv hs;obtain ⟨i,_,hi⟩:=List.mem_flatMap.1 hs;exact ih _ sv hi
 |unit=>intro x sv hs;cases hs
 |_=>intro x sv hs;simp only[y0B,mem_singleton]at hs;subst hs;trivial
theorem y6b(n:Nat):∀ (t:Ty),∀ sv∈y0S t,sv.inn n:=by
 intro t;induction t with
 |pair a b iha ihb =>
  intro sv hs;rcases mem_append.1 hs with hs|hs
  ·exact iha sv hs
  ·exact ihb sv hs
 |arr m t ih =>
  intro sv hs;obtain ⟨l,hl,hi⟩:=List.mem_flatten.1 hs;rw[List.mem_replicate]at hl;rw[hl.2]at hi;exact ih sv hi
 |unit=>intro sv hs;cases hs
 |_=>intro sv hs;simp only[y0S,mem_singleton]at hs;subst hs;trivial
theorem Rel.newBox(h:Rel P A0 w0 ρ s a w){t:Ty}{cells:List SV}{l:List Value}{e:TypeId}(d:Option Nat)(hin:∀ sv∈cells,sv.inn s.cH.length)
  (hc:∀ A,(∀ n,n < w.heap.size->A n->Av A0 ρ s.cH n)->yD P A (w.alloc (.cells l.toArray e)) ρ cells l) :
  ∃ ρ',Rel P A0 w0 ρ' ({ s with cH:=s.cH++[some (Chunk.box t cells)] }.put d (.bP s.cH.length 0)) (a.put d (.pointer (some ⟨w.heap.size,0,none⟩))) (w.alloc (.cells l.toArray e)):=by
 have h1:=h.newChunk (.box t cells) ⟨some w.heap.size,e,0,[],[],[]⟩ (y01 w (.cells l.toArray e)) (λ b hb=>by cases hb;exact le_refl _) hin
  (λ A hA _=>⟨w.heap.size,l.toArray,e,rfl,heap_alloc_new w _,⟨by simpa using (hc A hA).1,rfl⟩,λ i sv hi=>by simpa using (hc A hA).2 i sv hi⟩)
 refine ⟨_,h1.put d (sv:=.bP s.cH.length 0) ?_ ?_⟩
 ·show s.cH.length < (s.cH++[_]).length
  simp
 ·exact ⟨w.heap.size,by rw[Places.set_self],rfl⟩
theorem Rel.newSelf(h:Rel P A0 w0 ρ s a w){t:Ty}{cells:List SV}{l:List Value}{e:TypeId}(d:Option Nat)(hin:∀ sv∈cells,sv.inn s.cH.length)
  (hc:∀ A,(∀ n,n < w.heap.size->A n->Av A0 ρ s.cH n)->yD P A (w.alloc (.cells l.toArray e)) ρ cells l) (h0:∀ u,t=.pair (.ref .unit) u->l[0]?=some (.pointer none)) :
  ∃ ρ',Rel P A0 w0 ρ' ({ s with cH:=s.cH++[some (Chunk.box t (y1O t s.cH.length e cells))] }.put d (.bP s.cH.length 0)) (a.put d (.pointer (some ⟨w.heap.size,0,none⟩))) (w.alloc (.cells l.toArray e)):=by
 by_cases ht:∃ u,t=.pair (.ref .unit) u
 ·obtain ⟨u,rfl⟩:=ht;have h1:=h.newChunk (.box (.pair (.ref .unit) u) cells) ⟨some w.heap.size,e,0,[],[],[]⟩ (y01 w (.cells l.toArray e)) (λ b hb=>by cases hb;exact le_refl _) hin
   (λ A hA _=>⟨w.heap.size,l.toArray,e,rfl,heap_alloc_new w _,⟨by simpa using (hc A hA).1,rfl⟩,λ i sv hi=>by simpa using (hc A hA).2 i sv hi⟩)
  have hβ:(s.cH++[some (Chunk.box (.pair (.ref .unit) u) cells)])[s.cH.length]?=some (some (Chunk.box (.pair (.ref .unit) u) cells)):=by simp
  have h2:=h1.write (w':=w.alloc (.cells l.toArray e)) (ch':=.box (.pair (.ref .unit) u) (y1O (.pair (.ref .unit) u) s.cH.length e cells)) hβ (b:=w.heap.size) (by rw[Places.set_self]) (λ _ _=>rfl) rfl rfl rfl rfl
   (λ sv hs=>by
    simp only[y1O]at hs;rcases List.mem_or_eq_of_mem_set hs with hs|rfl
    ·exact SV.inn_mono (by simp) (hin sv hs)
    ·show s.cH.length < (s.cH++[_]).length
     simp)
   (λ A hA=>by
    obtain ⟨b,vs,e',hb,hg,⟨hlen,he⟩,hcr⟩:=(h1.cH _ _ hβ).1.keep (w':=w.alloc (.cells l.toArray e)) (A':=A) (λ _ _=>rfl) (λ n _ hn=>(hA n).1 hn)
    refine ⟨b,vs,e',hb,hg,⟨by simp[y1O,hlen],he⟩,λ i sv hi=>?_⟩
    simp only[y1O,List.getElem?_set]at hi;split at hi
    ·rename_i hi0;subst hi0;split at hi
     ·cases hi;rw[Places.set_self]at hb he;cases hb;rw[heap_alloc_new]at hg;cases hg;refine ⟨.pointer none,by simpa using h0 u rfl,?_⟩
      show ((ρ.set s.cH.length ⟨some w.heap.size,e,0,[],[],[]⟩) s.cH.length).len=e/\_
      rw[Places.set_self];exact ⟨rfl,w.heap.size,rfl,.inl rfl⟩
     ·cases hi
    ·exact hcr i sv hi)
  have e1:(s.cH++[some (Chunk.box (.pair (.ref .unit) u) cells)]).set s.cH.length (some (Chunk.box (.pair (.ref .unit) u) (y1O (.pair (.ref .unit) u) s.cH.length e cells)))=s.cH++[some (Chunk.box (.pair (.ref .unit) u) (y1O (.pair (.ref .unit) u) s.cH.length e cells))]:=by
   simp
  simp only at h2;rw[e1]at h2;refine ⟨_,h2.put d (sv:=.bP s.cH.length 0) ?_ ?_⟩
  ·show s.cH.length < (s.cH++[_]).length
   simp
  ·exact ⟨w.heap.size,by rw[Places.set_self],rfl⟩
 ·have e1:y1O t s.cH.length e cells=cells:=by
   unfold y1O;split
   ·exact absurd ⟨_,rfl⟩ ht
   ·rfl
  rw[e1];exact h.newBox d hin hc
theorem y1N{t:Ty}{l:List Value}(h:l.length=t.size)(hp:∀ v∈l,Value.plain1 v=true):(t.wrap l).cells=l.toArray:=by
 unfold Ty.wrap;split
 ·rfl
 ·rename_i ha;have h1:t.size=1:=y2V (by simpa using ha)
  rw[h1]at h;obtain ⟨v,rfl⟩:=List.length_eq_one_iff.1 h;have:=hp v (by simp)
  cases v<;>first|rfl|(simp[Value.plain1]at this)
theorem y2u:∀ (t:Ty),∀ v∈t.zeroV,Value.plain1 v=true:=by
 intro t;induction t with
 |pair a b iha ihb =>
  intro v hs;rcases mem_append.1 hs with hs|hs
  ·exact iha v hs
  ·exact ihb v hs
 |arr m t ih =>
  intro v hs;obtain ⟨l,hl,hi⟩:=List.mem_flatten.1 hs;rw[List.mem_replicate]at hl;rw[hl.2]at hi;exact ih v hi
 |unit=>intro v hs;cases hs
 |_=>intro v hs;simp only[Ty.zeroV,mem_singleton]at hs;subst hs;rfl
theorem Rel.addNone(T:List (TypeId×TyI)):∀ (l:List TypeId) {ρ:Places} {s:St},Rel P A0 w0 ρ s a w->∃ ρ',Rel P A0 w0 ρ' { s with cH:=s.cH++yK T l } a w /\
  (∀ β,β < s.cH.length->ρ' β=ρ β)/\∀ β,s.cH.length<=β->β < s.cH.length+(yK T l).length->ρ' β=⟨none,0,0,[],[],[]⟩
 |[],ρ,s,h=>⟨ρ,by simpa[yK]using h,λ _ _=>rfl,λ β h1 h2=>by simp[yK]at h2;omega⟩
 |t::l,ρ,s,h=>by
  unfold yK;split
  ·exact ⟨ρ,by simpa using h,λ _ _=>rfl,λ β h1 h2=>by simp at h2;omega⟩
  ·rename_i i _;split
   ·rename_i u _;have h1:=h.newChunk (w':=w) (.arr i.elem u [] false) ⟨none,0,0,[],[],[]⟩ (Below.refl _ _) (λ b hb=>by cases hb) trivial
     (λ A hA _=>⟨rfl,λ h=>by simp at h,.inl ⟨rfl,rfl,rfl⟩⟩)
    obtain ⟨ρ',h2,h3,h4⟩:=Rel.addNone T l h1;simp only[List.length_append,List.length_singleton]at h3 h4;refine ⟨ρ',by simpa using h2,λ β hβ=>?_,λ β hβ hβ'=>?_⟩
    ·rw[h3 β (by omega)]
     exact Places.set_lt ρ _ hβ
    ·by_cases he:β=s.cH.length
     ·subst he;rw[h3 _ (by omega)]
      exact Places.set_self ρ _ _
     ·refine h4 β (by omega) ?_
      simp only[List.length_cons]at hβ';omega
   ·exact Rel.addNone T l h
theorem y0Q{T:List (TypeId×TyI)}{A:Nat->Prop}:∀ (l:List TypeId) (m:Nat) (u:Ty),y3X T l=some u->(∀ β,m<=β->β < m+(yK T l).length->ρ β=⟨none,0,0,[],[],[]⟩) ->
  yD P A w ρ (y0P T l m) u.zeroV/\∀ sv∈y0P T l m,sv.inn (m+(yK T l).length)
 |[],m,u,h,_=>by
  simp only[y3X,Option.some.injEq]at h;subst h;exact ⟨⟨rfl,λ i sv hi=>by simp[y0P]at hi⟩,λ sv hs=>by simp[y0P]at hs⟩
 |t::l,m,u,h,hρ=>by
  simp only[y3X,bind_eq_some_iff,map_eq_some_iff]at h;obtain ⟨i,hi,b,hb,rfl⟩:=h;by_cases hsl:∃ v,i.ty=.slice v
  ·obtain ⟨v,hv⟩:=hsl;have hch:yK T (t::l)=some (.arr i.elem v [] false)::yK T l:=by simp only[yK,hi,hv]
   have hce:y0P T (t::l) m=.own m::y0P T l (m+1):=by simp only[y0P,hi,hv]
   rw[hch]at hρ ⊢;rw[hce];simp only[List.length_cons]at hρ ⊢;obtain ⟨h1,h2⟩:=y0Q l (m+1) b hb (λ β h3 h4=>hρ β (by omega) (by omega))
   refine ⟨?_,λ sv hs=>?_⟩
   ·rw[show (Ty.pair i.ty b).zeroV=i.ty.zeroV++b.zeroV from rfl,hv]
    refine yD.append (s1:=[.own m]) (yD.one ?_) h1;show _=Value.slice _ _ _
    rw[hρ m (by omega) (by omega)]
    rfl
   ·rcases mem_cons.1 hs with rfl|hs
    ·show m < _
     omega
    ·exact SV.inn_mono (by omega) (h2 sv hs)
  ·have hch:yK T (t::l)=yK T l:=by
    simp only[yK,hi];split
    ·rename_i v hv;exact absurd ⟨v,hv⟩ hsl
    ·rfl
   have hce:y0P T (t::l) m=y0S i.ty++y0P T l m:=by
    simp only[y0P,hi];split
    ·rename_i v hv;exact absurd ⟨v,hv⟩ hsl
    ·rfl
   rw[hch]at hρ ⊢;rw[hce];obtain ⟨h1,h2⟩:=y0Q l m b hb hρ;refine ⟨yD.append (y6j _) h1,λ sv hs=>?_⟩
   rcases mem_append.1 hs with hs|hs
   ·exact y6b _ _ sv hs
   ·exact h2 sv hs
theorem Rel.newArrV(h:Rel P A0 w0 ρ s a w){u:Ty}{xs:List u.den}{l:List Value}{e:TypeId}{nn:Bool}(d:Option Nat)(hm:xs.length<=maxLen)
  (hc:∀ A,(∀ n,n < w.heap.size->A n->Av A0 ρ s.cH n)->y6 P (.arr xs.length u) A (w.alloc (.cells l.toArray e)) xs l) :
  ∃ ρ',Rel P A0 w0 ρ' ({ s with cH:=s.cH++[some (Chunk.arr e u xs nn)] }.put d (.bP s.cH.length 0)) (a.put d (.pointer (some ⟨w.heap.size,0,none⟩))) (w.alloc (.cells l.toArray e)):=by
 have h1:=h.newChunk (.arr e u xs nn) ⟨some w.heap.size,xs.length,xs.length,[],[],[]⟩ (y01 w (.cells l.toArray e)) (λ b hb=>by cases hb;exact le_refl _) trivial
  (λ A hA _=>by
   have:=hc A hA;simp only[y6]at this;obtain ⟨h1,h2,h3⟩:=this;exact ⟨rfl,(λ _ hx=>by cases hx),Or.inr ⟨w.heap.size,l.toArray,rfl,heap_alloc_new w _,le_refl _,hm,by simpa using h1,λ i x hi=>by simpa using h3 i x hi⟩⟩)
 refine ⟨_,h1.put d (sv:=.bP s.cH.length 0) ?_ ?_⟩
 ·show s.cH.length < (s.cH++[_]).length
  simp
 ·exact ⟨w.heap.size,by rw[Places.set_self],rfl⟩
theorem y5J(h:Rel P A0 w0 ρ s a w){e:TypeId}{i:TyI}(hi:yR g.T e=some i)(hrun:(execOp a.eval o).run P w=.ok (.value (.pointer (some ⟨w.heap.size,0,none⟩))) (w.alloc (.cells i.ty.zeroV.toArray e)))(hk:y44 g s e i o.dst K=some r):Eff P A0 w0 a w o K r:=by
 unfold y44 at hk;split at hk
 ·rename_i n u hu;obtain ⟨⟨hz,hsz⟩,hk⟩:=y0n hk;have hrep:=List.length_replicate (n:=n) (a:=u.dflt);obtain ⟨ρ',hR⟩:=h.newArrV (u:=u) (xs:=List.replicate n u.dflt) (l:=i.ty.zeroV) (e:=e) (nn:=true) o.dst
   (by rw[hrep];simp only[maxLen];omega)
   (λ A hA=>by have:=y0W (P:=P) (A:=A) (w:=w.alloc (.cells i.ty.zeroV.toArray e)) n hz;rw[<- show i.ty.zeroV=(List.replicate n u.zeroV).flatten by rw[hu];rfl]at this;rw[hrep];exact this)
  exact Eff.val hrun hR hk
 ·rename_i u hu;obtain ⟨ρ',g1,g2,g3⟩:=Rel.addNone g.T [e] h;have hpr:y3X g.T [e]=some (.pair i.ty .unit):=by simp[y3X,hi]
  obtain ⟨ρ2,hR⟩:=g1.newBox (t:=i.ty) (cells:=y0P g.T [e] s.cH.length) (l:=i.ty.zeroV) (e:=e) o.dst
   (by have:=(y0Q (P:=P) (A:=λ _=>False) (w:=w) (ρ:=ρ') [e] s.cH.length _ hpr g3).2;simpa using this)
   (λ A hA=>by rw[show i.ty.zeroV=(Ty.pair i.ty .unit).zeroV by simp[Ty.zeroV]];exact (y0Q [e] s.cH.length _ hpr g3).1)
  exact Eff.val hrun hR hk
 ·obtain ⟨hp,hk'⟩:=yG hk;obtain ⟨ρ',g1,g2,g3⟩:=Rel.addNone g.T (i.fields.map (·.2)) h;obtain ⟨ρ2,hR⟩:=g1.newSelf (t:=i.ty) (cells:=y0P g.T (i.fields.map (·.2)) s.cH.length) (l:=i.ty.zeroV) (e:=e) o.dst
   (by have:=(y0Q (P:=P) (A:=λ _=>False) (w:=w) (ρ:=ρ') (i.fields.map (·.2)) s.cH.length _ hp g3).2;simpa using this)
   (λ A hA=>(y0Q (i.fields.map (·.2)) s.cH.length _ hp g3).1)
   (λ u hu=>by rw[hu];rfl)
  exact Eff.val hrun hR hk'
theorem yA4(hT:yh P g.T)(h:Rel P A0 w0 ρ s a w){e:TypeId}(ho:o.op=.alloc e)(hk:effK g s o K=some r):Eff P A0 w0 a w o K r:=by
 simp only[effK,ho]at hk;split at hk
 ·rename_i i hi;obtain ⟨inf,d,h1,h2,h3,h4,h5,h6⟩:=(hT.fits hi).ex;have hc:(i.ty.wrap i.ty.zeroV).cells=i.ty.zeroV.toArray:=y1N (yQ _) (y2u _);have hrun:(execOp a.eval o).run P w=.ok (.value (.pointer (some ⟨w.heap.size,0,none⟩))) (w.alloc (.cells i.ty.zeroV.toArray e)):=by
   simp only[execOp,ho,Sem.run_bind,Instr.alloc,y3x h1 h6,newVar,newRow,hc,Result.andThen_ok,Sem.run_pure];simp
  split at hk
  ·exact y5J h hi hrun hk
  ·obtain ⟨ρ',hR⟩:=h.newBox (t:=i.ty) (cells:=y0S i.ty) (l:=i.ty.zeroV) (e:=e) o.dst (y6b _ _) (λ A hA=>y6j _)
   exact Eff.val hrun hR hk
 ·cases hk
theorem yDZ(hT:yh P g.T)(h:Rel P A0 w0 ρ s a w){e:TypeId}{x:Operand}(ho:o.op=.box e x)(hk:effK g s o K=some r):Eff P A0 w0 a w o K r:=by
 simp only[effK,ho]at hk;split at hk
 ·rename_i hnb;split at hk
  ·rename_i i hi;unfold yGX at hnb;rw[hi]at hnb;split at hnb
   ·rename_i j hs hj;cases hj;split at hnb
    ·rename_i v hv;refine y5J h hi ?_ hk;have hx:a.eval x=.slice none 0 0:=by
      have:=(y5 (T:=g.T) h e x).1;rw[hs]at this;exact this
     simp only[execOp,ho,Sem.run_bind,y82,hx,Result.andThen_ok,Sem.run_pure];rw[hv];rfl
    ·cases hnb
   ·cases hnb
  ·cases hk
 split at hk
 ·rename_i β hβ;split at hk
  ·rename_i i hi;have hs:=y5 (T:=g.T) h e x;have hx:yB g.T e s x=.yld β:=by
    unfold yP2 at hβ;split at hβ
    ·rename_i γ hγ;cases hβ;exact hγ
    ·cases hβ
   rw[hx]at hs;obtain ⟨ρ',hR⟩:=h.newBox (t:=i.ty) (cells:=[.yld β]) (l:=[a.eval x]) (e:=e) o.dst
    (λ sv hsv=>by rw[mem_singleton]at hsv;subst hsv;exact hs.2)
    (λ A hA=>⟨rfl,λ i sv hi=>by
     cases i with
     |zero=>cases hi;exact ⟨_,rfl,hs.1⟩
     |succ i=>cases hi⟩)
   refine Eff.val ?_ hR hk;obtain ⟨b,_,hb⟩:=hs.1;simp only[execOp,ho,Sem.run_bind,y82,Result.andThen_ok,Sem.run_pure];rw[hb];rfl
  ·cases hk
 have hS:=h.settle (yB g.T e s x);generalize s.settle (yB g.T e s x)=s1 at hk hS;split at hk
 ·rename_i i hi;simp only[bind_eq_some_iff]at hk;obtain ⟨y,hy,hk⟩:=hk;have hs:=(y5 (T:=g.T) hS e x).1;obtain ⟨l,h1,h2⟩:=yw hs hy;have hc:=y0J h1;obtain ⟨ρ',hR⟩:=hS.newBox (t:=i.ty) (cells:=y0B i.ty y) (l:=l) (e:=e) o.dst (y3a _ _ _) (λ A hA=>y1w _ _ _ (h1.mono (y3S _ _ _) hA))
  refine Eff.val ?_ hR hk;simp only[execOp,ho,Sem.run_bind,y82,Result.andThen_ok,Sem.run_pure,h2,hc]
 ·cases hk
theorem Rel.newArr(h:Rel P A0 w0 ρ s a w){u:Ty}{xs:List u.den}{l:List Value}{e:TypeId}{nn:Bool}(d:Option Nat)(hm:xs.length<=maxLen)
  (hc:∀ A,(∀ n,n < w.heap.size->A n->Av A0 ρ s.cH n)->y6 P (.arr xs.length u) A (w.alloc (.cells l.toArray e)) xs l) :
  ∃ ρ',Rel P A0 w0 ρ' ({ s with cH:=s.cH++[some (Chunk.arr e u xs nn)] }.put d (.own s.cH.length)) (a.put d (.slice (some ⟨w.heap.size,0,none⟩) xs.length xs.length)) (w.alloc (.cells l.toArray e)):=by
 have h1:=h.newChunk (.arr e u xs nn) ⟨some w.heap.size,xs.length,xs.length,[],[],[]⟩ (y01 w (.cells l.toArray e)) (λ b hb=>by cases hb;exact le_refl _) trivial
  (λ A hA _=>by
   have:=hc A hA;simp only[y6]at this;obtain ⟨h1,h2,h3⟩:=this;exact ⟨rfl,(λ _ hx=>by cases hx),Or.inr ⟨w.heap.size,l.toArray,rfl,heap_alloc_new w _,le_refl _,hm,by simpa using h1,λ i x hi=>by simpa using h3 i x hi⟩⟩)
 refine ⟨_,h1.put d (sv:=.own s.cH.length) ?_ ?_⟩
 ·show s.cH.length < (s.cH++[_]).length
  simp
 ·show _=Value.slice _ _ _
  rw[Places.set_self];rfl
omit [GT] in
theorem y5P(z:List Value):∀ n j,j < n->(((List.replicate n z).flatten.drop (j * z.length)).take z.length)=z
 |0,_,h=>by omega
 |n+1,0,_=>by simp[List.replicate_succ]
 |n+1,j+1,h=>by
  rw[List.replicate_succ,List.flatten_cons,Nat.succ_mul,Nat.add_comm,List.drop_append,Nat.add_sub_cancel_left,List.drop_eq_nil_of_le (by omega),List.nil_append]
  exact y5P z n j (by omega)
theorem yEI:∀ (u:Ty) (x z:u.den) (o:Nat) (v:Ty) (y:List v.den),y0T u x o (.slice v) y=some z->u.zeroV[o]?=some (.slice none 0 0):=by
 intro u;induction u with
 |pair a b iha ihb =>
  intro x z o v y h;unfold y0T at h;split at h
  ·rename_i e;cases e.2
  ·simp only at h;unfold Ty.zeroV;split at h
   ·rename_i hlt;obtain ⟨q,hq,_⟩:=map_eq_some_iff.1 h;rw[getElem?_append_left (by rw[yQ];exact hlt)]
    exact iha _ _ _ _ _ hq
   ·rename_i hlt;obtain ⟨q,hq,_⟩:=map_eq_some_iff.1 h;rw[List.getElem?_append_right (by rw[yQ];omega),yQ]
    exact ihb _ _ _ _ _ hq
 |slice t _ =>
  intro x z o v y h;unfold y0T at h;split at h
  ·rename_i e;rw[e.1];rfl
  ·simp at h
 |_ =>
  intro x z o v y h;unfold y0T at h;split at h
  ·rename_i e;cases e.2
  ·simp at h
theorem y7h(hT:yh P g.T)(h:Rel P A0 w0 ρ s a w){t:TypeId}{l c:Operand}(ho:o.op=.makeSlice t l c){i:TyI}{n m:Int}{u:Ty}(hi:yR g.T t=some i)(h1:yB g.T 0 s l=.val (.int .i64) n)(h2:yB g.T 0 s c=.val (.int .i64) m)(hty:i.ty=.slice u)
  (hk:y57 g s o i u n m K=some r):Eff P A0 w0 a w o K r:=by
 unfold y57 at hk;cases hb:(u.zok && decide (0<=n) && decide (n<=(memMax:Int)) && n == m)with
 |false=>rw[hb]at hk;cases hk
 |true =>
  rw[hb]at hk;simp only[cond_true]at hk;obtain ⟨q,hq,hk1⟩:=bind_eq_some_iff.1 hk;obtain ⟨d0,hd0,hk⟩:=bind_eq_some_iff.1 hk1;simp only[and_eq_true,decide_eq_true_eq,beq_iff_eq]at hb;obtain ⟨⟨⟨hz,h0⟩,hm⟩,rfl⟩:=hb;have h0:@LE.le Int _ 0 n:=h0;have hm:@LE.le Int _ n 68719476736:=hm;have e1:=yo (h1 ▸ (y5 (T:=g.T) h 0 l).1);have e2:=yo (h2 ▸ (y5 (T:=g.T) h 0 c).1);obtain ⟨hu,hF,hs0⟩:=yJ (hT.shape hi) (.inl hty);obtain ⟨inf,d,f1,f2,f3,f4,f5,f6⟩:=hF.ex;obtain ⟨inf',z,g1,g2,g3,g4,g5⟩:=y19 hF hz;rw[f1]at g1;cases g1;have hr:=y6p u.zeroV n.toNat;rw[yQ]at hr;have hnm:n.toNat<=memMax:=by simp only[memMax];omega
  have hby:(inf.bytes:Int) * n<=281474976710656:=by
   have hN:inf.bytes * n.toNat<=2048 * 68719476736:=Nat.mul_le_mul f4 hnm;have:(inf.bytes:Int) * n=((inf.bytes * n.toNat:Nat):Int):=by rw[Int.natCast_mul];congr 1;exact (Int.toNat_of_nonneg h0).symm
   rw[this];generalize inf.bytes * n.toNat=q at hN;omega
  have hrun:=run_make (P:=P) w t i.elem inf z hu f1 g2 .i64 .i64 n n h0 (Int.le_refl _) hby (by omega)
  have hzs:=yEI _ _ _ _ _ _ hd0;have hset:u.zeroV.set q.1 (.slice none 0 0)=u.zeroV:=by
   have hl:=(List.getElem?_eq_some_iff.1 hzs).1;apply List.ext_getElem?;intro j;by_cases hj:q.1=j
   ·subst hj;rw[getElem?_set_self hl,hzs]
   ·rw[getElem?_set_ne hj]
  have hfl:((List.replicate n.toNat u.zeroV).flatten).length=n.toNat * u.size:=by
   have:=(y0W (P:=P) (A:=λ _=>False) (w:=w) n.toNat hz).length
   simpa[Ty.size]using this
  have hM:=h.merge (w':=w.alloc (.cells (List.replicate n.toNat u.zeroV).flatten.toArray i.elem)) [] (ch':=.nst i.elem u q.1 q.2.1 q.2.2 (List.replicate n.toNat d0))
   (p:=⟨some w.heap.size,n.toNat,n.toNat,List.replicate n.toNat none,[],List.replicate n.toNat (none,0,0)⟩) rfl rfl rfl (by rw[size_alloc];omega) (λ k hk _=>(y01 w _).block k hk)
   (λ β hβ=>by cases hβ) (λ b hb=>by cases hb;exact .inr (le_refl _))
   (λ k hk=>by have:=List.eq_of_mem_replicate hk;cases this)
   (λ k hk=>by have:=List.eq_of_mem_replicate hk;cases this) (λ h=>by cases h) trivial rfl (λ A hA=>by
    refine ⟨⟨by simp,by simp,by simp⟩,λ j k b hj=>?_,.inr ⟨w.heap.size,_,rfl,heap_alloc_new w _,le_refl _,by simp only[maxLen];simp only[memMax]at hnm;omega,by simpa using hfl,λ j x hj=>?_⟩⟩
    ·have:=List.eq_of_mem_replicate (mem_of_getElem? hj);cases this
    ·have hjl:=(List.getElem?_eq_some_iff.1 hj).1;simp only[List.length_replicate]at hjl;have hx:=List.eq_of_mem_replicate (mem_of_getElem? hj);subst hx;refine ⟨_,List.getElem?_replicate_of_lt hjl,u.dflt,u.zeroV,[],y3V u hz,hd0,?_,rfl,0,rfl,.inl ⟨rfl,rfl,rfl⟩⟩;rw[show ((none:Option Nat),0,0).1.map (λ b=>(⟨b,0,none⟩:Addr))=none from rfl]
     rw[hset,List.toList_toArray];have h3:=(y5P u.zeroV n.toNat j hjl);rw[yQ]at h3;exact h3)
  refine Eff.val (v:=.slice (some ⟨w.heap.size,0,none⟩) n.toNat n.toNat) ?_ (hM.put o.dst (sv:=.own s.cH.length) ?_ ?_) hk
  ·simp only[execOp,ho,Sem.run_bind,e1,e2,hrun,Result.andThen_ok,Sem.run_pure];congr 3
   unfold madeCells;rw[g3,g4];apply Array.toList_inj.1;rw[Array.toList_map,Array.toList_range,<- hr]
  ·show s.cH.length < (yA2 [] s.cH++[_]).length
   simp[y1c]
  ·show _=Value.slice _ _ _
   rw[Places.set_self];rfl
theorem yCP(hT:yh P g.T)(h:Rel P A0 w0 ρ s a w){t:TypeId}{l c:Operand}(ho:o.op=.makeSlice t l c)(hk:effK g s o K=some r):Eff P A0 w0 a w o K r:=by
 simp only[effK,ho]at hk;split at hk
 ·rename_i i n m hi h1 h2;split at hk
  ·rename_i u hty;split at hk
   ·exact y7h hT h ho hi h1 h2 hty hk
   cases hb:(u.zok && decide (0<=n) && decide (n<=(memMax:Int)) && n == m)with
   |false=>rw[hb]at hk;cases hk
   |true =>
    rw[hb]at hk;simp only[cond_true]at hk;simp only[and_eq_true,decide_eq_true_eq,beq_iff_eq]at hb;obtain ⟨⟨⟨hz,h0⟩,hm⟩,rfl⟩:=hb;have h0:@LE.le Int _ 0 n:=h0;have hm:@LE.le Int _ n 68719476736:=hm;have e1:=yo (h1 ▸ (y5 (T:=g.T) h 0 l).1);have e2:=yo (h2 ▸ (y5 (T:=g.T) h 0 c).1);obtain ⟨hu,hF,hs0⟩:=yJ (hT.shape hi) (.inl hty);obtain ⟨inf,d,f1,f2,f3,f4,f5,f6⟩:=hF.ex;obtain ⟨inf',z,g1,g2,g3,g4,g5⟩:=y19 hF hz;rw[f1]at g1;cases g1;have hr:=y6p u.zeroV n.toNat;rw[yQ]at hr;have hnm:n.toNat<=memMax:=by simp only[memMax];omega
    have hrep:=List.length_replicate (n:=n.toNat) (a:=u.dflt);obtain ⟨ρ',hR⟩:=h.newArr (u:=u) (xs:=List.replicate n.toNat u.dflt) (l:=(List.replicate n.toNat u.zeroV).flatten) (e:=i.elem) o.dst
     (by rw[hrep];simp only[maxLen];simp only[memMax]at hnm;omega)
     (λ A hA=>by have:=y0W (P:=P) (A:=A) (w:=w.alloc (.cells (List.replicate n.toNat u.zeroV).flatten.toArray i.elem)) n.toNat hz;rw[hrep];exact this)
    rw[hrep]at hR;refine Eff.val ?_ hR hk;have hby:(inf.bytes:Int) * n<=281474976710656:=by
     have hN:inf.bytes * n.toNat<=2048 * 68719476736:=Nat.mul_le_mul f4 hnm;have:(inf.bytes:Int) * n=((inf.bytes * n.toNat:Nat):Int):=by rw[Int.natCast_mul];congr 1;exact (Int.toNat_of_nonneg h0).symm
     rw[this];generalize inf.bytes * n.toNat=q at hN;omega
    have hrun:=run_make (P:=P) w t i.elem inf z hu f1 g2 .i64 .i64 n n h0 (Int.le_refl _) hby (by omega)
    simp only[execOp,ho,Sem.run_bind,e1,e2,hrun,Result.andThen_ok,Sem.run_pure];congr 3
    unfold madeCells;rw[g3,g4];apply Array.toList_inj.1;rw[Array.toList_map,Array.toList_range,<- hr]
  ·cases hk
 ·cases hk
theorem yl{v:Value}(h:Value.plain1 v=true):v.oneCell'=true:=by
 cases v<;>first|rfl|(simp[Value.plain1]at h)
theorem y4c{A:Nat->Prop}{sv:SV}{v:Value}(hs:sv.scalar=true)(h:yE P A w ρ sv v):v.cells=[v].toArray/\v.oneCell'=true:=by
 cases sv with
 |undef=>cases hs
 |tup t x=>cases hs
 |xV t x=>cases hs
 |gone=>cases hs
 |sR β=>cases hs
 |nO β i=>cases hs
 |nP β i j sz off=>cases hs
 |meth f β=>obtain ⟨b,_,rfl⟩:=h;exact ⟨rfl,rfl⟩
 |val t x =>
  simp only[SV.scalar,Bool.not_eq_true']at hs;obtain ⟨l,hl,rfl⟩:=h;have h1:=hl.length;rw[y2V hs]at h1;obtain ⟨v,rfl⟩:=List.length_eq_one_iff.1 h1;have h2:t.wrap [v]=v:=by simp[Ty.wrap,hs]
  have hp:=y6.plain hl v (by simp)
  rw[h2];exact ⟨by cases v<;>first|rfl|(simp[Value.plain1]at hp),yl hp⟩
 |bP β off=>obtain ⟨b,_,rfl⟩:=h;exact ⟨rfl,rfl⟩
 |own β=>cases h;exact ⟨rfl,rfl⟩
 |eP β i sz off=>obtain ⟨b,_,rfl⟩:=h;exact ⟨rfl,rfl⟩
 |oS β i sz=>cases h;exact ⟨rfl,rfl⟩
 |clo f caps=>obtain ⟨vs,rfl,_⟩:=h;exact ⟨rfl,rfl⟩
 |nils=>cases h;exact ⟨rfl,rfl⟩
 |mO β=>simp only[yE]at h;subst h;exact ⟨rfl,rfl⟩
 |yld β=>obtain ⟨b,_,rfl⟩:=h;exact ⟨rfl,rfl⟩
 |mP β e=>obtain ⟨_,b,_,rfl|rfl⟩:=h<;>exact ⟨rfl,rfl⟩
theorem yGY:∀ (fs:List Field) (places:List (Nat×Nat)) (i:Nat) (fd:Field) (inf:TypeInfo),fs.mapM (λ f=>(P.info? f.type).map λ i=>(f.offset,i.size))=some places->fs[i]?=some fd->P.info? fd.type=some inf->places[i]?=some (fd.offset,inf.size)
 |[],places,i,fd,inf,_,hi,_=>by simp at hi
 |f::fs,places,i,fd,inf,hm,hi,h2=>by
  simp only[List.mapM_cons,Option.bind_eq_bind,bind_eq_some_iff,map_eq_some_iff,Option.pure_def,Option.some.injEq]at hm;obtain ⟨q,⟨j,hj,rfl⟩,rest,hr,rfl⟩:=hm;cases i with
  |zero=>simp at hi;subst hi;rw[h2]at hj;cases hj;rfl
  |succ i=>simpa using yGY fs rest i fd inf hr (by simpa using hi) h2
theorem yDd{A:Nat->Prop}{cs:List (Option Chunk)}{m off:Nat}{cells:List SV}(hfr:∀ β,m<=β->β < cs.length->ρ β=⟨none,0,0,[],[],[]⟩)(hin:∀ sv∈cells,sv.inn cs.length){sv sv':SV}{v:Value}(hs:yE P A w ρ sv v)(h1:yE P A w ρ sv' v)(h2:sv'.inn cs.length) :
  yE P A w ρ (yGR m cells off sv sv') v/\(yGR m cells off sv sv').inn cs.length:=by
 unfold yGR;split
 ·split
  ·rename_i γ hγ;split
   ·rename_i hm;have hi:γ < cs.length:=hin _ (mem_of_getElem? hγ);have hr:=hfr γ hm hi;have hv:v=.slice none 0 0:=hs;refine ⟨?_,hi⟩;show v=.slice ((ρ γ).blk.map λ b=>⟨b,0,none⟩) (ρ γ).len (ρ γ).cap
    rw[hr,hv];rfl
   ·exact ⟨h1,h2⟩
  ·exact ⟨h1,h2⟩
 ·exact ⟨h1,h2⟩
theorem y4l(hE:∀ e∈g.E,FnOK P e)(hT:yh P g.T)(h:Rel P A0 w0 ρ s a w){m0:Nat}(hfr:∀ β,m0<=β->β < s.cH.length->ρ β=⟨none,0,0,[],[],[]⟩){fs:List Field}{places:List (Nat×Nat)}(hpl:fs.mapM (λ f=>(P.info? f.type).map λ i=>(f.offset,i.size))=some places) :
  ∀ (ps:List (Nat×Operand)) (cells:List SV) (l:List Value) (cells':List SV),yD P (Av A0 ρ s.cH) w ρ cells l->(∀ sv∈cells,sv.inn s.cH.length)->yBB g.E m0 s g.T (fs.map λ f=>(f.offset,f.type)) ps cells=some cells' ->
   ∃ cs,Instr.fill (places.toArray[·]?) l.toArray (ps.map λ p=>(p.1,a.eval p.2))=some cs/\yD P (Av A0 ρ s.cH) w ρ cells' cs.toList/\∀ sv∈cells',sv.inn s.cH.length
 |[],cells,l,cells',hc,hin,hk=>by
  simp only[yBB,Option.some.injEq]at hk;subst hk;exact ⟨l.toArray,rfl,hc,hin⟩
 |p::ps,cells,l,cells',hc,hin,hk=>by
  simp only[yBB]at hk;obtain ⟨q,hq,hk1⟩:=bind_eq_some_iff.1 hk;obtain ⟨i,hi,hk2⟩:=bind_eq_some_iff.1 hk1;obtain ⟨svs,hsv,hk3⟩:=bind_eq_some_iff.1 hk2;obtain ⟨hfit,hk4⟩:=yG hk3;rw[getElem?_map,map_eq_some_iff]at hq;obtain ⟨fd,hfd,rfl⟩:=hq;have hF:=hT.fits hi;obtain ⟨inf,d,f1,_,f3,_⟩:=hF.ex;have hs:=y5 (T:=g.T) h fd.type p.2;have hp:=yGY fs places p.1 fd inf hpl hfd f1;obtain ⟨m,hm1,hm2,hm3,hm4⟩:∃ m,(a.eval p.2).cells=m.toArray/\m.length=inf.size/\yD P (Av A0 ρ s.cH) w ρ svs m/\∀ sv∈svs,sv.inn s.cH.length:=by
   split at hsv
   ·obtain ⟨y,hy,rfl⟩:=map_eq_some_iff.1 hsv;obtain ⟨m,h1,h2⟩:=yw hs.1 hy;exact ⟨m,by rw[h2];exact y0J h1,by rw[h1.length,f3],y1w (ρ:=ρ) i.ty y m h1,y3a _ _ _⟩
   ·rename_i hag;obtain ⟨hsc,hsv⟩:=yG hsv;cases hsv;have h1:=yAM hE i.ty hs.1 hs.2;obtain ⟨h2,_⟩:=y4c hsc h1.1;have h1:=yDd (m:=m0) (off:=fd.offset) hfr hin hs.1 h1.1 h1.2;exact ⟨[a.eval p.2],h2,by rw[f3,y2V (by simpa using hag)];rfl,yD.one h1.1,λ sv hsv=>by simp only[mem_singleton]at hsv;subst hsv;exact h1.2⟩
  have hsl:=hm3.1;have hcl:=hc.1;have hfin:yD P (Av A0 ρ s.cH) w ρ (cells.take fd.offset++svs++cells.drop (fd.offset+svs.length)) (l.take fd.offset++m++l.drop (fd.offset+m.length)):=by
   rw[hsl];exact ((hc.take _).append hm3).append (hc.drop _)
  obtain ⟨cs,h8,h9,h10⟩:=y4l hE hT h hfr hpl ps _ _ cells' hfin (λ sv hsv=>by
   rcases mem_append.1 hsv with hsv|hsv
   ·rcases mem_append.1 hsv with hsv|hsv
    ·exact hin sv (List.mem_of_mem_take hsv)
    ·exact hm4 sv hsv
   ·exact hin sv (List.mem_of_mem_drop hsv)) hk4
  refine ⟨cs,?_,h9,h10⟩;have hfit':fd.offset+svs.length<=cells.length:=hfit;rw[map_cons,y88 (off:=fd.offset) (sz:=inf.size) (by simpa using hp) hm1 hm2 (by simp;omega),<- h8]
  simp[hm2]
theorem y6n(hE:∀ e∈g.E,FnOK P e)(hT:yh P g.T)(h:Rel P A0 w0 ρ s a w){t:TypeId}{ps:Array (Nat×Operand)}(ho:o.op=.build t ps)(hk:effK g s o K=some r):Eff P A0 w0 a w o K r:=by
 simp only[effK,ho,y4M]at hk;split at hk;rotate_left
 ·cases hk
 rename_i i hi;obtain ⟨hz,hk1⟩:=yG hk;simp only[and_eq_true]at hz;obtain ⟨hp,hz⟩:=hz;split at hk1
 ·obtain ⟨hpr,hk1⟩:=yG hk1;obtain ⟨cells,hcs,hk2⟩:=bind_eq_some_iff.1 hk1;generalize (i.fields.map λ q:Nat×TypeId=>q.2)=F at hpr hcs hk2
  obtain ⟨fs,h1,h2,h3⟩:=y2C (hT.shape hi) hp;have hag:i.ty.agg=true:=by cases hty:i.ty<;>simp_all [Ty.isPair,Ty.agg]
  obtain ⟨inf,z,h4,h5,h6,h7,h8⟩:=y19 (hT.fits hi) hz;obtain ⟨pl,hpl⟩:=y8f _ _ _ h3;obtain ⟨ρ',g1,g2,g3⟩:=Rel.addNone g.T F h;have hz0:=y0Q (P:=P) (A:=Av A0 ρ' (s.cH++yK g.T F)) (w:=w) (ρ:=ρ') F s.cH.length i.ty hpr g3;rw[h2]at hcs;obtain ⟨cs,h9,h10,h11⟩:=y4l hE hT g1 (λ β h1 h2=>g3 β h1 (by simpa using h2)) hpl ps.toList _ _ cells hz0.1 (λ sv hsv=>by have:=hz0.2 sv hsv;simpa using this) hcs
  have hb:P.built t (ps.map λ (i,x)=>(i,a.eval x)).toList=some cs:=by
   unfold Program.built;simp only[h4,h1,h5,hpl,h7];rw[y1U];exact h9
  have hN:=g1.newChunk (w':=w) (.rcd i.ty cells) ⟨none,0,0,[],cs.toList,[]⟩ (Below.refl _ _) (λ b hb=>by cases hb) h11 (λ A hA _=>⟨rfl,.inl ⟨hag,rfl⟩,h10.1,λ j sv hj=>by
   obtain ⟨v,hv,hr⟩:=h10.2 j sv hj;exact ⟨v,hv,hr.mono (λ _ _ _=>rfl) hA⟩⟩)
  refine Eff.val (v:=.agg cs) (w':=w) ?_ (hN.put o.dst (sv:=.sR (s.cH++yK g.T F).length) ?_ ?_) hk2
  ·have hrb:=run_build w t _ cs hb;simp only[execOp,ho,Sem.run_bind,hrb,Result.andThen_ok,Sem.run_pure]
  ·show (s.cH++yK g.T F).length < ((s.cH++yK g.T F)++[_]).length
   simp
  ·show Value.agg cs=recV (Places.set ρ' (s.cH++yK g.T F).length _ (s.cH++yK g.T F).length).len (Places.set ρ' (s.cH++yK g.T F).length _ (s.cH++yK g.T F).length).vals
   rw[Places.set_self];rfl
 obtain ⟨cells,hcs,hk2⟩:=bind_eq_some_iff.1 hk1;obtain ⟨fs,h1,h2,h3⟩:=y2C (hT.shape hi) hp;have hag:i.ty.agg=true:=by cases hty:i.ty<;>simp_all [Ty.isPair,Ty.agg]
 obtain ⟨inf,z,h4,h5,h6,h7,h8⟩:=y19 (hT.fits hi) hz;obtain ⟨pl,hpl⟩:=y8f _ _ _ h3;have hz0:=y6j (P:=P) (A:=Av A0 ρ s.cH) (w:=w) (ρ:=ρ) i.ty;rw[h2]at hcs;obtain ⟨cs,h9,h10,h11⟩:=y4l hE hT h (λ β h1 h2=>absurd h2 (by omega)) hpl ps.toList _ _ cells hz0 (y6b _ _) hcs
 have hb:P.built t (ps.map λ (i,x)=>(i,a.eval x)).toList=some cs:=by
  unfold Program.built;simp only[h4,h1,h5,hpl,h7];rw[y1U];exact h9
 have hN:=h.newChunk (w':=w) (.rcd i.ty cells) ⟨none,0,0,[],cs.toList,[]⟩ (Below.refl _ _) (λ b hb=>by cases hb) h11 (λ A hA _=>⟨rfl,.inl ⟨hag,rfl⟩,h10.1,λ j sv hj=>by
  obtain ⟨v,hv,hr⟩:=h10.2 j sv hj;exact ⟨v,hv,hr.mono (λ _ _ _=>rfl) hA⟩⟩)
 refine Eff.val (v:=.agg cs) (w':=w) ?_ (hN.put o.dst (sv:=.sR s.cH.length) ?_ ?_) hk2
 ·have hrb:=run_build w t _ cs hb;simp only[execOp,ho,Sem.run_bind,hrb,Result.andThen_ok,Sem.run_pure]
 ·show s.cH.length < (s.cH++[_]).length
  simp
 ·show Value.agg cs=recV (Places.set ρ s.cH.length _ s.cH.length).len (Places.set ρ s.cH.length _ s.cH.length).vals
  rw[Places.set_self];rfl
theorem yBV(h:Rel P A0 w0 ρ s a w){t u:Ty}{q:Nat}{e':TypeId}{sv:SV}{v:Value}(hv:yE P (Av A0 ρ s.cH) w ρ sv v){γ:Nat}{x:t.den}(hr:yEV s.cH t q e' u sv=some (γ,x)) :
  ∃ (vals:List Value) (ys:List u.den) (nn:Bool),v=.agg vals.toArray/\t.agg=true/\s.cH[γ]?=some (some (.arr e' u ys nn))/\NRel P (Av A0 ρ s.cH) w t q e' u x vals ((ρ γ).blk,(ρ γ).len,(ρ γ).cap):=by
 unfold yEV at hr;split at hr;rotate_left
 ·cases hr
 rename_i β;split at hr;rotate_left
 ·cases hr
 rename_i t' cells hch;split at hr;rotate_left
 ·cases hr
 rename_i δ hcell;split at hr;rotate_left
 ·cases hr
 rename_i e v' ys nn hch2;obtain ⟨⟨rfl,rfl⟩,hr1⟩:=yG hr;obtain ⟨ys',hys,hr2⟩:=bind_eq_some_iff.1 hr1;obtain ⟨x0,hx0,hr3⟩:=bind_eq_some_iff.1 hr2;obtain ⟨x',hx',he⟩:=map_eq_some_iff.1 hr3;cases he;obtain ⟨e2,he2⟩:=y3F hys;cases e2;simp only at he2;subst he2;obtain ⟨_,hag,hvl,hvc⟩:=(h.cH β _ (getD_some hch)).1;have hcr:yD P (Av A0 ρ s.cH) w ρ cells (ρ β).vals:=⟨hvl,λ i sv hi=>hvc i sv hi⟩
 obtain ⟨v0,hv0,hv1⟩:=hvc q _ hcell;simp only[yE]at hv1;have harr:=(h.cH γ _ (getD_some hch2)).1;have hlt:=(List.getElem?_eq_some_iff.1 hv0).1;have hset:yD P (Av A0 ρ s.cH) w ρ (cells.set q .nils) ((ρ β).vals.set q (.slice none 0 0)):=by
  refine ⟨by simpa using hcr.1,λ i sv hi=>?_⟩
  by_cases hiq:q=i
  ·subst hiq;rw[getElem?_set_self (by have:=hcr.1;omega)]at hi
   cases hi;exact ⟨_,getElem?_set_self hlt,rfl⟩
  ·rw[getElem?_set_ne hiq]at hi;obtain ⟨v,h1,h2⟩:=hcr.2 i sv hi;exact ⟨v,by rw[getElem?_set_ne hiq];exact h1,h2⟩
 have hx1:=y1Z _ _ _ _ hset hx0;obtain ⟨hag,hln⟩:t'.agg=true/\(ρ β).len=0:=by
  rcases hag with h'|⟨hb,_,h22⟩
  ·exact h'
  ·exfalso
   have h7:=hx1.length;rw[List.length_set,hvl,hb]at h7;simp only[Ty.size]at h7;omega
 have hv:v=.agg (ρ β).vals.toArray:=by
  have h0:v=recV (ρ β).len (ρ β).vals:=hv;rw[h0];simp[recV,hln]
 refine ⟨(ρ β).vals,ys',nn,hv,hag,getD_some hch2,x0,_,ys',hx1,hx',?_,?_,y0z.of_arr harr⟩
 ·rw[List.set_set];apply List.ext_getElem?;intro j;by_cases hj:q=j
  ·subst hj;rw[getElem?_set_self hlt,hv0,hv1]
  ·rw[getElem?_set_ne hj]
 ·exact harr.1.symm
theorem y6f(hT:yh P g.T)(h:Rel P A0 w0 ρ s a w){t:TypeId}{n:Nat}{ps:Array (Nat×Operand)}(ho:o.op=.buildSlice t n ps)(hk:y3g g s o t n ps.toList K=some r):Eff P A0 w0 a w o K r:=by
 unfold y3g at hk;split at hk;rotate_left
 ·cases hk
 rename_i i x hi hps;split at hk;rotate_left
 ·cases hk
 rename_i u hty;obtain ⟨q,hq,hk1⟩:=bind_eq_some_iff.1 hk;obtain ⟨⟨rfl,hz,hsz⟩,hk2⟩:=yG hk1;obtain ⟨⟨γ,y⟩,hp,hk3⟩:=bind_eq_some_iff.1 hk2;obtain ⟨vals,ys,nn,hv,hag,hγ,hN⟩:=yBV h (y5 (T:=g.T) h i.elem x).1 hp;obtain ⟨h1,h2,h0⟩:=yJ (hT.shape hi) (.inl hty);have hvl:vals.length=u.size:=hN.length;have hfill:Instr.fill (λ i=>some (i * u.size,u.size)) (List.replicate 1 u.zeroV).flatten.toArray (ps.map λ (i,x)=>(i,a.eval x)).toList=some vals.toArray:=by
  rw[y1U,hps];simp only[map_cons,map_nil];rw[y88 (off:=0) (sz:=u.size) (m:=vals) (by simp) (by rw[hv];rfl) hvl (by simp[yQ])]
  simp[Instr.fill,yQ]
 have hrun:=y2k (P:=P) (w:=w) (n:=1) h1 h2 hz (by omega) hfill
 have hcl:=(h.cH γ _ hγ).1;have hps':(some (w.heap.size):Option Nat)=some w.heap.size:=rfl;have hM:=h.merge (w':=w.alloc (.cells vals.toArray i.elem)) [γ] (ch':=.nst i.elem u q.1 q.2.1 q.2.2 [y])
  (p:=⟨some w.heap.size,1,1,[(ρ γ).blk],[],[((ρ γ).blk,(ρ γ).len,(ρ γ).cap)]⟩) rfl rfl rfl (by rw[size_alloc];omega) (λ n hn _=>(y01 w _).block n hn)
  (λ β hβ=>by simp only[mem_singleton]at hβ;subst hβ;exact ⟨_,hγ,rfl⟩) (λ b hb=>by cases hb;exact .inr (le_refl _))
  (λ n hn=>⟨γ,by simp,.inl (by simp only[mem_singleton]at hn;exact hn.symm)⟩)
  (λ n hn=>by
   simp only[mem_singleton]at hn;have:=hcl.lt hn.symm;intro e;cases e;omega) (λ h=>by cases h) trivial rfl (λ A hA=>by
   refine ⟨⟨rfl,rfl,rfl⟩,λ i j n hi hj=>?_,.inr ⟨w.heap.size,vals.toArray,rfl,heap_alloc_new w _,le_refl _,by simp[maxLen],by simp[hvl],λ j x hj=>?_⟩⟩
   ·have hi1:=(List.getElem?_eq_some_iff.1 hi).1;have hj1:=(List.getElem?_eq_some_iff.1 hj).1;simp only[List.length_singleton]at hi1 hj1;omega
   ·have hj1:=(List.getElem?_eq_some_iff.1 hj).1;simp only[List.length_singleton]at hj1;have:j=0:=by omega
    subst this;simp only[List.getElem?_cons_zero,Option.some.injEq]at hj;subst hj;refine ⟨_,rfl,?_⟩;have e1:((vals.toArray.toList.drop (0 * u.size)).take u.size)=vals:=by simp[<- hvl]
    rw[e1];exact hN.frame (λ n _ hn=>(y01 w _).block n hn) (y3S _ _ _) hA)
 refine Eff.val (v:=.slice (some ⟨w.heap.size,0,none⟩) 1 1) ?_ (hM.put o.dst (sv:=.own s.cH.length) ?_ ?_) hk3
 ·simp only[execOp,ho,Sem.run_bind,hrun,Result.andThen_ok,Sem.run_pure]
 ·show s.cH.length < (yA2 [γ] s.cH++[_]).length
  simp[y1c]
 ·show _=Value.slice _ _ _
  rw[Places.set_self];rfl
theorem y9l(hE:∀ e∈g.E,FnOK P e)(hT:yh P g.T)(h:Rel P A0 w0 ρ s a w){t:TypeId}{n:Nat}{ps:Array (Nat×Operand)}(ho:o.op=.buildSlice t n ps)(hk:effK g s o K=some r):Eff P A0 w0 a w o K r:=by
 simp only[effK,ho]at hk;split at hk
 ·exact y6f hT h ho hk
 have hS:=Rel.settleAll (ps.toList.map (·.2)) h;generalize settleAll (ps.toList.map (·.2)) s=s1 at hk hS;split at hk
 ·rename_i i hi;split at hk
  ·rename_i u hty;split at hk
   ·cases hk
   ·rename_i hz;simp only[Bool.not_eq_true',and_eq_true,decide_eq_true_eq,Bool.not_eq_false]at hz;simp only[bind_eq_some_iff]at hk;obtain ⟨y,hy,hk⟩:=hk;obtain ⟨h1,h2,h0⟩:=yJ (hT.shape hi) (.inl hty);obtain ⟨cs,h3,h4⟩:=y4H hE hS _ _ _ _ (y0W n hz.1) hy;have h4':=h4;simp only[y6]at h4';obtain ⟨h5,h6,h7⟩:=h4';have hn:y.length<=maxLen:=by
     rw[h6];simp only[maxLen];have:n * 1<=n * u.size:=Nat.mul_le_mul_left _ (by omega)
     omega
    obtain ⟨ρ',hR⟩:=hS.newArr (u:=u) (xs:=y) (l:=cs.toList) (e:=i.elem) o.dst hn
     (λ A hA=>by rw[h6];exact h4.mono (y3S _ _ _) hA)
    rw[h6]at hR;refine Eff.val ?_ hR hk;simp only[execOp,ho,Sem.run_bind];rw[y2k h1 h2 hz.1 hz.2 (by rw[y1U];exact h3)]
    rfl
  ·cases hk
 ·cases hk
theorem yDa(h:Rel P A0 w0 ρ s a w)(ho:o.op=.assign (.const (.slice none 0 0)))(hk:effK g s o K=some r):Eff P A0 w0 a w o K r:=by
 simp only[effK,ho]at hk;split at hk
 ·rename_i i hi;split at hk
  ·rename_i u hty;split at hk
   ·obtain ⟨q,hq,hk⟩:=bind_eq_some_iff.1 hk;have h1:=h.newChunk (w':=w) (.nst i.elem u q.1 q.2.1 q.2.2 []) ⟨none,0,0,[],[],[]⟩ (Below.refl _ _) (λ b hb=>by cases hb) trivial
     (λ A hA _=>⟨⟨rfl,rfl,rfl⟩,λ i j n hi=>by simp at hi,.inl ⟨rfl,rfl,rfl⟩⟩)
    refine Eff.val (v:=.slice none 0 0) (w':=w) ?_ (h1.put o.dst (sv:=.own s.cH.length) ?_ ?_) hk
    ·simp[execOp,ho,Act.eval]
    ·show s.cH.length < (s.cH++[_]).length
     simp
    ·show _=Value.slice _ _ _
     rw[Places.set_self];rfl
   have h1:=h.newChunk (w':=w) (.arr i.elem u [] false) ⟨none,0,0,[],[],[]⟩ (Below.refl _ _) (λ b hb=>by cases hb) trivial
    (λ A hA _=>⟨rfl,λ h=>by simp at h,.inl ⟨rfl,rfl,rfl⟩⟩)
   refine Eff.val (v:=.slice none 0 0) (w':=w) ?_ (h1.put o.dst (sv:=.own s.cH.length) ?_ ?_) hk
   ·simp[execOp,ho,Act.eval]
   ·show s.cH.length < (s.cH++[_]).length
    simp
   ·show _=Value.slice _ _ _
    rw[Places.set_self];rfl
  ·cases hk
 ·cases hk
theorem y9v(hT:yh P g.T)(h:Rel P A0 w0 ρ s a w){t:TypeId}{x:Operand}(ho:o.op=.range t x)(hk:effK g s o K=some r):Eff P A0 w0 a w o K r:=by
 simp only[effK,ho]at hk;have hx:=(y5 (T:=g.T) h t x).1;split at hk
 ·rename_i i bs hi he;obtain ⟨hty,hk⟩:=yG hk;rw[he]at hx;have hu:=y2H (hT.shape hi) hty;have h1:=h.newChunk (.it bs 0) ⟨some w.heap.size,0,0,[],[],[]⟩ (y01 w (.stringIter ⟨bs.toArray⟩ 0)) (λ b hb=>by cases hb;exact le_refl _) trivial
   (λ A hA _=>⟨w.heap.size,0,rfl,heap_alloc_new w _,rfl⟩)
  refine Eff.val (v:=.pointer (some ⟨w.heap.size,0,none⟩)) ?_ (h1.put o.dst (sv:=.bP s.cH.length 0) ?_ ?_) hk
  ·simp only[execOp,ho,y3p hx];simp[Instr.range,run_underlying hu]
  ·show s.cH.length < (s.cH++[_]).length
   simp
  ·refine ⟨w.heap.size,?_,rfl⟩;show (Places.set ρ s.cH.length ⟨some w.heap.size,0,0,[],[],[]⟩ s.cH.length).blk=_
   rw[Places.set_self]
 ·cases hk
theorem yER(h:Rel P A0 w0 ρ s a w){it:Operand}(ho:o.op=.next it true)(hk:yM1 g s o it K=some r):Eff P A0 w0 a w o K r:=by
 unfold yM1 at hk;have hx:=(y5 (T:=g.T) h 0 it).1;split at hk
 ·rename_i β he;rw[he]at hx;split at hk
  ·rename_i bs q hch;have hc:=getD_some hch;obtain ⟨b,n,hb,h1,rfl⟩:=(h.cH β _ hc).1;obtain ⟨b',hb',hv⟩:=hx;rw[hb]at hb';cases hb';have hsz:(⟨bs.toArray⟩:ByteArray).size=bs.length:=by simp[ByteArray.size]
   cases hd:decide ((n:Int) < (bs.length:Int))with
   |true =>
    rw[hd]at hk;simp only[cond_true]at hk;have hlt:n < (⟨bs.toArray⟩:ByteArray).size:=by simp at hd;omega
    have hset:∀ ob:Obj,(setObj b ob).run P w=.ok () { w with heap:=w.heap.setIfInBounds b ob }:=λ ob=>by simp[setObj,Sem.run,h1]
    have hW:=h.write (w':={ w with heap:=w.heap.setIfInBounds b (.stringIter ⟨bs.toArray⟩ (n+(Utf8.decode ⟨bs.toArray⟩ n).2)) }) (ch':=.it bs (yp bs (n:Int)).2) hc hb (λ m hm=>by simp[Array.getElem?_setIfInBounds_ne (Ne.symm hm)]) (by simp) rfl rfl rfl trivial
     (λ A hA=>⟨b,n+(Utf8.decode ⟨bs.toArray⟩ n).2,hb,by simp[yM h1],by simp[yp]⟩)
    refine Eff.val (v:=.tuple #[.bool true,.int .i64 (n:Int),.int .i32 ((Utf8.decode ⟨bs.toArray⟩ n).1:Int)]) ?_ (hW.put o.dst (sv:=.tup (.pair .bool (.pair (.int .i64) (.pair (.int .i32) .unit))) (true,(n:Int),(yp bs (n:Int)).1,())) trivial ?_) hk
    ·simp only[execOp,ho,hv,Instr.next,getObj,Sem.run_bind,Sem.run,h1,Result.andThen_ok,hlt,if_true,hset]
     rfl
    ·refine ⟨[.bool true,.int .i64 (n:Int),.int .i32 ((Utf8.decode ⟨bs.toArray⟩ n).1:Int)],⟨[.bool true],_,rfl,rfl,⟨[.int .i64 (n:Int)],_,rfl,rfl,⟨[.int .i32 ((Utf8.decode ⟨bs.toArray⟩ n).1:Int)],[],rfl,?_,rfl⟩⟩⟩,rfl⟩;simp[y6,yp]
   |false =>
    rw[hd]at hk;simp only[cond_false]at hk;have hlt:¬ n < (⟨bs.toArray⟩:ByteArray).size:=by simp at hd;omega
    refine Eff.val (v:=.tuple #[.bool false]) (w':=w) ?_ (h.put o.dst (sv:=.tup (.pair .bool .unit) (false,())) trivial ?_) hk
    ·simp only[execOp,ho,hv,Instr.next,getObj,Sem.run_bind,Sem.run,h1,Result.andThen_ok,hlt,if_false]
     rfl
    ·exact ⟨[.bool false],⟨[.bool false],[],rfl,rfl,rfl⟩,rfl⟩
  ·cases hk
 ·cases hk
theorem yQ3{α:Type}{c:Prop}[Decidable c]{x y z:α}(h:(if c then x else y)=z):(c/\x=z)\/(¬ c/\y=z):=by
 split at h
 ·exact .inl ⟨‹_›,h⟩
 ·exact .inr ⟨‹_›,h⟩
theorem y7Y(h:Rel P A0 w0 ρ s a w){t:TypeId}(ho:o.op=.makeMap t none)(hk:effK g s o K=some r):Eff P A0 w0 a w o K r:=by
 simp only[effK,ho]at hk;have fin:∀ ch:Chunk,ch.inn s.cH.length->ch.lpNo=none->(∀ A,yC P A (w.alloc (.map #[] 0)) ρ ⟨some w.heap.size,0,0,[],[],[]⟩ ch) ->
   K ({ s with cH:=s.cH++[some ch] }.put o.dst (.mO s.cH.length))=some r->Eff P A0 w0 a w o K r:=by
  intro ch hin hlp hr hk;have h1:=h.newChunk ch ⟨some w.heap.size,0,0,[],[],[]⟩ (y01 w (.map #[] 0)) (λ b hb=>by cases hb;exact le_refl _) hin
   (λ A hA _=>hr A) (λ q hq=>by rw[hlp]at hq;cases hq)
  refine Eff.val (v:=.map (some w.heap.size)) ?_ (h1.put o.dst (sv:=.mO s.cH.length) ?_ ?_) hk
  ·simp only[execOp,ho,Option.map_none,Instr.makeMap];rfl
  ·show s.cH.length < (s.cH++[_]).length
   simp
  ·show Value.map (some w.heap.size)=.map (Places.set ρ s.cH.length ⟨some w.heap.size,0,0,[],[],[]⟩ s.cH.length).blk
   rw[Places.set_self]
 split at hk
 ·split at hk
  ·rename_i u v hty;rcases yQ3 hk with ⟨_,hk⟩|⟨_,hk⟩
   ·split at hk
    ·exact fin (.mps u _ _ [] none) (λ q hq=>by cases hq) rfl (λ A=>⟨w.heap.size,#[],0,rfl,heap_alloc_new w _,⟨rfl,rfl⟩,⟨⟨λ i j n hi=>by simp at hi,λ i j x y hi=>by simp at hi⟩,λ q hq=>by cases hq⟩,λ i x hi=>by simp at hi⟩) hk
    ·cases hk
   ·exact fin (.mp u v []) trivial rfl (λ A=>⟨w.heap.size,#[],0,rfl,heap_alloc_new w _,rfl,λ i x hi=>by simp at hi⟩) hk
  ·cases hk
 ·cases hk
theorem y6Y:∀ {u:Ty} (y:u.den) (n:Nat),u.keyF=true->∀ v∈u.flatV y,Instr.sameBits n v v=true
 |.unit,_,_,_,v,hv=>by simp[Ty.flatV]at hv
 |.pair a b,y,n,hk,v,hv=>by
  have hk':a.keyPart=true/\b.keyF=true:=by simpa[Ty.keyF]using hk
  simp only[Ty.flatV,mem_append]at hv;rcases hv with hv|hv
  ·cases a<;>first|(cases hk'.1;done)|skip
   all_goals
    simp only[Ty.flatV,mem_singleton]at hv;subst hv;cases n<;>simp[Instr.sameBits,y8K]
  ·exact y6Y y.2 n hk'.2 v hv
theorem y78{u:Ty}(hu:u.keyAll=true)(y:u.den):Instr.sameBits 10000 (yc u y) (yc u y)=true:=by
 rcases y7I hu with hk|hk
 ·cases u with
  |str=>simp[yc,Ty.wrap,Ty.agg,Ty.flatV,Instr.sameBits,y8K]
  |int j=>simp[yc,Ty.wrap,Ty.agg,Ty.flatV,Instr.sameBits]
  |_=>cases hk
 ·have hag:u.agg=true:=by cases u<;>first|rfl|(cases hk;done)
  have hf:=y6Y (u:=u) y 9999 hk;unfold yc Ty.wrap;rw[if_pos hag];show (_ == _ && _)=true
  simp only[beq_self_eq_true,Bool.true_and,List.all_eq_true];intro q hq;obtain ⟨i,h1,h2⟩:=List.mem_iff_getElem.1 hq;simp only[List.getElem_zip]at h2;subst h2;exact hf _ (List.getElem_mem _)
theorem yHk(hT:yh P g.T)(h:Rel P A0 w0 ρ s a w){t:TypeId}{m key x:Operand}(ho:o.op=.insert t m key x\/o.op=.mapUpdate t m key x)(hk:putM g s o t m key x K=some r):Eff P A0 w0 a w o K r:=by
 unfold putM at hk;split at hk
 ·rename_i i β γ hi hm hx;split at hk
  ·rename_i u e v es q e' v' xs nn hch hcg;split at hk
   ·rename_i hh;obtain ⟨hty,hkey,he,hv⟩:=hh;subst he;subst hv;obtain ⟨y,hy,hk⟩:=bind_eq_some_iff.1 hk;cases hq:y6t u q.1 y with
    |false=>rw[hq]at hk;cases hk
    |true =>
    rw[hq]at hk;simp only[cond_true]at hk;have hqy:q.1=y:=(y0V hkey).1 hq;have hc:=getD_some hch;have hg:=getD_some hcg;obtain ⟨kt,et,dk,h1,h2,h3,h4,h5⟩:=y62 (hT.shape hi) hty;obtain ⟨ly,hly,hiv⟩:=yw (y5 (T:=g.T) h 0 key).1 hy;rw[y7t (y9c hkey) hly]at hiv;have hxv:=(y5 (T:=g.T) h 0 x).1;rw[hx]at hxv;simp only[yE]at hxv;have hmv:=(y5 (T:=g.T) h t m).1;rw[hm]at hmv;obtain ⟨b,ms,c,hb,g1,g2,⟨⟨g3,g3k⟩,_⟩,g5⟩:=(h.cH β _ hc).1;have ha:=(h.cH γ _ hg).1;simp only[yE]at hmv;rw[hb]at hmv;have hex:(execOp a.eval o).run P w=((Instr.mapUpdate t (a.eval m) (a.eval key) (a.eval x)).run P w).andThen λ _ w'=>.ok .skip w':=by
     rcases ho with ho|ho<;>(simp only[execOp,ho,Sem.run_bind];rfl)
    have hkeys:∀ (j:Nat) (e:MapEntry) (p:u.den×List v'.den),ms.toList[j]?=some e->es[j]?=some p->e.key=yc u p.1:=by
     intro j e p he hp;obtain ⟨m',o',r1,_,r2,_⟩:=g5 j p hp;rw[Array.getElem?_toList,r1]at he;cases he;exact r2
    have hlt:=yM g1;have hbn:(ρ γ).blk≠some b:=λ hh=>by
     have:=h.inj γ β _ _ hg hc (hh.trans hb.symm) (by rw[hh];simp)
     subst this;rw[hc]at hg;cases hg
    have hsb:∀ n,some n∈(ρ β).subs->n≠b:=λ n hn hh=>h.subs.apart β β _ _ n hc hc hn (hh ▸ hb)
    have hset:∀ ob:Obj,(setObj b ob).run P w=.ok () { w with heap:=w.heap.setIfInBounds b ob }:=λ ob=>by simp[setObj,Sem.run,g1]
    have fin:∀ (ms':Array MapEntry) (c':Nat) (S:List (Option Nat)),(Instr.mapUpdate t (a.eval m) (a.eval key) (a.eval x)).run P w=.ok () { w with heap:=w.heap.setIfInBounds b (.map ms' c') }->ms'.size=(y0a u (.slice v') es y xs).length->S.length=(y0a u (.slice v') es y xs).length ->
      (∀ n,some n∈S->some n∈(ρ β).subs\/(ρ γ).blk=some n) ->
      (∀ i j n:Nat,S[i]?=some (some n)->S[j]?=some (some n)->i=j) ->
      (∀ (i j:Nat) (x y':u.den×List v'.den),(y0a u (.slice v') es y xs)[i]?=some x->(y0a u (.slice v') es y xs)[j]?=some y'->y6t u x.1 y'.1=true->i=j) ->
      (∀ (j:Nat) (p:u.den×List v'.den),(y0a u (.slice v') es y xs)[j]?=some p->∃ (en:MapEntry) (o':Option Nat),ms'[j]?=some en/\S[j]?=some o'/\en.key=yc u p.1/\y0z P (Av A0 ρ s.cH) w e' v' p.2 o' en.val) ->
      Eff P A0 w0 a w o K r:=by
     intro ms' c' S hrun hlen hlenS hS hinj hkk hent;have hkk':∀ n,n≠b->({ w with heap:=w.heap.setIfInBounds b (.map ms' c') }:World).heap[n]?=w.heap[n]?:=λ n hn=>by simp[Array.getElem?_setIfInBounds_ne (Ne.symm hn)]
     have hKw:Keep (Av A0 ρ s.cH) w { w with heap:=w.heap.setIfInBounds b (.map ms' c') }:=λ n hn hnA=>by
      have:b≠n:=λ e=>hnA (.inr ⟨β,_,hc,e ▸ hb⟩)
      simp[Array.getElem?_setIfInBounds_ne this]
     have hW:=h.absorb (w':={ w with heap:=w.heap.setIfInBounds b (.map ms' c') }) (es':=y0a u (.slice v') es y xs) (S:=S) hc hg hb g1 hS hkk' (by simp) rfl rfl rfl
      (λ A hA=>⟨b,ms',c',hb,by simp[hlt],⟨hlen,hlenS⟩,⟨⟨hinj,hkk⟩,λ q hq=>by cases hq⟩,λ j p hj=>by
       obtain ⟨en,o',r1,r2,r3,r4⟩:=hent j p hj;refine ⟨en,o',r1,r2,r3,.inr ⟨rfl,r4.frame (λ n hn _=>hkk' n ?_) hKw (λ n _ hn=>hA n hn)⟩⟩
       subst hn;rcases hS n (mem_of_getElem? r2)with hn|hn
       ·exact hsb n hn
       ·exact λ hh=>hbn (hh ▸ hn)⟩)
     refine Eff.skip ?_ (hW.put o.dst (sv:=.undef) (v:=undef) trivial trivial) hk;rw[hex,hrun];rfl
    have hnew:y0z P (Av A0 ρ s.cH) w e' v' xs (ρ γ).blk (a.eval x):=by
     rw[hxv];exact y0z.of_arr ha
    have hold:∀ (j:Nat) (p:u.den×List v'.den),es[j]?=some p->p.1≠y->∃ (en:MapEntry) (o':Option Nat),ms[j]?=some en/\(ρ β).subs[j]?=some o'/\en.key=yc u p.1/\y0z P (Av A0 ρ s.cH) w e' v' p.2 o' en.val:=by
     intro j p hj hne;obtain ⟨en,o',r1,r2,r3,r4⟩:=g5 j p hj;refine ⟨en,o',r1,r2,r3,?_⟩;rcases r4 with ⟨q',hq',r4,_⟩|⟨_,r4⟩
     ·cases hq';simp only[y70]at r4;exact absurd (((y0V hkey).1 r4).symm.trans hqy) hne
     ·exact r4
    have hfresh:∀ i n,(ρ γ).blk=some n->(ρ β).subs[i]?≠some (some n):=λ i n hn hi=>h.subs.apart β γ _ _ n hc hg (mem_of_getElem? hi) hn
    rcases h5.find (v:=.slice v') y ms.toList es (by simpa using g2.1) hkeys with ⟨r1,r2,r3⟩|⟨j,en,p,r1,r2,r3,r4,r5,r6⟩
    ·have hnone:=y46 r2;have hney:∀ x∈es,x.1≠y:=λ x hx hh=>by
      have:=hnone x hx;rw[<- y4U hkey,(y0V hkey).2 hh.symm]at this;cases this
     have hsl:(ρ β).subs.length=es.length:=g2.2;have cs:∀ (j:Nat) (p:u.den×List v'.den),(es++[(y,xs)])[j]?=some p->(j < es.length/\es[j]?=some p)\/(j=es.length/\p=(y,xs)):=by
      intro j p hj;rcases lt_or_ge j es.length with hl|hl
      ·rw[getElem?_append_left hl]at hj;exact .inl ⟨hl,hj⟩
      ·have hjl:j=es.length:=by
        have:=(List.getElem?_eq_some_iff.1 hj).1;simp at this;omega
       subst hjl;simp at hj;exact .inr ⟨rfl,hj.symm⟩
     have ss:∀ (j:Nat) (o':Option Nat),((ρ β).subs++[(ρ γ).blk])[j]?=some o'->(j < es.length/\(ρ β).subs[j]?=some o')\/(j=es.length/\o'=(ρ γ).blk):=by
      intro j p hj;rw[<- hsl];rcases lt_or_ge j (ρ β).subs.length with hl|hl
      ·rw[getElem?_append_left hl]at hj;exact .inl ⟨hl,hj⟩
      ·have hjl:j=(ρ β).subs.length:=by
        have:=(List.getElem?_eq_some_iff.1 hj).1;simp at this;omega
       subst hjl;simp at hj;exact .inr ⟨rfl,hj.symm⟩
     refine fin (ms.push { key:=yc u y,val:=a.eval x,born:=c }) (c+1) ((ρ β).subs++[(ρ γ).blk]) ?_ (by rw[r3];simp[g2.1]) (by rw[r3];simp[g2.2]) (λ n hn=>?_) (λ i j n hi hj=>?_) (λ i j x1 y1 hi hj hxy=>?_) (λ j p hj=>?_)
     ·rw[hmv,hiv];unfold Instr.mapUpdate;simp only[Sem.run_bind,run_underlying h1,Result.andThen_ok,y1e g1,h5.check,r1,hset]
     ·rcases mem_append.1 hn with hn|hn
      ·exact .inl hn
      ·exact .inr (mem_singleton.1 hn).symm
     ·rcases ss i _ hi with ⟨a1,a2⟩|⟨a1,a2⟩<;>rcases ss j _ hj with ⟨b1,b2⟩|⟨b1,b2⟩
      ·exact g3 i j n a2 b2
      ·exact absurd a2 (hfresh i n b2.symm)
      ·exact absurd b2 (hfresh j n a2.symm)
      ·rw[a1,b1]
     ·rw[r3]at hi hj;have hxy':=(y0V hkey).1 hxy;rcases cs i _ hi with ⟨a1,a2⟩|⟨a1,a2⟩<;>rcases cs j _ hj with ⟨b1,b2⟩|⟨b1,b2⟩
      ·exact g3k i j x1 y1 a2 b2 hxy
      ·rw[b2]at hxy';exact absurd hxy' (hney _ (mem_of_getElem? a2))
      ·rw[a2]at hxy';exact absurd hxy'.symm (hney _ (mem_of_getElem? b2))
      ·rw[a1,b1]
     ·rw[r3]at hj;rcases cs j _ hj with ⟨a1,a2⟩|⟨a1,a2⟩
      ·obtain ⟨en,o',q1,q2,q3,q4⟩:=hold j p a2 (hney _ (mem_of_getElem? a2));exact ⟨en,o',by rw[Array.getElem?_push_lt (by omega)];rw[<- q1,Array.getElem?_eq_getElem (by omega)],by rw[getElem?_append_left (by omega)];exact q2,q3,q4⟩
      ·subst a1;subst a2;exact ⟨{ key:=yc u y,val:=a.eval x,born:=c },(ρ γ).blk,by rw[<- g2.1];simp,by rw[<- hsl];simp,rfl,hnew⟩
    ·obtain ⟨e0,o0,q1,q2,q3,q4⟩:=g5 j p r2;rw[Array.getElem?_toList]at r1;rw[q1,Option.some.injEq]at r1;subst r1;have hjs:j < ms.size:=(Array.getElem?_eq_some_iff.1 q1).1;have hjl:j < (ρ β).subs.length:=(List.getElem?_eq_some_iff.1 q2).1;have hek:e0.key=yc u y:=by rw[q3,r3]
     have es':∀ (i:Nat) (p':u.den×List v'.den),(es.set j (y,xs))[i]?=some p'->(i=j/\p'=(y,xs))\/(i≠j/\es[i]?=some p'):=by
      intro i p' hi;by_cases hij:j=i
      ·subst hij;rw[getElem?_set_self (by omega)]at hi
       cases hi;exact .inl ⟨rfl,rfl⟩
      ·rw[getElem?_set_ne hij]at hi;exact .inr ⟨Ne.symm hij,hi⟩
     have ss:∀ (i:Nat) (o':Option Nat),((ρ β).subs.set j (ρ γ).blk)[i]?=some o'->(i=j/\o'=(ρ γ).blk)\/(i≠j/\(ρ β).subs[i]?=some o'):=by
      intro i o' hi;by_cases hij:j=i
      ·subst hij;rw[getElem?_set_self hjl]at hi;cases hi;exact .inl ⟨rfl,rfl⟩
      ·rw[getElem?_set_ne hij]at hi;exact .inr ⟨Ne.symm hij,hi⟩
     refine fin (ms.modify j λ e=>{ e with key:=yc u y,val:=a.eval x }) c ((ρ β).subs.set j (ρ γ).blk) ?_ (by rw[r6];simp[g2.1]) (by rw[r6];simp[g2.2]) (λ n hn=>?_) (λ i i' n hi hi'=>?_) (λ i i' x1 y1 hi hi' hxy=>?_) (λ i p' hi=>?_)
     ·rw[hmv,hiv];unfold Instr.mapUpdate;simp only[Sem.run_bind,run_underlying h1,Result.andThen_ok,y1e g1,h5.check,r4,Nat.zero_add,q1,map_some,Option.getD_some,hek,Instr.keyThatStays,y78 (y9c hkey),if_true,Sem.run_pure,hset]
     ·rcases List.mem_or_eq_of_mem_set hn with hn|hn
      ·exact .inl hn
      ·exact .inr hn.symm
     ·rcases ss i _ hi with ⟨a1,a2⟩|⟨a1,a2⟩<;>rcases ss i' _ hi' with ⟨b1,b2⟩|⟨b1,b2⟩
      ·rw[a1,b1]
      ·exact absurd b2 (hfresh i' n a2.symm)
      ·exact absurd a2 (hfresh i n b2.symm)
      ·exact g3 i i' n a2 b2
     ·rw[r6]at hi hi';have hxy':=(y0V hkey).1 hxy;rcases es' i _ hi with ⟨a1,a2⟩|⟨a1,a2⟩<;>rcases es' i' _ hi' with ⟨b1,b2⟩|⟨b1,b2⟩
      ·rw[a1,b1]
      ·rw[a2]at hxy';exact absurd (g3k j i' p y1 r2 b2 ((y0V hkey).2 (r3.trans hxy'))) (Ne.symm b1)
      ·rw[b2]at hxy';exact absurd (g3k i j x1 p a2 r2 ((y0V hkey).2 (hxy'.trans r3.symm))) a1
      ·exact g3k i i' x1 y1 a2 b2 hxy
     ·rw[r6]at hi;rcases es' i _ hi with ⟨a1,a2⟩|⟨a1,a2⟩
      ·subst a1;subst a2;exact ⟨_,(ρ γ).blk,by rw[Array.getElem?_modify,if_pos rfl,q1];rfl,by rw[getElem?_set_self hjl],rfl,hnew⟩
      ·have hpy:p'.1≠y:=λ hh=>a1 (g3k i j p' p a2 r2 ((y0V hkey).2 (hh.trans r3.symm)))
       obtain ⟨e1,o1,n1,n2,n3,n4⟩:=hold i p' a2 hpy;exact ⟨e1,o1,by rw[Array.getElem?_modify,if_neg (Ne.symm a1),n1],by rw[getElem?_set_ne (Ne.symm a1)];exact n2,n3,n4⟩
   ·cases hk
  ·cases hk
 ·cases hk
theorem yAs(hE:∀ e∈g.E,FnOK P e)(hT:yh P g.T)(h:Rel P A0 w0 ρ s a w){t:TypeId}{m key x:Operand}(ho:o.op=.insert t m key x\/o.op=.mapUpdate t m key x)(hk:putK g s o t m key x K=some r):Eff P A0 w0 a w o K r:=by
 unfold putK at hk;split at hk
 ·exact yHk hT h ho hk
 have hS:=h.settle (yB g.T 0 s x);dsimp only at hk;generalize s.settle (yB g.T 0 s x)=s1 at hk hS;split at hk
 ·rename_i i β hi hm;split at hk
  ·rename_i u v es hch;obtain ⟨⟨hty,hkey⟩,hk⟩:=yG hk;obtain ⟨y,hy,hk⟩:=bind_eq_some_iff.1 hk;obtain ⟨z,hz,hk⟩:=bind_eq_some_iff.1 hk;have hc:=getD_some hch;obtain ⟨kt,et,dk,h1,h2,h3,h4,h5⟩:=y62 (hT.shape hi) hty;obtain ⟨ly,hly,hiv⟩:=yw (y5 (T:=g.T) hS 0 key).1 hy;rw[y7t hkey hly]at hiv;obtain ⟨lz,hlz,hxv⟩:=y9T hE (y5 (T:=g.T) hS 0 x).1 hz;have hmv:=(y5 (T:=g.T) hS t m).1;rw[hm]at hmv;obtain ⟨b,ms,c,hb,g1,g2,g3⟩:=(hS.cH β _ hc).1;simp only[yE]at hmv;rw[hb]at hmv;have hex:(execOp a.eval o).run P w=((Instr.mapUpdate t (a.eval m) (a.eval key) (a.eval x)).run P w).andThen λ _ w'=>.ok .skip w':=by
    rcases ho with ho|ho<;>(simp only[execOp,ho,Sem.run_bind];rfl)
   have hkeys:∀ (j:Nat) (e:MapEntry) (p:u.den×v.den),ms.toList[j]?=some e->es[j]?=some p->e.key=yc u p.1:=by
    intro j e p he hp;obtain ⟨m',lv,r1,r2,r3,r4⟩:=g3 j p hp;rw[Array.getElem?_toList,r1]at he;cases he;exact r2
   have hK:Keep (Av A0 ρ s1.cH) w w:=λ _ _ _=>rfl
   have hlt:=yM g1;have hset:∀ ob:Obj,(setObj b ob).run P w=.ok () { w with heap:=w.heap.setIfInBounds b ob }:=λ ob=>by simp[setObj,Sem.run,g1]
   have fin:∀ (ms':Array MapEntry) (c':Nat),(Instr.mapUpdate t (a.eval m) (a.eval key) (a.eval x)).run P w=.ok () { w with heap:=w.heap.setIfInBounds b (.map ms' c') }->ms'.size=(y0a u v es y z).length ->
     (∀ (j:Nat) (p:u.den×v.den),(y0a u v es y z)[j]?=some p->∃ (e:MapEntry) (lv:List Value),ms'[j]?=some e/\e.key=yc u p.1/\y6 P v (Av A0 ρ s1.cH) w p.2 lv/\e.val=v.wrap lv) ->
     Eff P A0 w0 a w o K r:=by
    intro ms' c' hrun hlen hent;have hKw:Keep (Av A0 ρ s1.cH) w { w with heap:=w.heap.setIfInBounds b (.map ms' c') }:=λ n hn hnA=>by
     have:b≠n:=λ e=>hnA (.inr ⟨β,_,hc,e ▸ hb⟩)
     simp[Array.getElem?_setIfInBounds_ne this]
    have hW:=hS.write (w':={ w with heap:=w.heap.setIfInBounds b (.map ms' c') }) (ch':=.mp u v (y0a u v es y z)) hc hb (λ n hn=>by simp[Array.getElem?_setIfInBounds_ne (Ne.symm hn)]) (by simp) rfl rfl rfl trivial
     (λ A hA=>⟨b,ms',c',hb,by simp[hlt],hlen,λ j p hj=>by
      obtain ⟨e,lv,r1,r2,r3,r4⟩:=hent j p hj;exact ⟨e,lv,r1,r2,r3.mono hKw (λ n _ hn=>(hA n).1 hn),r4⟩⟩)
    refine Eff.skip ?_ (hW.put o.dst (sv:=.undef) (v:=undef) trivial trivial) hk;rw[hex,hrun];rfl
   rcases h5.find y ms.toList es (by simpa using g2) hkeys with ⟨r1,r2,r3⟩|⟨j,e,p,r1,r2,r3,r4,r5,r6⟩
   ·refine fin (ms.push { key:=yc u y,val:=a.eval x,born:=c }) (c+1) ?_ (by rw[r3];simp[g2]) (λ j p hj=>?_)
    ·rw[hmv,hiv];unfold Instr.mapUpdate;simp only[Sem.run_bind,run_underlying h1,Result.andThen_ok,y1e g1,h5.check,r1,hset]
    ·rw[r3]at hj;rcases lt_or_ge j es.length with hl|hl
     ·rw[getElem?_append_left hl]at hj;obtain ⟨e,lv,q1,q2,q3,q4⟩:=g3 j p hj;exact ⟨e,lv,by rw[Array.getElem?_push_lt (by omega)];rw[<- q1,Array.getElem?_eq_getElem (by omega)],q2,q3,q4⟩
     ·have hjl:j=es.length:=by
       have:=(List.getElem?_eq_some_iff.1 hj).1;simp at this;omega
      subst hjl;simp at hj;subst hj;exact ⟨{ key:=yc u y,val:=a.eval x,born:=c },lz,by rw[<- g2];simp,rfl,hlz,hxv⟩
   ·obtain ⟨e0,lv0,q1,q2,q3,q4⟩:=g3 j p r2;rw[Array.getElem?_toList]at r1;rw[q1,Option.some.injEq]at r1;subst r1;have hjs:j < ms.size:=(Array.getElem?_eq_some_iff.1 q1).1;have hek:e0.key=yc u y:=by rw[q2,r3]
    refine fin (ms.modify j λ e=>{ e with key:=yc u y,val:=a.eval x }) c ?_ (by rw[r6];simp[g2]) (λ i p' hi=>?_)
    ·rw[hmv,hiv];unfold Instr.mapUpdate;simp only[Sem.run_bind,run_underlying h1,Result.andThen_ok,y1e g1,h5.check,r4,Nat.zero_add,q1,map_some,Option.getD_some,hek,Instr.keyThatStays,y78 hkey,if_true,Sem.run_pure,hset]
    ·rw[r6]at hi;by_cases hij:i=j
     ·subst hij;rw[getElem?_set_self (by omega)]at hi
      cases hi;refine ⟨_,lz,by rw[Array.getElem?_modify,if_pos rfl,q1];rfl,rfl,hlz,hxv⟩
     ·rw[getElem?_set_ne (Ne.symm hij)]at hi;obtain ⟨e1,lv1,n1,n2,n3,n4⟩:=g3 i p' hi;exact ⟨e1,lv1,by rw[Array.getElem?_modify,if_neg (Ne.symm hij),n1],n2,n3,n4⟩
  ·cases hk
 ·cases hk
end
end Go.Vx
end
