import Derived.Test.YtemgjgkbgkeknaaGreatDoorVB
import Derived.Laws.MakeOwn
import Derived.Laws.CopyRow
set_option linter.all false
open List (getElem?_eq_getElem getElem?_map getElem?_set_ne length_map map_cons mem_append mem_cons mem_cons_self mem_map mem_of_getElem? mem_singleton)
open Option (bind_eq_some_iff map_eq_some_iff)
open Nat (le_refl)
open Bool (and_eq_true)
section
namespace Go.Vx
open Go.RowKit
variable [GT]
section
variable {P:Program} {A0:Nat->Prop} {w0:Base} {ρ:Places} {s:St} {a:Act} {w w':World} {g:G} {R:Type} {K:SV->Option R} {r:R} {o:Oper}
theorem y2t{b:Builtin}{args:Array Operand}{ts:Array TypeId}(ho:o.op=.call { callee:=.builtin b,args,argTypes:=ts }) :
  (execOp a.eval o).run P w=(builtin b ts o.type (args.map λ|.const _=>true|_=>false) (args.map a.eval)).run P w:=by
 unfold execOp;simp only[ho,resolve,invoke,Sem.run_bind,Sem.run_pure,Result.andThen_ok];rfl
theorem y1X{t:TypeId}{i:TyI}(h:y0Y P t i=true)(hty:i.ty.isSlice=true):∃ e,P.underlying t=some (.slice e):=by
 cases hi:i.ty<;>rw[hi]at hty<;>simp[Ty.isSlice]at hty
 ·exact ⟨_,(yM h (.inl hi)).1⟩
 ·exact ⟨_,(yM h (.inr hi)).1⟩
theorem yGY(hT:yc P g.T)(h:Rel P A0 w0 ρ s a w){t:TypeId}{i:TyI}(hi:yN g.T t=some i){sv:SV}{v:Value}(hx:yD P (Av A0 ρ s.cH) w ρ sv v){ty:TypeId}
  (hk:lenK i.ty s.cH sv K=some r):∃ n:Nat,(Builtin.len_ #[t] ty #[v]).run P w=.ok (.int .i64 n) w/\K (.val (.int .i64) (n:Int))=some r:=by
 unfold lenK at hk;split at hk
 ·split at hk
  ·rename_i hs;obtain ⟨e,hu⟩:=y1X (hT.shape hi) hs;obtain ⟨l,hl,rfl⟩:=hx;simp only[Cells]at hl;obtain ⟨p,c,rfl,_⟩:=hl;exact ⟨_,by simp[Builtin.len_,run_underlying hu,Ty.wrap,Ty.agg,goInt],hk⟩
  ·cases hk
 ·split at hk
  ·rename_i hs;obtain ⟨e,hu⟩:=y1X (hT.shape hi) hs;obtain ⟨l,hl,rfl⟩:=hx;simp only[Cells]at hl;obtain ⟨p,c,rfl,_⟩:=hl;exact ⟨_,by simp[Builtin.len_,run_underlying hu,Ty.wrap,Ty.agg,goInt],hk⟩
  ·cases hk
 ·split at hk
  ·rename_i bs hs;have hu:=y2d (hT.shape hi) hs;rw[y3T hx];have hs:(⟨(bs:List UInt8).toArray⟩:ByteArray).size=(bs:List UInt8).length:=by simp[ByteArray.size]
   exact ⟨_,by simp only[Builtin.len_];simp[run_underlying hu,goInt,hs],hk⟩
  ·cases hk
 ·split at hk
  ·rename_i hs;obtain ⟨e,hu⟩:=y1X (hT.shape hi) hs;simp only[yD]at hx;subst hx;exact ⟨0,by simp[Builtin.len_,run_underlying hu,goInt],hk⟩
  ·cases hk
 ·split at hk
  ·rename_i β hs;obtain ⟨e,hu⟩:=y1X (hT.shape hi) hs;split at hk
   ·rename_i e' u xs nn hch;obtain ⟨hlen,_⟩:=(h.cH β _ (getD_some hch)).1;simp only[yD]at hx;subst hx;exact ⟨xs.length,by simp[Builtin.len_,run_underlying hu,goInt,hlen],hk⟩
   ·rename_i e' u q e2 v xs hch;obtain ⟨⟨hlen,_⟩,_⟩:=(h.cH β _ (getD_some hch)).1;simp only[yD]at hx;subst hx;exact ⟨xs.length,by simp[Builtin.len_,run_underlying hu,goInt,hlen],hk⟩
   ·cases hk
  ·cases hk
 ·split at hk
  ·rename_i β m hs;obtain ⟨e,hu⟩:=y1X (hT.shape hi) hs;split at hk
   ·rename_i e' u q e2 v' xs hch;obtain ⟨x,hx1,hk2⟩:=bind_eq_some_iff.1 hk;obtain ⟨ys,hys,hk3⟩:=bind_eq_some_iff.1 hk2;obtain ⟨q',hq',rfl⟩:=hx;obtain ⟨b,q2,l,hb,h0,h6,h7⟩:=y6Y (h.cH β _ (getD_some hch)).1 hx1;rw[hq']at h0;cases h0;obtain ⟨ys',hys',_,_,h8,h9⟩:=h7.comp;rw[hys]at hys';cases hys';exact ⟨List.length ys,by simp[Builtin.len_,run_underlying hu,goInt,h8],hk3⟩
   ·cases hk
  ·cases hk
 ·split at hk
  ·rename_i n u hty;obtain ⟨hu,_⟩:=y3G (hT.shape hi) hty;exact ⟨n,by cases v<;>simp[Builtin.len_,run_underlying hu,goInt],hk⟩
  ·cases hk
theorem yIN(hT:yc P g.T)(h:Rel P A0 w0 ρ s a w){args:Array Operand}{ts:Array TypeId}(ho:o.op=.call { callee:=.builtin .len,args,argTypes:=ts })(hk:yU g s o K=some r):Yld P A0 ρ s a w o K r:=by
 simp only[yU,ho]at hk;split at hk
 ·rename_i x t hxs hts;split at hk
  ·rename_i i hi;have hx:=(y6 (T:=g.T) h t x).1;obtain ⟨n,h1,h2⟩:=yGY (ty:=o.type) hT h hi hx hk;have e1:args.map a.eval=#[a.eval x]:=by apply Array.toList_inj.1;simp[hxs]
   have e2:ts=#[t]:=by apply Array.toList_inj.1;simp[hts]
   refine Yld.here (sv:=.val (.int .i64) (n:Int)) (v:=.int .i64 n) ?_ (y2p _ _) trivial h2;rw[y2t ho,e1,e2];simp only[builtin,Sem.run_bind,h1,Result.andThen_ok,Sem.run_pure]
  ·cases hk
 ·cases hk
theorem y6t(h:Rel P A0 w0 ρ s a w){k:IntKind}{T:List (TypeId×TyI)}{t:TypeId}:∀ {l:List Operand} {r:List Int},yEf k (l.map λ x=>y8 T t s x)=some r->l.map a.eval=r.map (Value.int k)
 |[],r,h=>by cases h;rfl
 |x::l,r,hr=>by
  rw[map_cons]at hr;have hx:=(y6 (T:=T) h t x).1;unfold yEf at hr;split at hr
  ·rename_i he;cases he
  ·rename_i j n l' he;simp only[List.cons.injEq]at he;obtain ⟨he,rfl⟩:=he;rw[he]at hx;obtain ⟨hk,hr⟩:=y07 hr;subst hk;obtain ⟨r',hr',rfl⟩:=map_eq_some_iff.1 hr;rw[map_cons,map_cons,yh hx,y6t h hr']
  ·cases hr
theorem y9f(h:Rel P A0 w0 ρ s a w){mx:Bool}{args:Array Operand}{T:List (TypeId×TyI)}{t:TypeId}(hk:maxK mx (args.toList.map λ x=>y8 T t s x) K=some r) :
  ∃ (k:IntKind) (x:Int) (l:List Int) (y:Int),(args.map a.eval).toList=Value.int k x::l.map (Value.int k)/\y=l.foldl (λ a b=>if mx then (if b > a then b else a)else (if b < a then b else a)) x/\K (.val (.int k) y)=some r:=by
 unfold maxK at hk;have hl:(args.map a.eval).toList=args.toList.map a.eval:=by simp
 rw[hl];split at hk
 ·rename_i k x j y heq;obtain ⟨hkj,hk⟩:=y07 hk;subst hkj;match hargs:args.toList,heq with
  |[p,q],heq =>
   simp only[map_cons,List.map_nil,List.cons.injEq,and_true]at heq;have h1:=(y6 (T:=T) h t p).1;have h2:=(y6 (T:=T) h t q).1;rw[heq.1]at h1;rw[heq.2]at h2;exact ⟨k,x,[y],_,by simp[yh h1,yh h2],rfl,hk⟩
  |[],heq=>simp at heq
  |[_],heq=>simp at heq
  |_::_::_::_,heq=>simp at heq
 ·rename_i k x l' _ heq;obtain ⟨rs,hrs,hk2⟩:=bind_eq_some_iff.1 hk;clear hk;match hargs:args.toList,heq with
  |[],heq=>cases heq
  |p::q,heq =>
   simp only[map_cons,List.cons.injEq]at heq;obtain ⟨h0,rfl⟩:=heq;have h1:=(y6 (T:=T) h t p).1;rw[h0]at h1;have h2:=y6t h hrs;split at hk2
   ·refine ⟨k,x,_,_,by rw[map_cons,yh h1,h2],?_,hk2⟩
    cases mx<;>rfl
   ·refine ⟨k,x,_,_,by rw[map_cons,yh h1,h2],?_,hk2⟩
    cases mx<;>rfl
   ·cases hk2
 ·cases hk
theorem yF7(k:IntKind)(w:World):∀ (l:List Int) (x:Int),((l.map (Value.int k)).foldlM Builtin.max2 (Value.int k x)).run P w=.ok (.int k (l.foldl (λ a b=>if b > a then b else a) x)) w
 |[],x=>rfl
 |y::l,x=>by
  rw[map_cons,List.foldlM_cons,List.foldl_cons];simp only[Builtin.max2,Sem.run_bind,Sem.run_pure,Result.andThen_ok];exact yF7 k w l _
theorem yFe(k:IntKind)(w:World):∀ (l:List Int) (x:Int),((l.map (Value.int k)).foldlM Builtin.min2 (Value.int k x)).run P w=.ok (.int k (l.foldl (λ a b=>if b < a then b else a) x)) w
 |[],x=>rfl
 |y::l,x=>by
  rw[map_cons,List.foldlM_cons,List.foldl_cons];simp only[Builtin.min2,Sem.run_bind,Sem.run_pure,Result.andThen_ok];exact yFe k w l _
theorem yIG(h:Rel P A0 w0 ρ s a w){args:Array Operand}{ts:Array TypeId}(ho:o.op=.call { callee:=.builtin .max,args,argTypes:=ts })(hk:yU g s o K=some r):Yld P A0 ρ s a w o K r:=by
 simp only[yU,ho]at hk;obtain ⟨k,x,l,y,h1,h3,h2⟩:=y9f h hk;refine Yld.here (sv:=.val (.int k) y) (v:=.int k y) ?_ (y2p _ _) trivial h2;rw[y2t ho];have hm:=yF7 (P:=P) k w l x;simp only[if_true]at h3;rw[<- h3]at hm;simp only[builtin,Builtin.max_,h1,Sem.run_bind,hm,Result.andThen_ok,Sem.run_pure]
theorem yKD(h:Rel P A0 w0 ρ s a w){args:Array Operand}{ts:Array TypeId}(ho:o.op=.call { callee:=.builtin .min,args,argTypes:=ts })(hk:yU g s o K=some r):Yld P A0 ρ s a w o K r:=by
 simp only[yU,ho]at hk;obtain ⟨k,x,l,y,h1,h3,h2⟩:=y9f h hk;refine Yld.here (sv:=.val (.int k) y) (v:=.int k y) ?_ (y2p _ _) trivial h2;rw[y2t ho];have hm:=yFe (P:=P) k w l x;simp only[Bool.false_eq_true,if_false]at h3;rw[<- h3]at hm;simp only[builtin,Builtin.min_,h1,Sem.run_bind,hm,Result.andThen_ok,Sem.run_pure]
theorem yGh(h:Rel P A0 w0 ρ s a w){args:Array Operand}{ts:Array TypeId}(ho:o.op=.call { callee:=.builtin .complex,args,argTypes:=ts })(hk:yU g s o K=some r):Yld P A0 ρ s a w o K r:=by
 simp only[yU,ho]at hk;unfold yLh at hk;cases hk
theorem yH5(h:Rel P A0 w0 ρ s a w){args:Array Operand}{ts:Array TypeId}(ho:o.op=.call { callee:=.builtin .real,args,argTypes:=ts })(hk:yU g s o K=some r):Yld P A0 ρ s a w o K r:=by
 simp only[yU,ho]at hk;unfold yM6 at hk;cases hk
theorem yGp(h:Rel P A0 w0 ρ s a w){args:Array Operand}{ts:Array TypeId}(ho:o.op=.call { callee:=.builtin .imag,args,argTypes:=ts })(hk:yU g s o K=some r):Yld P A0 ρ s a w o K r:=by
 simp only[yU,ho]at hk;unfold yKn at hk;cases hk
theorem yCI{α:Type}{c:Prop}[Decidable c]{x:Option α}{y:α}(h:(if c then x else none)=some y):c/\x=some y:=by
 split at h
 ·exact ⟨‹_›,h⟩
 ·cases h
theorem y71{k:Ty}(hk:k.keyAll=true):k.keyOk=true\/k.keyF=true:=by
 unfold Ty.keyAll at hk;cases h:k.keyOk with
 |true=>exact .inl rfl
 |false=>rw[h]at hk;exact .inr hk
theorem yHX{k:Ty}(hk:k.keyOk=true):k.keyAll=true:=by simp[Ty.keyAll,hk]
theorem y3r{A:Nat->Prop}:∀ {k:Ty} {x:k.den} {l:List Value},k.keyF=true->(Cells P k A w x l ↔ l=k.flatV x)
 |.unit,_,_,_=>by simp[Cells,Ty.flatV]
 |.pair a b,x,l,hk=>by
  have hk':a.keyPart=true/\b.keyF=true:=by simpa[Ty.keyF]using hk
  have hb:=λ {l:List Value}=>y3r (A:=A) (k:=b) (x:=x.2) (l:=l) hk'.2
  have ha:∀ {l:List Value},Cells P a A w x.1 l ↔ l=a.flatV x.1:=by
   intro l;cases a<;>first|(simp only[Cells,Ty.flatV];done)|(cases hk'.1;done)|(simp[Cells,Ty.flatV])
  simp only[Cells,Ty.flatV];constructor
  ·rintro ⟨l1,l2,rfl,h1,h2⟩
   rw[ha.1 h1,hb.1 h2]
  ·intro h;exact ⟨_,_,h,ha.2 rfl,hb.2 rfl⟩
theorem yMD{A:Nat->Prop}{k:Ty}{x:k.den}{l:List Value}(hk:k.keyAll=true):Cells P k A w x l ↔ l=k.flatV x:=by
 rcases y71 hk with hk|hk
 ·cases k<;>first|(cases hk;done)|(simp[Cells,Ty.flatV])
 ·exact y3r hk
theorem yAu{A:Nat->Prop}{k:Ty}{x:k.den}{l:List Value}(hk:k.keyAll=true)(h:Cells P k A w x l):k.wrap l=yg k x:=by
 rw[(yMD hk).1 h];rfl
theorem y8B(a b:List UInt8):((⟨a.toArray⟩:ByteArray) == ⟨b.toArray⟩)=(a == b):=by
 show (a.toArray == b.toArray)=(a == b)
 simp
structure KeyD (P:Program) (kt:TypeId) (k:Ty):Prop where
 eqv:∀ x y:k.den,eqV k x y=true->x=y
 check:∀ (w:World) (e:Bool) (x:k.den),(Instr.checkKey e 10000 kt (yg k x)).run P w=.ok () w
 nil:∀ (w:World) (y:k.den),(Instr.findKey kt (yg k y) []).run P w=.ok none w
 find:∀ {v:Ty} (y:k.den) (ms:List MapEntry) (es:List (k.den×v.den)),ms.length=es.length ->
  (∀ (j:Nat) (e:MapEntry) (x:k.den×v.den),ms[j]?=some e->es[j]?=some x->e.key=yg k x.1) ->
  ((∀ w,(Instr.findKey kt (yg k y) ms).run P w=.ok none w)/\y0A k v es y=none/\∀ z,y3g k v es y z=es++[(y,z)]) \/
  ∃ (j:Nat) (e:MapEntry) (x:k.den×v.den),ms[j]?=some e/\es[j]?=some x/\x.1=y/\(∀ w,(Instr.findKey kt (yg k y) ms).run P w=.ok (some (j,e.val)) w)/\y0A k v es y=some x.2/\∀ z,y3g k v es y z=es.set j (y,z)
theorem yBC{k v:Ty}(F:List MapEntry->Nat->Option (Nat×Value)->Prop)(y:k.den)(hnil:∀ i,F [] i none)(heq:∀ x:k.den,eqV k y x=true->y=x)
  (hyes:∀ (e:MapEntry) (x:k.den) (ms:List MapEntry) (i:Nat),e.key=yg k x->eqV k y x=true->F (e::ms) i (some (i,e.val)))
  (hno:∀ (e:MapEntry) (x:k.den) (ms:List MapEntry) (i:Nat) (o:Option (Nat×Value)),e.key=yg k x->eqV k y x=false->F ms (i+1) o->F (e::ms) i o) :
  ∀ (ms:List MapEntry) (es:List (k.den×v.den)) (i:Nat),ms.length=es.length ->
  (∀ (j:Nat) (e:MapEntry) (x:k.den×v.den),ms[j]?=some e->es[j]?=some x->e.key=yg k x.1) ->
  (F ms i none/\y0A k v es y=none/\∀ z,y3g k v es y z=es++[(y,z)]) \/
  ∃ (j:Nat) (e:MapEntry) (x:k.den×v.den),ms[j]?=some e/\es[j]?=some x/\x.1=y/\F ms i (some (i+j,e.val))/\y0A k v es y=some x.2/\∀ z,y3g k v es y z=es.set j (y,z)
 |[],[],i,_,_=>.inl ⟨hnil i,rfl,λ _=>rfl⟩
 |[],_::_,_,h,_=>by simp at h
 |_::_,[],_,h,_=>by simp at h
 |e::ms,x::es,i,h,hm=>by
  have h0:e.key=yg k x.1:=hm 0 e x rfl rfl;have ih:=yBC F y hnil heq hyes hno ms es (i+1) (by simpa using h) (λ j e' x' h1 h2=>hm (j+1) e' x' (by simpa using h1) (by simpa using h2))
  cases hq:eqV k y x.1 with
  |true =>
   refine .inr ⟨0,e,x,rfl,rfl,(heq _ hq).symm,?_,?_,λ z=>?_⟩
   ·simpa using hyes e x.1 ms i h0 hq
   ·simp[y0A,hq]
   ·simp[y3g,hq]
  |false =>
   rcases ih with ⟨h1,h2,h3⟩|⟨j,e',x',h1,h2,h3,h4,h5,h6⟩
   ·exact .inl ⟨hno e x.1 ms i _ h0 hq h1,by simp[y0A,hq,h2],λ z=>by simp[y3g,hq,h3]⟩
   ·refine .inr ⟨j+1,e',x',by simpa using h1,by simpa using h2,h3,?_,by simp[y0A,hq,h5],λ z=>by simp[y3g,hq,h6]⟩
    have:=hno e x.1 ms i _ h0 hq h4;rwa[show i+1+j=i+(j+1) by omega]at this
theorem yFI{kt:TypeId}{k:Ty}{d:TypeDesc}(hu:P.underlying kt=some d)(hv:∀ x y:k.den,eqV k x y=true->x=y)(hs:∀ x y:k.den,Instr.sameNow d (yg k x) (yg k y)=some (eqV k x y))
  (hc:∀ (w:World) (e:Bool) (x:k.den),(Instr.checkKey e 10000 kt (yg k x)).run P w=.ok () w):KeyD P kt k where
 eqv:=hv
 check:=hc
 nil w y:=by simp[Instr.findKey,run_underlying hu,Instr.findNow]
 find {v} y ms es hl hm:=by
  have run:∀ {r:Option (Nat×Value)},Instr.findNow d (yg k y) ms 0=some r->∀ w,(Instr.findKey kt (yg k y) ms).run P w=.ok r w:=by
   intro r h w;simp[Instr.findKey,run_underlying hu,h]
  rcases yBC (v:=v) (λ ms i o=>Instr.findNow d (yg k y) ms i=some o) y (λ _=>rfl) (hv y)
   (λ e x ms i h0 hq=>by simp[Instr.findNow,h0,hs,hq]) (λ e x ms i o h0 hq h=>by simp[Instr.findNow,h0,hs,hq,h]) ms es 0 hl hm with ⟨h1,h2,h3⟩|⟨j,e,x,h1,h2,h3,h4,h5,h6⟩
  ·exact .inl ⟨run h1,h2,h3⟩
  ·exact .inr ⟨j,e,x,h1,h2,h3,by simpa using run h4,h5,h6⟩
theorem yB7:∀ {k:Ty} (x y:k.den),k.keyF=true->eqV k x y=true->x=y
 |.unit,_,_,_,_=>rfl
 |.pair a b,x,y,hk,h=>by
  have hk':a.keyPart=true/\b.keyF=true:=by simpa[Ty.keyF]using hk
  have h':eqV a x.1 y.1=true/\eqV b x.2 y.2=true:=by simpa[eqV]using h
  have h2:=yB7 x.2 y.2 hk'.2 h'.2;have h1:x.1=y.1:=by
   have h3:=h'.1;cases a<;>first|(cases hk'.1;done)|(simp only[eqV]at h3;exact eq_of_beq h3)
  exact Prod.ext h1 h2
theorem yGc{m:Nat}{e:Bool}{d:Nat}{t:TypeId}{a:Ty}(hp:a.keyPart=true)(hc:cmpB P m t a=true)(v:Value)(w:World):(Instr.checkKey e (d+1) t v).run P w=.ok () w:=by
 have hd:∃ q,P.underlying t=some q/\(q=.bool\/q=.string\/∃ j,q=.int j):=by
  cases m with
  |zero=>cases hc
  |succ m =>
   cases hu:P.underlying t with
   |none=>cases a<;>first|(cases hp;done)|(simp[cmpB,hu]at hc)
   |some q =>
    refine ⟨q,rfl,?_⟩;cases a<;>first|(cases hp;done)|skip
    all_goals
     simp only[cmpB,hu]at hc;cases q<;>first|(cases hc;done)|simp
 obtain ⟨q,hu,hq⟩:=hd;unfold Instr.checkKey;simp only[Sem.run_bind,run_underlying hu,Result.andThen_ok];rcases hq with rfl|rfl|⟨j,rfl⟩<;>rfl
theorem y6z{m:Nat}{e:Bool}{d:Nat}:∀ (fs:List Field) (off:Nat) (k:Ty) (cs:Array Value),k.keyF=true->cmpF P (cmpB P m) fs off k=true->off+k.size<=cs.size ->
  ∀ w,(forIn fs PUnit.unit λ (f:Field) (_:PUnit)=>(do
   if f.name ≠ "_" then Instr.checkKey e (d+1) f.type (<- part f.type cs f.offset)
   pure (ForInStep.yield PUnit.unit):Sem (ForInStep PUnit))).run P w=.ok PUnit.unit w
 |[],_,_,_,_,_,_,w=>by simp
 |f::fs,off,k,cs,hk,hc,hl,w=>by
  cases k;case pair a b =>
   have hk':a.keyPart=true/\b.keyF=true:=by simpa[Ty.keyF]using hk
   simp only[cmpF,and_eq_true,Bool.not_eq_true',beq_eq_false_iff_ne,beq_iff_eq]at hc;obtain ⟨⟨⟨⟨c1,c2⟩,c3⟩,c4⟩,c5⟩:=hc;simp only[Ty.size]at hl;have p1:=y2k (w:=w) (y0r c3) (cs:=cs) (off:=f.offset) (by omega)
   have p2:(Instr.checkKey e (d+1) f.type (a.wrap ((cs.toList.drop f.offset).take a.size))).run P w=.ok () w:=by
    exact yGc hk'.1 c4 _ w
   have ih:=y6z (m:=m) (e:=e) (d:=d) fs (off+a.size) b cs hk'.2 c5 (by omega) w
   simp only[List.forIn_cons,Sem.run_bind,c1,ne_eq,not_false_eq_true,if_true,Result.andThen_ok,p1,p2,Sem.run_pure];exact ih
  all_goals simp[cmpF]at hc
theorem yE2{kt:TypeId}{k:Ty}{fs:Array Field}(hu:P.underlying kt=some (.struct fs))(hF:k.keyF=true)(hc:cmpB P 30 kt k=true):KeyD P kt k:=by
 have hag:k.agg=true:=by cases k<;>first|rfl|(cases hF;done)
 have hfs:cmpF P (cmpB P 29) fs.toList 0 k=true:=by
  cases k<;>first|(cases hF;done)|skip
  all_goals
   simp only[cmpB,hu,and_eq_true]at hc;exact hc.2
 have hsz:∀ x:k.den,(k.flatV x).length=k.size:=λ x=>((y3r (P:=P) (w:=default) (A:=λ _=>False) (x:=x) hF).2 rfl).length
 have heq:∀ (w:World) (x y:k.den),(Op.equal kt (yg k x) (yg k y)).run P w=.ok (eqV k x y) w:=λ w x y =>
  y4L (w:=w) 9970 30 hc ((y3r (A:=λ _=>False) hF).2 rfl) ((y3r hF).2 rfl)
 refine ⟨λ x y=>yB7 x y hF,λ w e x=>?_,λ w y=>?_,λ {v} y ms es hl hm=>?_⟩
 ·show (Instr.checkKey e (9998+1+1) kt (yg k x)).run P w=.ok () w
  unfold Instr.checkKey yg Ty.wrap;rw[if_pos hag];simp only[Sem.run_bind,run_underlying hu,Result.andThen_ok];rw[<- Array.forIn_toList];have:=y6z (e:=e) (d:=9998) fs.toList 0 k (k.flatV x).toArray hF hfs (by simp[hsz]) w
  simp at this ⊢;rw[this];rfl
 ·simp[Instr.findKey,run_underlying hu,Instr.findNow]
 ·have run:∀ {r:Option (Nat×Value)},(∀ w,(Instr.findAsking kt (yg k y) ms 0).run P w=.ok r w)->ms≠[]->∀ w,(Instr.findKey kt (yg k y) ms).run P w=.ok r w:=by
   intro r h hne w;cases ms with
   |nil=>exact absurd rfl hne
   |cons e ms =>
    have hn:Instr.findNow (.struct fs) (yg k y) (e::ms) 0=none:=by
     simp[Instr.findNow,Instr.sameNow]
    simp only[Instr.findKey,Sem.run_bind,run_underlying hu,Result.andThen_ok,hn,h w]
  rcases yBC (v:=v) (λ ms i o=>∀ w,(Instr.findAsking kt (yg k y) ms i).run P w=.ok o w) y (λ _ w=>by simp[Instr.findAsking]) (λ x=>yB7 y x hF)
   (λ e x ms i h0 hq w=>by simp[Instr.findAsking,h0,heq,hq]) (λ e x ms i o h0 hq h w=>by simp[Instr.findAsking,h0,heq,hq,h w]) ms es 0 hl hm with ⟨h1,h2,h3⟩|⟨j,e,x,h1,h2,h3,h4,h5,h6⟩
  ·refine .inl ⟨?_,h2,h3⟩;by_cases hne:ms=[]
   ·subst hne;intro w;simp[Instr.findKey,run_underlying hu,Instr.findNow]
   ·exact run h1 hne
  ·refine .inr ⟨j,e,x,h1,h2,h3,?_,h5,h6⟩;simpa using run h4 (by rintro rfl;simp at h1)
theorem y8d{t:TypeId}{i:TyI}{k v:Ty}(h:y0Y P t i=true)(hi:i.ty=.map k v) :
  ∃ kt et dk,P.underlying t=some (.map kt et)/\Fits P kt k/\Fits P et v/\P.underlying kt=some dk/\KeyD P kt k:=by
 unfold y0Y at h;rw[hi]at h;split at h<;>first|(cases h;done)|skip
 all_goals rename_i e1 e2
 all_goals first|(cases e1;done)|skip
 all_goals try (simp at e1;done)
 case _ => 
  cases e1;simp only[and_eq_true]at h;obtain ⟨⟨h1,h2⟩,h3⟩:=h;have chk:∀ {kt:TypeId} {d:TypeDesc} {k:Ty},P.underlying kt=some d->(d=.string\/∃ j,d=.int j)->∀ (w:World) (e:Bool) (x:k.den),(Instr.checkKey e 10000 kt (yg k x)).run P w=.ok () w:=by
   intro kt d k hu hd w e x;show (Instr.checkKey e (9999+1) kt _).run P w=.ok () w
   unfold Instr.checkKey;simp only[Sem.run_bind,run_underlying hu,Result.andThen_ok];rcases hd with rfl|⟨j,rfl⟩<;>rfl
  split at h3
  ·rename_i hu;refine ⟨_,_,_,e2,y0r h1,y0r h2,hu,yFI hu (λ x y hq=>?_) (λ x y=>?_) (chk hu (.inl rfl))⟩
   ·simp only[eqV]at hq;exact eq_of_beq hq
   ·simp only[yg,Ty.wrap,Ty.agg,Ty.flatV,List.headD,Instr.sameNow,eqV,y8B,Bool.false_eq_true,if_false]
  ·rename_i j l hu;have hj:j=l:=by simpa using h3
   subst hj;refine ⟨_,_,_,e2,y0r h1,y0r h2,hu,yFI hu (λ x y hq=>?_) (λ x y=>?_) (chk hu (.inr ⟨_,rfl⟩))⟩
   ·simp only[eqV]at hq;exact eq_of_beq hq
   ·simp only[yg,Ty.wrap,Ty.agg,Ty.flatV,List.headD,Instr.sameNow,eqV,if_true,Bool.false_eq_true,if_false]
  ·rename_i fs hu;simp only[and_eq_true]at h3;exact ⟨_,_,_,e2,y0r h1,y0r h2,hu,yE2 hu h3.1 h3.2⟩
  ·cases h3
theorem y2J{b:Nat}{ms:Array MapEntry}{c:Nat}(h:w.heap[b]?=some (.map ms c)):(getObj b).run P w=.ok (.map ms c) w:=by
 simp[getObj,Sem.run,h]
theorem yDL(h:Rel P A0 w0 ρ s a w){sv:SV}{v:Value}{u e:Ty}{es:List (u.den×e.den)}(hs:yD P (Av A0 ρ s.cH) w ρ sv v)(hm:yBA s.cH sv=some ⟨.map u e,es⟩) :
  (v=.map none/\es=[])\/∃ (b:Nat) (ms:Array MapEntry) (c:Nat),v=.map (some b)/\w.heap[b]?=some (.map ms c)/\ms.size=es.length /\
   ∀ (i:Nat) (x:u.den×e.den),es[i]?=some x->∃ (m:MapEntry) (lv:List Value),ms[i]?=some m/\m.key=yg u x.1/\Cells P e (Av A0 ρ s.cH) w x.2 lv/\m.val=e.wrap lv:=by
 unfold yBA at hm;split at hm
 ·cases hm;obtain ⟨l,hl,rfl⟩:=hs;simp only[Cells]at hl;rcases hl with ⟨rfl,rfl⟩|⟨b,ms,c,rfl,_,h1,h2,h3⟩
  ·exact .inl ⟨rfl,rfl⟩
  ·exact .inr ⟨b,ms,c,rfl,h1,h2,h3⟩
 ·rename_i β;unfold y5g at hm;split at hm
  ·rename_i hch;cases hm;obtain ⟨b,ms,c,hb,h1,h2,h3⟩:=(h.cH β _ (getD_some hch)).1;simp only[yD]at hs;exact .inr ⟨b,ms,c,by rw[hs,hb],h1,h2,h3⟩
  ·cases hm
 ·cases hm
theorem y3Q{A:Nat->Prop}{n:Nat}{k v:Ty}{es:List (k.den×v.den)}{y:k.den}{ok b:Bool}{x:v.den}{lx:List Value}(hx:Cells P v A w x lx)(h1:(y0A k v es y).getD v.dflt=x)(h2:(y0A k v es y).isSome=b)
  (hk:yBV k v es y ok K=some r):∃ sv,yD P A w ρ sv (if ok then .tuple #[v.wrap lx,.bool b]else v.wrap lx)/\sv.inn n/\K sv=some r:=by
 unfold yBV at hk;rw[h1,h2]at hk;cases ok with
 |true =>
  refine ⟨.tup (.pair v (.pair .bool .unit)) (x,b,()),⟨lx++([.bool b]++[]),⟨lx,_,rfl,hx,[.bool b],[],rfl,rfl,rfl⟩,?_⟩,trivial,hk⟩;have e1:(lx++([Value.bool b]++[])).take v.size=lx:=by rw[<- hx.length,List.take_left]
  have e2:(lx++([Value.bool b]++[])).drop v.size=[Value.bool b]++[]:=by rw[<- hx.length,List.drop_left]
  simp only[Ty.group,e1,e2];rfl
 |false=>exact ⟨.val v x,⟨lx,hx,rfl⟩,trivial,hk⟩
omit [GT] in
theorem yBZ{k:Ty}(hk:k.keyOk=true)(x y:k.den):yGf k x y=eqV k x y:=by
 cases k<;>first|rfl|cases hk
omit [GT] in
theorem y8V{k v:Ty}{y:k.den}:∀ {es:List (k.den×v.den)},y0A k v es y=none->∀ x∈es,eqV k y x.1=false
 |[],_,_,h=>by cases h
 |p::l,h,x,hx=>by
  simp only[y0A]at h;cases hq:eqV k y p.1 with
  |true=>rw[hq]at h;cases h
  |false =>
   rw[hq]at h;rcases mem_cons.1 hx with rfl|hx
   ·exact hq
   ·exact y8V h x hx
theorem y8H{cs:List (Option Chunk)}{sv:SV}{hv:HoleV}(h:y8s cs sv=some hv):∃ β e es,sv=.mO β/\cs[β]?=some (some (.mps hv.k e hv.u es (some (hv.x,hv.γ)))):=by
 unfold y8s at h;split at h
 ·rename_i β;split at h
  ·rename_i hch;cases h;exact ⟨β,_,_,rfl,getD_some hch⟩
  ·cases h
 ·cases h
theorem yCz(hT:yc P g.T)(h:Rel P A0 w0 ρ s a w){t:TypeId}{x ix:Operand}{ok:Bool}(ho:o.op=.lookup t x ix ok)(hk:yU g s o K=some r):Yld P A0 ρ s a w o K r:=by
 simp only[yU,ho]at hk;have hex:execOp a.eval o=(do pure (.value (<- Instr.lookup t (a.eval x) (a.eval ix) ok))):=by simp only[execOp,ho]
 split at hk
 ·rename_i i k v es hi hm;obtain ⟨⟨hty,hkey,hz⟩,hk⟩:=yCI hk;obtain ⟨y,hy,hk⟩:=bind_eq_some_iff.1 hk;obtain ⟨kt,et,dk,h1,h2,h3,h4,h5⟩:=y8d (hT.shape hi) hty;obtain ⟨inf,z,f1,f2,f3,f4,f5⟩:=y1L h3 hz;obtain ⟨ly,hly,hiv⟩:=y04 (y6 (T:=g.T) h 0 ix).1 hy;rw[yAu hkey hly]at hiv;have hzero:(zeroValue et).run P w=.ok (v.wrap v.zeroV) w:=by rw[y3Y f1 f2,f5]
  have hzc:Cells P v (Av A0 ρ s.cH) w v.dflt v.zeroV:=y4l v hz;rcases yDL h (y6 (T:=g.T) h t x).1 hm with ⟨hv,rfl⟩|⟨b,ms,c,hv,g1,g2,g3⟩
  ·obtain ⟨sv,q1,q2,q3⟩:=y3Q (ρ:=ρ) (n:=s.cH.length) (b:=false) hzc rfl rfl hk;refine Yld.of_run hex ?_ q1 q2 q3;have hf:=h5.nil w y;rw[hv,hiv];unfold Instr.lookup;simp only[Sem.run_bind,run_underlying h1,Result.andThen_ok,Sem.run_pure,h5.check,hf,hzero]
  ·have hkeys:∀ (j:Nat) (e:MapEntry) (p:k.den×v.den),ms.toList[j]?=some e->es[j]?=some p->e.key=yg k p.1:=by
    intro j e p he hp;obtain ⟨m,lv,r1,r2,r3,r4⟩:=g3 j p hp;rw[Array.getElem?_toList,r1]at he;cases he;exact r2
   rcases h5.find y ms.toList es (by simpa using g2) hkeys with ⟨r1,r2,_⟩|⟨j,e,p,r1,r2,r3,r4,r5,_⟩
   ·obtain ⟨sv,q1,q2,q3⟩:=y3Q (ρ:=ρ) (n:=s.cH.length) (b:=false) hzc (by rw[r2];rfl) (by rw[r2];rfl) hk
    refine Yld.of_run hex ?_ q1 q2 q3;rw[hv,hiv];unfold Instr.lookup;simp only[Sem.run_bind,run_underlying h1,Result.andThen_ok,Sem.run_pure,y2J g1,h5.check,r1,hzero]
   ·obtain ⟨m,lv,n1,n2,n3,n4⟩:=g3 j p r2;rw[Array.getElem?_toList,n1]at r1;cases r1;obtain ⟨sv,q1,q2,q3⟩:=y3Q (ρ:=ρ) (n:=s.cH.length) (b:=true) n3 (by rw[r5];rfl) (by rw[r5];rfl) hk
    refine Yld.of_run hex ?_ q1 q2 q3;rw[hv,hiv];unfold Instr.lookup;simp only[Sem.run_bind,run_underlying h1,Result.andThen_ok,Sem.run_pure,y2J g1,h5.check,r4,n4]
 ·rename_i i hi hm;split at hk
  ·rename_i hv hh;obtain ⟨⟨hok,hty,hkey⟩,hk1⟩:=yCI hk;clear hk;subst hok;obtain ⟨y,hy,hk⟩:=bind_eq_some_iff.1 hk1;cases hq:yGf hv.k hv.x y with
   |false=>rw[hq]at hk;cases hk
   |true =>
   rw[hq]at hk;simp only[cond_true]at hk;obtain ⟨kt,et,dk,h1,h2,h3,h4,h5⟩:=y8d (hT.shape hi) hty;obtain ⟨inf,z,f1,f2,f3,f4,f5⟩:=y1L h3 (by rfl)
   obtain ⟨ly,hly,hiv⟩:=y04 (y6 (T:=g.T) h 0 ix).1 hy;rw[yAu (yHX hkey) hly]at hiv;have hzero:(zeroValue et).run P w=.ok (Value.slice none 0 0) w:=by rw[y3Y f1 f2,f5];rfl
   obtain ⟨β,e,es,hsv,hc⟩:=y8H hh;have hmv:=(y6 (T:=g.T) h t x).1;rw[hsv]at hmv;obtain ⟨b,ms,c,hb,g1,g2,⟨_,g3⟩,g4⟩:=(h.cH β _ hc).1;simp only[yD]at hmv;rw[hb]at hmv;have hkeys:∀ (j:Nat) (e:MapEntry) (p:hv.k.den×List hv.u.den),ms.toList[j]?=some e->es[j]?=some p->e.key=yg hv.k p.1:=by
    intro j e p he hp;obtain ⟨m,o',r1,_,r2,_⟩:=g4 j p hp;rw[Array.getElem?_toList,r1]at he;cases he;exact r2
   have hxy:hv.x=y:=h5.eqv _ _ (by rw[<- yBZ hkey];exact hq)
   have hin:(SV.own hv.γ).inn s.cH.length:=h.cN β _ hc _ rfl;rcases h5.find (v:=.slice hv.u) y ms.toList es (by simpa using g2.1) hkeys with ⟨r1,r2,_⟩|⟨j,e',p,r1,r2,r3,r4,r5,_⟩
   ·refine Yld.of_run (sv:=.own hv.γ) (v:=.slice none 0 0) hex ?_ ?_ hin hk
    ·rw[hmv,hiv];unfold Instr.lookup;simp only[Sem.run_bind,run_underlying h1,Result.andThen_ok,Sem.run_pure,y2J g1,h5.check,r1,hzero];rfl
    ·obtain ⟨e1,e2,e3⟩:=g3 (hv.x,hv.γ) rfl (λ p hp=>by
      have:=y8V r2 p hp;simp only[yGL,hxy];rw[yBZ hkey];exact this)
     simp only[yD];rw[e1,e2,e3];rfl
   ·obtain ⟨m,o',n1,n2,n3,n4⟩:=g4 j p r2;rw[Array.getElem?_toList,n1]at r1;cases r1;have hhole:yGL hv.k (some (hv.x,hv.γ)) p.1=true:=by
     simp only[yGL,r3];exact hq
    rcases n4 with ⟨q,hq1,_,_,n5⟩|⟨n5,_⟩
    ·cases hq1;refine Yld.of_run (sv:=.own hv.γ) (v:=e'.val) hex ?_ n5 hin hk;rw[hmv,hiv];unfold Instr.lookup;simp only[Sem.run_bind,run_underlying h1,Result.andThen_ok,Sem.run_pure,y2J g1,h5.check,r4];rfl
    ·rw[hhole]at n5;cases n5
  ·cases hk
 ·cases hk
theorem y8b(h:Rel P A0 w0 ρ s a w){args:Array Operand}{ts:Array TypeId}(ho:o.op=.call { callee:=.builtin .unsafeSliceData,args,argTypes:=ts })(hk:yU g s o K=some r):Yld P A0 ρ s a w o K r:=by
 simp only[yU,ho]at hk;split at hk
 ·rename_i x hxs;have hx:=y6 (T:=g.T) h 0 x;have e1:args.map a.eval=#[a.eval x]:=by apply Array.toList_inj.1;simp[hxs]
  unfold y9Q at hk;split at hk
  ·rename_i β he;rw[he]at hx;split at hk
   ·rename_i e xs nn hch;obtain ⟨hlen,_,h3⟩:=(h.cH β _ (getD_some hch)).1;cases hd:decide (0 < List.length xs)with
    |false=>rw[hd]at hk;cases hk
    |true =>
    rw[hd]at hk;simp only[cond_true]at hk;have hd:=of_decide_eq_true hd;rcases h3 with ⟨_,h4,_⟩|⟨b,vs,hb,h4,h5,h6,h7,h8⟩
    ·omega
    ·have hv:a.eval x=.slice (some ⟨b,0,none⟩) (ρ β).len (ρ β).cap:=by
      have:=hx.1;simp only[yD,hb]at this;exact this
     refine Yld.here (sv:=.eP β 0 1 0) (v:=.pointer (some ⟨b,0,none⟩)) ?_ ⟨b,hb,rfl⟩ hx.2 hk;rw[y2t ho,e1,hv];have hc:(ρ β).cap≠0:=by omega
     have hr:(Builtin.unsafeSliceData_ ts o.type #[.slice (some ⟨b,0,none⟩) (ρ β).len (ρ β).cap]).run P w=.ok (.pointer (some ⟨b,0,none⟩)) w:=by
      have hdef:Builtin.unsafeSliceData_ ts o.type #[.slice (some ⟨b,0,none⟩) (ρ β).len (ρ β).cap]=(if (ρ β).cap≠0 then pure (.pointer (some ⟨b,0,none⟩))else do
       if (<- viewAt b).isSome then pure (.pointer (some ⟨b,0,none⟩))else pure (.pointer (some ⟨<- newObj (.view ⟨b,0,none⟩ (<- elemOf o.type)),0,none⟩))):=rfl
      rw[hdef,if_pos hc];rfl
     simp only[builtin,Sem.run_bind,hr,Result.andThen_ok,Sem.run_pure]
   ·cases hk
  ·cases hk
 ·cases hk
theorem y5H(hE:∀ e∈g.E,FnOK P e)(hT:yc P g.T)(h:Rel P A0 w0 ρ s a w)(hk:yU g s o K=some r):Yld P A0 ρ s a w o K r:=by
 cases ho:o.op with
 |move x=>exact yHS (g:=g) h (.inl ho) (by simpa only[yU,ho]using hk)
 |assign x=>exact yBX (g:=g) h ho (by simpa only[yU,ho]using hk)
 |pick c x y=>exact yGv h ho hk
 |load t x=>exact yH6 hT h ho hk
 |binOp op t x y yt=>exact yDm hT h ho hk
 |unOp op t x=>exact yGl h ho hk
 |convert sr d x=>exact yAM hT h ho hk
 |field t x f=>exact yEG hT h ho hk
 |fieldAddr t x f=>exact y8S hT h ho hk
 |indexAddr t x ix=>exact y4R hT h ho hk
 |index t x ix=>exact yDc hT h ho hk
 |lookup t x ix ok=>exact yCz hT h ho hk
 |extract x n=>exact y61 h ho hk
 |box e x=>exact yID h ho hk
 |build t ps=>exact yEN hE hT h ho hk
 |buildSlice t n ps=>exact y76 hE hT h ho hk
 |makeFunc fn first caps=>exact y9H hE h ho hk
 |slice t x lo hi mx=>exact yAS hT h ho hk
 |nilCheck x=>exact y99 h ho hk
 |call c =>
  obtain ⟨callee,args,ts⟩:=c;cases callee with
  |builtin b =>
   cases b with
   |len=>exact yIN hT h ho hk
   |max=>exact yIG h ho hk
   |min=>exact yKD h ho hk
   |complex=>exact yGh h ho hk
   |real=>exact yH5 h ho hk
   |imag=>exact yGp h ho hk
   |unsafeSliceData=>exact y8b h ho hk
   |_=>simp[yU,ho]at hk
  |_=>simp[yU,ho]at hk
 |_=>simp[yU,ho]at hk
end
end Go.Vx
end
section
namespace Go.Vx
open Go.RowKit
variable [GT]
section
variable {P:Program} {A0:Nat->Prop} {w0:Base} {ρ:Places} {s:St} {a:Act} {w w':World} {g:G}
theorem yw{cs:List (Option Chunk)}{β γ:Nat}{f:SV->SV}{ch':Chunk}(h:((cs.set β none).map (Option.map (Chunk.map f)))[γ]?=some (some ch')) :
  γ≠β/\∃ ch,cs[γ]?=some (some ch)/\ch'=ch.map f:=by
 rw[getElem?_map,map_eq_some_iff]at h;obtain ⟨o,h1,h2⟩:=h;rw[map_eq_some_iff]at h2;obtain ⟨ch,rfl,rfl⟩:=h2;by_cases hb:β=γ
 ·subst hb;rw[List.getElem?_set]at h1;simp at h1
 ·rw[getElem?_set_ne hb]at h1;exact ⟨λ e=>hb e.symm,ch,h1,rfl⟩
theorem y0m{β:Nat}{f:SV->SV}{n:Nat}(h:Av A0 ρ ((s.cH.set β none).map (Option.map (Chunk.map f))) n):Av A0 ρ s.cH n:=by
 rcases h with (h|⟨γ,c,hc,hb⟩)|⟨γ,c,hc,hb⟩
 ·exact .inl (.inl h)
 ·obtain ⟨_,ch,h1,_⟩:=yw hc;exact .inl (.inr ⟨γ,ch,h1,hb⟩)
 ·obtain ⟨_,ch,h1,_⟩:=yw hc;exact .inr ⟨γ,ch,h1,hb⟩
theorem Rel.free(h:Rel P A0 w0 ρ s a w){β:Nat}{ch:Chunk}(hc:s.cH[β]?=some (some ch)){f:SV->SV}{b:Nat}(hb:(ρ β).blk=some b):¬ Av A0 ρ ((s.cH.set β none).map (Option.map (Chunk.map f))) b:=by
 rintro ((h0|⟨γ,c,hg,hbg⟩)|⟨γ,c,hg,hbg⟩)
 ·have:=h.dom b h0;have:=(h.cH β ch hc).2 b hb;omega
 ·obtain ⟨_,c',h1,_⟩:=yw hg;exact h.subs.apart γ β c' ch b h1 hc hbg hb
 ·obtain ⟨hne,c',h1,_⟩:=yw hg;exact hne (h.inj γ β c' ch h1 hc (hbg.trans hb.symm) (by rw[hbg];simp))
theorem Rel.freeS(h:Rel P A0 w0 ρ s a w){β:Nat}{ch:Chunk}(hc:s.cH[β]?=some (some ch)){f:SV->SV}{b:Nat}(hb:some b∈(ρ β).subs):¬ Av A0 ρ ((s.cH.set β none).map (Option.map (Chunk.map f))) b:=by
 rintro ((h0|⟨γ,c,hg,hbg⟩)|⟨γ,c,hg,hbg⟩)
 ·have:=h.dom b h0;have:=h.subs.base β ch b hc hb;omega
 ·obtain ⟨hne,c',h1,_⟩:=yw hg;exact hne (h.subs.one γ β c' ch b h1 hc hbg hb)
 ·obtain ⟨_,c',h1,_⟩:=yw hg;exact h.subs.apart β γ ch c' b hc h1 hb hbg
theorem Rel.sub(h:Rel P A0 w0 ρ s a w)(β:Nat)(f:SV->SV)
  (hf:∀ sv v,sv.inn s.cH.length->yD P (Av A0 ρ s.cH) w ρ sv v->yD P (Av A0 ρ ((s.cH.set β none).map (Option.map (Chunk.map f)))) w ρ (f sv) v)
  (hn:∀ sv,sv.inn s.cH.length->(f sv).inn s.cH.length):Rel P A0 w0 ρ (s.sub β f) a w:=by
 have hlen:((s.cH.set β none).map (Option.map (Chunk.map f))).length=s.cH.length:=by simp
 have hsl:(s.sub β f).slots=s.slots.map f:=Slots.toList_map _ _;refine ⟨by rw[hsl,length_map];exact h.size,λ i sv hi=>?_,λ γ c hg=>?_,λ γ δ c d hg hd hbg hne=>?_,λ i sv hi=>?_,λ γ c hg=>?_,h.below,h.dom,h.defers,h.dep,(λ γ c q hg hq=>?_),h.round,h.glob,by simpa[St.sub]using h.kZ,λ i sv hi=>?_,λ i sv hi=>?_,h.subs.sub λ γ c hg=>by obtain ⟨_,ch,h1,rfl⟩:=yw hg;exact ⟨ch,h1,by cases ch<;>exact id⟩⟩
 ·rw[hsl]at hi;simp only[getElem?_map,map_eq_some_iff]at hi;obtain ⟨sv',h1,rfl⟩:=hi;exact hf _ _ (h.names i sv' h1) (h.slots i sv' h1)
 ·obtain ⟨_,ch,h1,rfl⟩:=yw hg;refine ⟨?_,(h.cH γ ch h1).2⟩;have hr:=(h.cH γ ch h1).1;have hi:=h.cN γ ch h1;cases ch with
  |box t cells =>
   obtain ⟨b,vs,e,hb,h2,h3,h4⟩:=hr;refine ⟨b,vs,e,hb,h2,by simpa[Chunk.map]using h3,λ i sv hs=>?_⟩
   simp only[getElem?_map,map_eq_some_iff]at hs;obtain ⟨sv',h5,rfl⟩:=hs;obtain ⟨v,h6,h7⟩:=h4 i sv' h5;exact ⟨v,h6,hf _ _ (hi sv' (mem_of_getElem? h5)) h7⟩
  |lp i info cells st =>
   obtain ⟨b,r,hb,h2,h3,h4,h5⟩:=hr;refine ⟨b,r,hb,h2,h3,by simpa using h4,λ i sv hs=>?_⟩
   simp only[getElem?_map,map_eq_some_iff]at hs;obtain ⟨sv',h6,rfl⟩:=hs;obtain ⟨v,h7,h8⟩:=h5 i sv' h6;exact ⟨v,h7,hf _ _ (hi sv' (mem_of_getElem? h6)) h8⟩
  |arr e t xs nn=>exact hr.keep (λ _ _=>rfl) (λ n _ hn=>y0m hn)
  |mp k v es=>exact hr.keep (λ _ _=>rfl) (λ n _ hn=>y0m hn)
  |it bs q=>exact hr.keep (λ _ _=>rfl) (λ n _ hn=>y0m hn)
  |mps k e u es hole=>exact hr.keep (λ _ _=>rfl) (λ n _ hn=>y0m hn)
  |nst e t o e' u xs=>exact hr.keep (λ _ _=>rfl) (λ n _ hn=>y0m hn)
  |rcd t cells =>
   obtain ⟨h2,h3,h4,h5⟩:=hr;refine ⟨h2,by rw[length_map];exact h3,by simpa using h4,λ i sv hs=>?_⟩
   simp only[getElem?_map,map_eq_some_iff]at hs;obtain ⟨sv',h6,rfl⟩:=hs;obtain ⟨v,h7,h8⟩:=h5 i sv' h6;exact ⟨v,h7,hf _ _ (hi sv' (mem_of_getElem? h6)) h8⟩
 ·obtain ⟨_,c1,h1,_⟩:=yw hg;obtain ⟨_,c2,h2,_⟩:=yw hd;exact h.inj γ δ c1 c2 h1 h2 hbg hne
 ·rw[hsl]at hi;simp only[getElem?_map,map_eq_some_iff]at hi;obtain ⟨sv',h1,rfl⟩:=hi;show (f sv').inn ((s.cH.set β none).map (Option.map (Chunk.map f))).length
  rw[hlen];exact hn _ (h.names i sv' h1)
 ·obtain ⟨_,ch,h1,rfl⟩:=yw hg;show (ch.map f).inn ((s.cH.set β none).map (Option.map (Chunk.map f))).length
  rw[hlen];have hi:=h.cN γ ch h1;cases ch with
  |box t cells =>
   intro sv hs;obtain ⟨sv',h2,rfl⟩:=mem_map.1 hs;exact hn _ (hi sv' h2)
  |lp i info cells st =>
   intro sv hs;obtain ⟨sv',h2,rfl⟩:=mem_map.1 hs;exact hn _ (hi sv' h2)
  |arr e t xs nn=>trivial
  |mp k v es=>trivial
  |it bs q=>trivial
  |mps k e u es hole=>exact hi
  |nst e t o e' u xs=>trivial
  |rcd t cells =>
   intro sv hs;obtain ⟨sv',h2,rfl⟩:=mem_map.1 hs;exact hn _ (hi sv' h2)
 ·obtain ⟨_,ch,h1,rfl⟩:=yw hg;exact h.lpi γ ch q h1 (by cases ch<;>exact hq)
 ·simp only[St.sub,getElem?_map,map_eq_some_iff]at hi;obtain ⟨sv',h1,rfl⟩:=hi;exact hf _ _ (h.kN i sv' h1) (h.kS i sv' h1)
 ·simp only[St.sub,getElem?_map,map_eq_some_iff]at hi;obtain ⟨sv',h1,rfl⟩:=hi;show (f sv').inn ((s.cH.set β none).map (Option.map (Chunk.map f))).length
  rw[hlen];exact hn _ (h.kN i sv' h1)
theorem yY.sub{A A':Nat->Prop}{β:Nat}{t:Ty}{x:t.den}(hA:∀ n,n < w.heap.size->A' n->A n)(hx:∀ b,(ρ β).blk=some b->yD P A' w ρ (.val (.ref t) x) (.pointer (some ⟨b,0,none⟩))) :
  ∀ {cs:List Cap} {vs:List Value},yY P A w ρ cs vs->yY P A' w ρ (cs.map (yBy β t x)) vs
 |[],[],_=>trivial
 |[],_::_,h=>h
 |_::_,[],h=>h
 |.box γ::cs,v::vs,h=>by
  refine ⟨?_,yY.sub hA hx h.2⟩;have h1:=h.1;simp only[yBy];split
  ·rename_i e;subst e;obtain ⟨b,hb,rfl⟩:=h1;exact hx b hb
  ·exact h1
 |.val u y::cs,v::vs,h=>by
  refine ⟨?_,yY.sub hA hx h.2⟩;obtain ⟨l,hl,e⟩:=h.1;exact ⟨l,hl.mono (λ _ _ _=>rfl) hA,e⟩
theorem y0O.sub{β:Nat}{u:Ty}{x:u.den}{n:Nat}:∀ {cs:List Cap},y0O n cs->y0O n (cs.map (yBy β u x))
 |[],_=>trivial
 |.box γ::cs,h=>by
  simp only[map_cons,yBy];split
  ·exact y0O.sub h.2
  ·exact ⟨h.1,y0O.sub h.2⟩
 |.val _ _::cs,h=>y0O.sub (cs:=cs) h
theorem y2i.arr{A:Nat->Prop}{e:TypeId}{u:Ty}{xs:List u.den}{o:Option Nat}{v:Value}(h:y2i P A w e u xs o v):∃ cap,v=.slice (o.map λ b=>⟨b,0,none⟩) xs.length cap/\yC P A w ρ ⟨o,xs.length,cap,[],[],[]⟩ (.arr e u xs false):=by
 obtain ⟨cap,h1,h2⟩:=h;exact ⟨cap,h1,rfl,(λ h=>by cases h),h2⟩
theorem yJv{A A':Nat->Prop}{p:Place}{k u:Ty}{e:TypeId}{es:List (k.den×List u.den)}(h:yC P A w ρ p (.mps k e u es none))(hA:∀ n,n < w.heap.size->A' n->A n)(hb:∀ b,p.blk=some b->¬ A' b)(hs:∀ b,some b∈p.subs->¬ A' b) :
  ∃ b,p.blk=some b/\Cells P (.map k (.slice u)) A' w es [.map (some b)]:=by
 obtain ⟨b,ms,c,h1,h2,h3,_,h4⟩:=h;refine ⟨b,h1,.inr ⟨b,ms,c,rfl,hb b h1,h2,h3.1,λ i x hi=>?_⟩⟩
 obtain ⟨en,o,h5,h6,h7,h8⟩:=h4 i x hi;rcases h8 with ⟨q,hq,_⟩|⟨_,h8⟩
 ·cases hq
 ·obtain ⟨cap,h9,h10⟩:=y2i.arr (ρ:=ρ) h8;exact ⟨en,_,h5,h7,(y5S h10 hA (λ b hb=>hs b (hb ▸ mem_of_getElem? h6))).2.2,h9⟩
theorem Rel.freeze(h:Rel P A0 w0 ρ s a w)(β:Nat):Rel P A0 w0 ρ (s.freeze β) a w:=by
 unfold St.freeze;split
 ·rename_i e t xs nn hch;have hc:=getD_some hch;obtain ⟨h1,h2,h3⟩:=y5S (A':=Av A0 ρ ((s.cH.set β none).map (Option.map (Chunk.map (y1V β (if nn then .val (.nS t) (some xs)else .val (.slice t) xs)))))) (h.cH β _ hc).1 (λ n _ hn=>y0m hn) (λ b hb=>h.free hc hb)
  have hval:yD P (Av A0 ρ ((s.cH.set β none).map (Option.map (Chunk.map (y1V β (if nn then .val (.nS t) (some xs)else .val (.slice t) xs)))))) w ρ (if nn then .val (.nS t) (some xs)else .val (.slice t) xs) (.slice ((ρ β).blk.map λ b=>⟨b,0,none⟩) (ρ β).len (ρ β).cap):=by
   cases nn with
   |true=>exact ⟨_,h2 rfl,rfl⟩
   |false=>exact ⟨_,h1 rfl,rfl⟩
  have hin:(if nn then SV.val (.nS t) (some xs)else .val (.slice t) xs).inn s.cH.length:=by cases nn<;>trivial
  clear h1 h2 h3;generalize (if nn then SV.val (.nS t) (some xs)else .val (.slice t) xs)=V at *
  refine h.sub β _ (λ sv v hi hs=>?_) (λ sv hi=>?_)
  ·cases sv with
   |own γ =>
    simp only[y1V];split
    ·rename_i e';subst e';simp only[yD]at hs;subst hs;exact hval
    ·exact hs
   |_=>exact hs.mono (λ _ _ _=>rfl) (λ n _ hn=>y0m hn)
  ·cases sv with
   |own γ =>
    simp only[y1V];split
    ·exact hin
    ·exact hi
   |_=>exact hi
 ·rename_i t cells hch;split
  ·rename_i x hx;have hc:=getD_some hch;have hval:∀ b,(ρ β).blk=some b->yD P (Av A0 ρ ((s.cH.set β none).map (Option.map (Chunk.map (yF3 β t x))))) w ρ (.val (.ref t) x) (.pointer (some ⟨b,0,none⟩)):=by
    intro b hb;obtain ⟨b',vs,hb',h1,h2⟩:=yC1 (h.cH β _ hc).1;rw[hb]at hb';cases hb';have h3:=y1x _ _ _ _ h2 hx;obtain ⟨b'',vs',e,hb'',h4,_⟩:=(h.cH β _ hc).1;rw[hb]at hb'';cases hb'';exact yBs (h.free hc hb) (yJ h4) h1 (h3.mono (λ _ _ _=>rfl) (λ n _ hn=>y0m hn))
   refine h.sub β _ (λ sv v hi hs=>?_) (λ sv hi=>?_)
   ·cases sv with
    |bP γ off =>
     simp only[yF3];split
     ·rename_i e;subst e;split
      ·rename_i e0;subst e0;obtain ⟨b,hb,rfl⟩:=hs;exact hval b hb
      ·trivial
     ·exact hs
    |clo f caps =>
     obtain ⟨vs,h1,h2⟩:=hs;exact ⟨vs,h1,yY.sub (λ n _ hn=>y0m hn) hval h2⟩
    |_=>exact hs.mono (λ _ _ _=>rfl) (λ n _ hn=>y0m hn)
   ·cases sv with
    |bP γ off =>
     simp only[yF3];split
     ·split<;>trivial
     ·exact hi
    |clo f caps=>exact y0O.sub hi
    |_=>exact hi
  ·exact h
 ·rename_i k u es hch;have hc:=getD_some hch;obtain ⟨b,hb,hm⟩:=yC7 (A':=Av A0 ρ ((s.cH.set β none).map (Option.map (Chunk.map (y6y β (.val (.map k u) es)))))) (h.cH β _ hc).1 (λ n _ hn=>y0m hn) (λ b hb=>h.free hc hb)
  refine h.sub β _ (λ sv v hi hs=>?_) (λ sv hi=>?_)
  ·cases sv with
   |mO γ =>
    simp only[y6y];split
    ·rename_i e';subst e';simp only[yD]at hs;subst hs;exact ⟨_,hm,by rw[hb];rfl⟩
    ·exact hs
   |_=>exact hs.mono (λ _ _ _=>rfl) (λ n _ hn=>y0m hn)
  ·cases sv with
   |mO γ =>
    simp only[y6y];split
    ·trivial
    ·exact hi
   |_=>exact hi
 ·rename_i k e u es hch;have hc:=getD_some hch;obtain ⟨b,hb,hm⟩:=yJv (A':=Av A0 ρ ((s.cH.set β none).map (Option.map (Chunk.map (y6y β (.val (.map k (.slice u)) es)))))) (h.cH β _ hc).1 (λ n _ hn=>y0m hn) (λ b hb=>h.free hc hb) (λ b hb=>h.freeS hc hb)
  refine h.sub β _ (λ sv v hi hs=>?_) (λ sv hi=>?_)
  ·cases sv with
   |mO γ =>
    simp only[y6y];split
    ·rename_i e';subst e';simp only[yD]at hs;subst hs;exact ⟨_,hm,by rw[hb];rfl⟩
    ·exact hs
   |_=>exact hs.mono (λ _ _ _=>rfl) (λ n _ hn=>y0m hn)
  ·cases sv with
   |mO γ =>
    simp only[y6y];split
    ·trivial
    ·exact hi
   |_=>exact hi
 ·rename_i e t o e' u xs hch;have hc:=getD_some hch;have hst:=(h.cH β _ hc).1;have hA:∀ n,n < w.heap.size->Av A0 ρ ((s.cH.set β none).map (Option.map (Chunk.map (y8P β t o u xs)))) n->Av A0 ρ s.cH n:=λ n _ hn=>y0m hn
  have hm:=nst_cells (A':=Av A0 ρ ((s.cH.set β none).map (Option.map (Chunk.map (y8P β t o u xs))))) hst hA (λ b hb=>h.free hc hb) (λ b hb=>h.freeS hc hb)
  refine h.sub β _ (λ sv v hi hs=>?_) (λ sv hi=>?_)
  ·cases sv with
   |own γ =>
    simp only[y8P];split
    ·rename_i e';subst e';simp only[yD]at hs;subst hs;exact ⟨_,hm,rfl⟩
    ·exact hs
   |nO γ i =>
    simp only[y8P];split
    ·rename_i e2;subst e2;obtain ⟨q,hq,rfl⟩:=hs;split
     ·rename_i ys hys;obtain ⟨x,hx,hys⟩:=bind_eq_some_iff.1 hys;obtain ⟨b,q2,l,hb,h0,h6,h7⟩:=y6Y hst hx;rw[hq]at h0;cases h0;obtain ⟨ys',hys',_,_,h8,h9⟩:=h7.comp;rw[hys]at hys';cases hys';refine ⟨_,h9.cells h8 hA (λ b hb=>h.freeS hc ?_),rfl⟩
      rw[hst.1.2.1,<- hb];exact mem_map.2 ⟨q,mem_of_getElem? hq,rfl⟩
     ·trivial
    ·exact hs
   |_=>exact hs.mono (λ _ _ _=>rfl) (λ n _ hn=>y0m hn)
  ·cases sv with
   |own γ =>
    simp only[y8P];split
    ·trivial
    ·exact hi
   |nO γ i =>
    simp only[y8P];split
    ·split<;>trivial
    ·exact hi
   |_=>exact hi
 ·rename_i t cells hch;split
  ·rename_i x hx;have hc:=getD_some hch;obtain ⟨_,hag,h2,h3⟩:=(h.cH β _ hc).1;have h4:=y1x _ _ _ _ (show yA P (Av A0 ρ s.cH) w ρ cells (ρ β).vals from ⟨h2,h3⟩) hx
   rcases hag with ⟨hag,hln⟩|⟨rfl,_,h22⟩
   rotate_left
   ·exfalso
    have:=h4.length;rw[h2]at this;simp only[Ty.size]at this;omega
   refine h.sub β _ (λ sv v hi hs=>?_) (λ sv hi=>?_)
   ·cases sv with
    |sR γ =>
     simp only[yJc];split
     ·rename_i e';subst e';simp only[yD]at hs;subst hs;exact ⟨_,h4.mono (λ _ _ _=>rfl) (λ n _ hn=>y0m hn),by simp[Ty.wrap,hag,recV,hln]⟩
     ·exact hs
    |_=>exact hs.mono (λ _ _ _=>rfl) (λ n _ hn=>y0m hn)
   ·cases sv with
    |sR γ =>
     simp only[yJc];split
     ·trivial
     ·exact hi
    |_=>exact hi
  ·exact h
 ·exact h
theorem Rel.freezeCaps:∀ (cs:List Cap) {s:St},Rel P A0 w0 ρ s a w->Rel P A0 w0 ρ (Vx.freezeCaps cs s) a w
 |[],_,h=>h
 |.box β::cs,_,h=>Rel.freezeCaps cs (h.freeze β)
 |.val _ _::cs,_,h=>Rel.freezeCaps cs h
theorem Rel.settle1(h:Rel P A0 w0 ρ s a w)(sv:SV):Rel P A0 w0 ρ (s.settle1 sv) a w:=by
 unfold St.settle1;split
 ·exact h.freeze _
 ·exact h.freeze _
 ·exact h.freezeCaps _
 ·exact h
theorem Rel.settleCells1:∀ (l:List SV) {s:St},Rel P A0 w0 ρ s a w->Rel P A0 w0 ρ (Vx.settleCells1 l s) a w
 |[],_,h=>h
 |sv::l,_,h=>Rel.settleCells1 l (h.settle1 sv)
theorem Rel.settle(h:Rel P A0 w0 ρ s a w)(sv:SV):Rel P A0 w0 ρ (s.settle sv) a w:=by
 unfold St.settle;split
 ·split
  ·exact (Rel.settleCells1 _ h).freeze _
  ·exact h.freeze _
 ·exact h.freeze _
 ·exact h.settle1 _
theorem Rel.settleAll:∀ (xs:List Operand) {s:St},Rel P A0 w0 ρ s a w->Rel P A0 w0 ρ (Vx.settleAll xs s) a w
 |[],_,h=>h
 |.tmp t::l,_,h=>Rel.settleAll l (h.settle _)
 |.const _::l,_,h=>Rel.settleAll l h
 |.global _::l,_,h=>Rel.settleAll l h
 |.func _::l,_,h=>Rel.settleAll l h
structure Weak (P:Program) (A0:Nat->Prop) (w:World) (ρ ρ':Places) (s s':St):Prop where
 len:s'.slots.length=s.slots.length
 slots:∀ (i:Nat) (sv sv':SV) (v:Value),s.slots[i]?=some sv->s'.slots[i]?=some sv'->yD P (Av A0 ρ s.cH) w ρ sv v->yD P (Av A0 ρ' s'.cH) w ρ' sv' v
 cH:∀ (β:Nat) (ch':Chunk),s'.cH[β]?=some (some ch')->∃ γ ch,s.cH[γ]?=some (some ch)/\ρ' β=ρ γ/\(yC P (Av A0 ρ s.cH) w ρ (ρ γ) ch->yC P (Av A0 ρ' s'.cH) w ρ' (ρ γ) ch')/\ch'.isM=ch.isM
 inj:∀ (β δ:Nat) (c d:Chunk),s'.cH[β]?=some (some c)->s'.cH[δ]?=some (some d)->(ρ' β).blk=(ρ' δ).blk->(ρ' β).blk≠none->β=δ
 names:∀ (i:Nat) (sv:SV),s'.slots[i]?=some sv->sv.inn s'.cH.length
 cN:∀ (β:Nat) (ch:Chunk),s'.cH[β]?=some (some ch)->ch.inn s'.cH.length
 klen:s'.kept.length=s.kept.length
 kS:∀ (i:Nat) (sv sv':SV) (v:Value),s.kept[i]?=some sv->s'.kept[i]?=some sv'->yD P (Av A0 ρ s.cH) w ρ sv v->yD P (Av A0 ρ' s'.cH) w ρ' sv' v
 kN:∀ (i:Nat) (sv:SV),s'.kept[i]?=some sv->sv.inn s'.cH.length
 dep:s'.dep=s.dep
 nmk:s'.nmk=0->s.nmk=0
 rnd:s'.rnd=s.rnd
theorem Rel.weak(h:Rel P A0 w0 ρ s a w){ρ':Places}{s':St}(hw:Weak P A0 w ρ ρ' s s')(hl:∀ (β:Nat) (ch:Chunk) (q:Nat×LpInfo),s'.cH[β]?=some (some ch)->ch.lpNo=some q->w0.infos[q.1]?=some q.2):Rel P A0 w0 ρ' s' a w:=by
 refine ⟨hw.len.trans h.size,λ i sv' hi=>?_,λ β ch' hb=>?_,hw.inj,hw.names,hw.cN,h.below,h.dom,(let ⟨ms,⟨q1,q2,q3⟩,q4⟩:=h.defers;⟨ms,⟨q1,λ h0=>q2 (hw.nmk h0),q3⟩,q4⟩),⟨hw.dep.trans h.dep.1,hw.rnd.trans h.dep.2⟩,hl,h.round,h.glob,hw.klen.trans h.kZ,λ i sv' hi=>?_,hw.kN,⟨λ β c hb hm=>?_,λ β c n hb hn=>?_,λ β γ c d n hb hg hn=>?_,λ β γ c d n hb hg hn hm=>?_⟩⟩
 ·have hlt:i < s.slots.length:=hw.len ▸ (List.getElem?_eq_some_iff.1 hi).1;exact hw.slots i _ sv' _ (getElem?_eq_getElem hlt) hi (h.slots i _ (getElem?_eq_getElem hlt))
 ·obtain ⟨γ,ch,h1,h2,h3,_⟩:=hw.cH β ch' hb;rw[h2];exact ⟨h3 (h.cH γ ch h1).1,(h.cH γ ch h1).2⟩
 ·have hlt:i < s.kept.length:=hw.klen ▸ (List.getElem?_eq_some_iff.1 hi).1;exact hw.kS i _ sv' _ (getElem?_eq_getElem hlt) hi (h.kS i _ (getElem?_eq_getElem hlt))
 ·obtain ⟨γ,ch,h1,h2,_,h4⟩:=hw.cH β c hb;rw[h2];exact h.subs.plain γ ch h1 (h4 ▸ hm)
 ·obtain ⟨γ,ch,h1,h2,_,h4⟩:=hw.cH β c hb;rw[h2]at hn;exact h.subs.base γ ch n h1 hn
 ·obtain ⟨β',ch,h1,h2,_,h4⟩:=hw.cH β c hb;obtain ⟨γ',dh,h5,h6,_,h7⟩:=hw.cH γ d hg;rw[h2]at hn;rw[h6];exact h.subs.apart β' γ' ch dh n h1 h5 hn
 ·obtain ⟨β',ch,h1,h2,_,h4⟩:=hw.cH β c hb;obtain ⟨γ',dh,h5,h6,_,h7⟩:=hw.cH γ d hg;have hn':=hn;rw[h2]at hn';rw[h6]at hm;have he:=h.subs.one β' γ' ch dh n h1 h5 hn' hm;subst he;refine hw.inj β γ c d hb hg (by rw[h2,h6]) ?_
  rw[h2];cases hq:ch.isM with
  |false=>rw[h.subs.plain β' ch h1 hq]at hn';cases hn'
  |true =>
   cases ch with
   |mps k e u es hole =>
    obtain ⟨b,ms,c,hb',_⟩:=(h.cH β' _ h1).1;rw[hb'];simp
   |nst e t o e' u xs =>
    obtain ⟨⟨a1,a2,a3⟩,_,⟨_,a4,_⟩|⟨b,_,hb',_⟩⟩:=(h.cH β' _ h1).1
    ·have:(ρ β').ns=[]:=List.eq_nil_of_length_eq_zero (by omega)
     rw[a2,this]at hn';cases hn'
    ·rw[hb'];simp
   |_=>cases hq
end
end Go.Vx
end
section
namespace Go.Vx
open Go.RowKit
variable [GT]
section
variable {P:Program} {A0:Nat->Prop} {w0:Base} {ρ:Places} {s:St} {a:Act} {w w':World} {g:G}
theorem yG{α:Type}{c:Prop}[Decidable c]{x:Option α}{y:α}(h:(if c then x else none)=some y):c/\x=some y:=by
 split at h
 ·exact ⟨‹_›,h⟩
 ·cases h
theorem y1w{α β γ:Type}{o:Option α}{p:Option β}{f:α->β->γ}{y:γ}(h:(o.bind λ a=>p.map λ b=>f a b)=some y):∃ a b,o=some a/\p=some b/\f a b=y:=by
 cases o with
 |none=>cases h
 |some a=>cases p with
  |none=>cases h
  |some b=>exact ⟨a,b,rfl,rfl,Option.some.inj h⟩
theorem yq{l:List Nat}{β:Nat}(h:l.contains β=true):y0P l β < l.length/\l.getD (y0P l β) 0=β:=by
 have hm:β∈l:=by simpa using h
 have hlt:l.idxOf β < l.length:=List.idxOf_lt_length_of_mem hm;refine ⟨hlt,?_⟩;unfold y0P;rw[List.getD_eq_getElem?_getD,getElem?_eq_getElem hlt];simp
def y3c(ρ:Places)(l:List Nat):Places:=λ i=>ρ (l.getD i 0)
theorem y06{l:List Nat}{β:Nat}(h:l.contains β=true):y3c ρ l (y0P l β)=ρ β:=by
 unfold y3c;rw[(yq h).2]
theorem y3l{A A':Nat->Prop}{l:List Nat}(hA:∀ n,n < w.heap.size->A' n->A n):∀ {cs ds:List Cap} {vs:List Value},y1N l cs=some ds->yY P A w ρ cs vs->yY P A' w (y3c ρ l) ds vs/\y0O l.length ds
 |[],ds,vs,h,hr=>by
  simp[y1N]at h;subst h;cases vs with
  |nil=>exact ⟨trivial,trivial⟩
  |cons v vs=>exact hr.elim
 |c::cs,ds,vs,h,hr=>by
  simp only[y1N,bind_eq_some_iff,map_eq_some_iff]at h;obtain ⟨d,hd,ds',hds,rfl⟩:=h;cases vs with
  |nil=>exact hr.elim
  |cons v vs =>
   obtain ⟨h1,h2⟩:=y3l hA hds hr.2;have h0:=hr.1;cases c with
   |box β =>
    simp only[Cap.rename]at hd;split at hd
    ·rename_i hc;cases hd;refine ⟨⟨?_,h1⟩,(yq hc).1,h2⟩;simp only[yBa,y06 hc];exact h0
    ·cases hd
   |val t x =>
    simp only[Cap.rename,Option.some.injEq]at hd;subst hd;obtain ⟨m,hm,e⟩:=h0;exact ⟨⟨⟨m,hm.mono (λ _ _ _=>rfl) hA,e⟩,h1⟩,h2⟩
theorem y1u{A A':Nat->Prop}{l:List Nat}(hA:∀ n,n < w.heap.size->A' n->A n){sv:SV}{v:Value}(h:yD P A w ρ sv v):yD P A' w (y3c ρ l) (sv.rename l) v:=by
 cases sv with
 |undef=>trivial
 |val t x=>obtain ⟨m,hm,e⟩:=h;exact ⟨m,hm.mono (λ _ _ _=>rfl) hA,e⟩
 |tup t x=>obtain ⟨m,hm,e⟩:=h;exact ⟨m,hm.mono (λ _ _ _=>rfl) hA,e⟩
 |xV t x=>obtain ⟨m,hm,e⟩:=h;exact ⟨m,hm.mono (λ _ _ _=>rfl) hA,e⟩
 |nils=>exact h
 |nilp=>exact h
 |gone=>exact h
 |bP β off =>
  simp only[SV.rename];split
  ·rename_i hc;simp only[yD,y06 hc];exact h
  ·trivial
 |own β =>
  simp only[SV.rename];split
  ·rename_i hc;simp only[yD,y06 hc];exact h
  ·trivial
 |eP β i sz off =>
  simp only[SV.rename];split
  ·rename_i hc;simp only[yD,y06 hc];exact h
  ·trivial
 |oS β i sz =>
  simp only[SV.rename];split
  ·rename_i hc;simp only[yD,y06 hc];exact h
  ·trivial
 |mO β =>
  simp only[SV.rename];split
  ·rename_i hc;simp only[yD,y06 hc];exact h
  ·trivial
 |yld β =>
  simp only[SV.rename];split
  ·rename_i hc;simp only[yD,y06 hc];exact h
  ·trivial
 |mP β e =>
  simp only[SV.rename];split
  ·rename_i hc;simp only[yD,y06 hc];exact h
  ·trivial
 |sR β =>
  simp only[SV.rename];split
  ·rename_i hc;simp only[yD,y06 hc];exact h
  ·trivial
 |nO β i =>
  simp only[SV.rename];split
  ·rename_i hc;simp only[yD,y06 hc];exact h
  ·trivial
 |nP β i j sz off =>
  simp only[SV.rename];split
  ·rename_i hc;simp only[yD,y06 hc];exact h
  ·trivial
 |meth f β =>
  simp only[SV.rename];split
  ·rename_i hc;simp only[yD,y06 hc];exact h
  ·trivial
 |clo f caps =>
  simp only[SV.rename];split
  ·rename_i cs hcs;obtain ⟨vs,e,hr⟩:=h;exact ⟨vs,e,(y3l hA hcs hr).1⟩
  ·trivial
theorem y5U{l:List Nat}:∀ {cs ds:List Cap},y1N l cs=some ds->y0O l.length ds
 |[],ds,h=>by simp[y1N]at h;subst h;trivial
 |c::cs,ds,h=>by
  simp only[y1N,bind_eq_some_iff,map_eq_some_iff]at h;obtain ⟨d,hd,ds',hds,rfl⟩:=h;have h2:=y5U hds;cases c with
  |box β =>
   simp only[Cap.rename]at hd;split at hd
   ·rename_i hc;cases hd;exact ⟨(yq hc).1,h2⟩
   ·cases hd
  |val t x=>simp only[Cap.rename,Option.some.injEq]at hd;subst hd;exact h2
theorem y4D{l:List Nat}(sv:SV):(sv.rename l).inn l.length:=by
 cases sv with
 |bP β off=>simp only[SV.rename];split;exact (yq ‹_›).1;trivial
 |own β=>simp only[SV.rename];split;exact (yq ‹_›).1;trivial
 |eP β i sz off=>simp only[SV.rename];split;exact (yq ‹_›).1;trivial
 |oS β i sz=>simp only[SV.rename];split;exact (yq ‹_›).1;trivial
 |mO β=>simp only[SV.rename];split;exact (yq ‹_›).1;trivial
 |yld β=>simp only[SV.rename];split;exact (yq ‹_›).1;trivial
 |mP β e=>simp only[SV.rename];split;exact (yq ‹_›).1;trivial
 |sR β=>simp only[SV.rename];split;exact (yq ‹_›).1;trivial
 |nO β i=>simp only[SV.rename];split;exact (yq ‹_›).1;trivial
 |nP β i j sz off=>simp only[SV.rename];split;exact (yq ‹_›).1;trivial
 |meth f β=>simp only[SV.rename];split;exact (yq ‹_›).1;trivial
 |clo f caps =>
  simp only[SV.rename];split
  ·exact y5U ‹_›
  ·trivial
 |_=>trivial
theorem yEU{A:Nat->Prop}{sv:SV}{v:Value}(h:yD P A w ρ sv v):yD P A w ρ (yLH sv) v:=by
 unfold yLH;split
 ·obtain ⟨m,hm,e⟩:=h;exact ⟨m,y6i hm,e⟩
 ·exact h
theorem yFG(keep:List Nat):∀ (l:List SV) (k i:Nat) (sv':SV),(kL keep k l)[i]?=some sv'->∃ sv,l[i]?=some sv/\(sv'=yLH sv\/sv'=.undef)
 |[],_,i,_,h=>by simp[kL]at h
 |sv::l,k,i,sv',h=>by
  simp only[kL]at h;cases i with
  |zero =>
   simp at h;subst h;refine ⟨sv,rfl,?_⟩;split
   ·exact .inl rfl
   ·exact .inr rfl
  |succ i=>simpa using yFG keep l (k+1) i sv' (by simpa using h)
theorem y8M(keep:List Nat):∀ (l:List SV) (k:Nat),(kL keep k l).length=l.length
 |[],_=>rfl
 |sv::l,k=>by simp[kL,y8M keep l (k+1)]
omit [GT] in
theorem Chunk.rename_some{l:List Nat}{c c':Chunk}(h:c.rename l=some c'):c'=c.map (SV.rename l)/\∀ k e u es q,c≠.mps k e u es (some q):=by
 unfold Chunk.rename at h;split at h
 ·cases h
 ·rename_i hn;cases h;exact ⟨rfl,λ k e u es q hc=>hn k e u es q hc⟩
theorem y9K(h:Rel P A0 w0 ρ s a w)(l keep:List Nat):Weak P A0 w ρ (y3c ρ l) s (y5e l keep s):=by
 unfold y5e;have hch:∀ (i:Nat) (ch':Chunk),(l.zipIdx.map λ p=>if y0P l p.1=p.2 then (s.cH.getD p.1 none).bind (Chunk.rename l)else none)[i]?=some (some ch') ->
   ∃ γ ch,s.cH[γ]?=some (some ch)/\y3c ρ l i=ρ γ/\(ch'=ch.map (SV.rename l)/\∀ k e u es q,ch≠.mps k e u es (some q))/\y0P l γ=i:=by
  intro i ch' hi;rw[getElem?_map,map_eq_some_iff]at hi;obtain ⟨⟨γ,j⟩,h1,h2⟩:=hi;rw[List.getElem?_zipIdx]at h1;simp only[map_eq_some_iff,Nat.zero_add,Prod.mk.injEq]at h1;obtain ⟨γ',h3,rfl,rfl⟩:=h1;simp only at h2;split at h2
  ·rename_i hn;rw[bind_eq_some_iff]at h2;obtain ⟨ch,h4,h5⟩:=h2;exact ⟨γ',ch,getD_some h4,by unfold y3c;rw[List.getD_eq_getElem?_getD,h3];rfl,Chunk.rename_some h5,hn⟩
  ·cases h2
 have hA:∀ n,Av A0 (y3c ρ l) (l.zipIdx.map λ p=>if y0P l p.1=p.2 then (s.cH.getD p.1 none).bind (Chunk.rename l)else none) n->Av A0 ρ s.cH n:=by
  rintro n ((h0|⟨i,c,hc,hb⟩)|⟨i,c,hc,hb⟩)
  ·exact .inl (.inl h0)
  ·obtain ⟨γ,ch,h1,h2,_⟩:=hch i c hc;rw[h2]at hb;exact .inl (.inr ⟨γ,ch,h1,hb⟩)
  ·obtain ⟨γ,ch,h1,h2,_⟩:=hch i c hc;rw[h2]at hb;exact .inr ⟨γ,ch,h1,hb⟩
 refine ⟨by rw[St.slots_of];simp[y8M],λ i sv sv' v hs hs' hr=>?_,λ i ch' hi=>?_,λ i j c d hi hj hij hne=>?_,λ i sv hs=>?_,λ i ch hi=>?_,by simp,λ i sv sv' v hs hs' hr=>?_,λ i sv hs=>?_,rfl,id,rfl⟩
 ·rw[St.slots_of]at hs';simp only[getElem?_map,map_eq_some_iff]at hs';obtain ⟨sv1,h1,rfl⟩:=hs';obtain ⟨sv2,h2,h3⟩:=yFG keep _ _ _ _ h1;rw[hs]at h2;cases h2;rcases h3 with rfl|rfl
  ·exact y1u (λ n _ hn=>hA n hn) (yEU hr)
  ·trivial
 ·obtain ⟨γ,ch,h1,h2,⟨rfl,hnh⟩,_⟩:=hch i ch' hi;refine ⟨γ,ch,h1,h2,λ hr=>?_,by cases ch<;>rfl⟩
  cases ch with
  |box t cells =>
   obtain ⟨b,vs,e,hb,h3,h4,h5⟩:=hr;refine ⟨b,vs,e,hb,h3,by simpa[Chunk.map]using h4,λ j sv hj=>?_⟩
   simp only[getElem?_map,map_eq_some_iff]at hj;obtain ⟨sv',h6,rfl⟩:=hj;obtain ⟨v,h7,h8⟩:=h5 j sv' h6;exact ⟨v,h7,y1u (λ n _ hn=>hA n hn) h8⟩
  |lp j info cells st =>
   obtain ⟨b,r,hb,h3,h4,h5,h6⟩:=hr;refine ⟨b,r,hb,h3,h4,by simpa using h5,λ j sv hj=>?_⟩
   simp only[getElem?_map,map_eq_some_iff]at hj;obtain ⟨sv',h7,rfl⟩:=hj;obtain ⟨v,h8,h9⟩:=h6 j sv' h7;exact ⟨v,h8,y1u (λ n _ hn=>hA n hn) h9⟩
  |arr e t xs nn=>exact (yC.keep hr (λ _ _=>rfl) (λ n _ hn=>hA n hn))
  |mp k v es=>exact (yC.keep hr (λ _ _=>rfl) (λ n _ hn=>hA n hn))
  |it bs q=>exact (yC.keep hr (λ _ _=>rfl) (λ n _ hn=>hA n hn))
  |mps k e u es hole =>
   cases hole with
   |some q=>exact absurd rfl (hnh k e u es q)
   |none =>
    have h1:=yC.keep (A':=Av A0 (y3c ρ l) (l.zipIdx.map λ p=>if y0P l p.1=p.2 then (s.cH.getD p.1 none).bind (Chunk.rename l)else none)) hr (λ _ _=>rfl) (λ n _ hn=>hA n hn)
    exact h1.noHole
  |nst e t o e' u xs=>exact (yC.keep hr (λ _ _=>rfl) (λ n _ hn=>hA n hn))
  |rcd t cells =>
   obtain ⟨h3,h4,h5,h6⟩:=hr;refine ⟨h3,by rw[length_map];exact h4,by simpa using h5,λ j sv hj=>?_⟩
   simp only[getElem?_map,map_eq_some_iff]at hj;obtain ⟨sv',h7,rfl⟩:=hj;obtain ⟨v,h8,h9⟩:=h6 j sv' h7;exact ⟨v,h8,y1u (λ n _ hn=>hA n hn) h9⟩
 ·obtain ⟨γ,ch,h1,h2,_,h3⟩:=hch i c hi;obtain ⟨δ,dh,h4,h5,_,h6⟩:=hch j d hj;rw[h2,h5]at hij;rw[h2]at hne;have:=h.inj γ δ ch dh h1 h4 hij hne;rw[<- h3,<- h6,this]
 ·rw[St.slots_of]at hs;simp only[getElem?_map,map_eq_some_iff]at hs;obtain ⟨sv1,_,rfl⟩:=hs;simpa using y4D (l:=l) sv1
 ·obtain ⟨γ,ch',_,_,⟨rfl,hnh⟩,_⟩:=hch i ch hi;cases ch' with
  |box t cells =>
   intro sv hs;obtain ⟨sv',_,rfl⟩:=mem_map.1 hs;simpa using y4D (l:=l) sv'
  |lp j info cells st =>
   intro sv hs;obtain ⟨sv',_,rfl⟩:=mem_map.1 hs;simpa using y4D (l:=l) sv'
  |arr e t xs nn=>trivial
  |mp k v es=>trivial
  |it bs q=>trivial
  |mps k e u es hole =>
   cases hole with
   |some q=>exact absurd rfl (hnh k e u es q)
   |none=>intro q hq;cases hq
  |nst e t o e' u xs=>trivial
  |rcd t cells =>
   intro sv hs;obtain ⟨sv',_,rfl⟩:=mem_map.1 hs;simpa using y4D (l:=l) sv'
 ·simp only[getElem?_map,map_eq_some_iff]at hs';obtain ⟨sv1,h1,rfl⟩:=hs';rw[hs]at h1;cases h1;exact y1u (λ n _ hn=>hA n hn) hr
 ·simp only[getElem?_map,map_eq_some_iff]at hs;obtain ⟨sv1,_,rfl⟩:=hs;simpa using y4D (l:=l) sv1
theorem y9e(h:Rel P A0 w0 ρ s a w)(keep:List Nat):∃ ρ',Weak P A0 w ρ ρ' s (canon keep s):=⟨_,y9K h _ keep⟩
def LpI(I:List LpInfo)(s:St):Prop:=∀ (β:Nat) (ch:Chunk) (q:Nat×LpInfo),s.cH[β]?=some (some ch)->ch.lpNo=some q->I[q.1]?=some q.2
theorem yFH{I:List LpInfo}(h:LpI I s)(keep:List Nat):LpI I (canon keep s):=by
 intro β ch q hb hq;unfold canon y5e at hb;simp only[getElem?_map,map_eq_some_iff]at hb;obtain ⟨⟨γ,j⟩,_,h2⟩:=hb;split at h2
 ·rw[bind_eq_some_iff]at h2;obtain ⟨c,h4,h5⟩:=h2;obtain ⟨rfl,_⟩:=Chunk.rename_some h5;exact h γ c q (getD_some h4) (by cases c<;>exact hq)
 ·cases h2
theorem Rel.canon(h:Rel P A0 w0 ρ s a w)(keep:List Nat):∃ ρ',Rel P A0 w0 ρ' (Vx.canon keep s) a w:=by
 obtain ⟨ρ',hw⟩:=y9e h keep;exact ⟨ρ',h.weak hw (yFH h.lpi keep)⟩
theorem y3q{A A':Nat->Prop}(hA:∀ n,n < w.heap.size->A' n->A n):∀ {l l':List Cap} {y:(y4H l).den} {vs:List Value},y3A l l'=some y->yY P A w ρ l' vs->yY P A' w ρ (y60 l y) vs
 |[],[],_,vs,_,h=>by cases vs with|nil=>trivial|cons v vs=>exact h.elim
 |[],_::_,_,_,h,_=>by simp[y3A]at h
 |.val t x::l,[],_,_,h,_=>by simp[y3A]at h
 |.box β::l,[],_,_,h,_=>by simp[y3A]at h
 |.val t x::l,.box γ::l',_,_,h,_=>by simp[y3A]at h
 |.box β::l,.val u z::l',_,_,h,_=>by simp[y3A]at h
 |.val t x::l,.val u z::l',y,vs,h,hr=>by
  obtain ⟨p,q,hp,hq,rfl⟩:=y1w (γ:=(y4H (.val t x::l)).den) (f:=λ a b=>(a,b)) h
  cases vs with
  |nil=>exact hr.elim
  |cons v vs =>
   refine ⟨?_,y3q hA hq hr.2⟩;obtain ⟨m,hm,e⟩:=hr.1;obtain ⟨h1,h2⟩:=y55 hp hm;exact ⟨m,h1.mono (λ _ _ _=>rfl) hA,by rw[h2];exact e⟩
 |.box β::l,.box γ::l',y,vs,h,hr=>by
  obtain ⟨e,h'⟩:=yG (α:=(y4H l).den) h;subst e;cases vs with
  |nil=>exact hr.elim
  |cons v vs=>exact ⟨hr.1,y3q hA h' hr.2⟩
theorem y1e{A A':Nat->Prop}(hA:∀ n,n < w.heap.size->A' n->A n):∀ (l l':List SV) (y:(yy l).den),yP l l'=some y ->
  (yL l y).length=l'.length/\∀ (i:Nat) (sv sv':SV) (v:Value),l'[i]?=some sv->(yL l y)[i]?=some sv'->yD P A w ρ sv v->yD P A' w ρ sv' v:=by
 intro l;induction l with
 |nil =>
  intro l' y h;cases l' with
  |nil=>exact ⟨rfl,λ i sv sv' v hi=>by simp at hi⟩
  |cons x l'=>simp[yP]at h
 |cons x l ih =>
  intro l' y h;have step:∀ (x':SV) (l'':List SV) (z:(yy l).den) (fx:SV) (fl:List SV),yP l l''=some z->fl=fx::yL l z->(∀ v,yD P A w ρ x' v->yD P A' w ρ fx v) ->
    fl.length=(x'::l'').length/\∀ (i:Nat) (sv sv':SV) (v:Value),(x'::l'')[i]?=some sv->fl[i]?=some sv'->yD P A w ρ sv v->yD P A' w ρ sv' v:=by
   intro x' l'' z fx fl hz hfl hx;obtain ⟨h1,h2⟩:=ih l'' z hz;subst hfl;refine ⟨by simp[h1],λ i sv sv' v hi hi' hr=>?_⟩
   cases i with
   |zero=>simp at hi hi';subst hi;subst hi';exact hx v hr
   |succ i=>exact h2 i sv sv' v (by simpa using hi) (by simpa using hi') hr
  have mono:∀ (sv:SV) (v:Value),yD P A w ρ sv v->yD P A' w ρ sv v:=λ sv v h=>h.mono (λ _ _ _=>rfl) hA
  cases l' with
  |nil=>cases x<;>simp only[yP,reduceCtorEq]at h
  |cons x' l'' =>
   cases x with
   |undef=>exact step x' l'' y .undef _ h rfl (λ _ _=>trivial)
   |eP β i sz off=>exact step x' l'' y .undef _ h rfl (λ _ _=>trivial)
   |oS β i sz=>exact step x' l'' y .undef _ h rfl (λ _ _=>trivial)
   |tup t z=>exact step x' l'' y .undef _ h rfl (λ _ _=>trivial)
   |xV t z=>exact step x' l'' y .undef _ h rfl (λ _ _=>trivial)
   |gone=>exact step x' l'' y .undef _ h rfl (λ _ _=>trivial)
   |nO β i=>exact step x' l'' y .undef _ h rfl (λ _ _=>trivial)
   |nP β i j sz off=>exact step x' l'' y .undef _ h rfl (λ _ _=>trivial)
   |sR β =>
    obtain ⟨e,h'⟩:=yG (α:=(yy l).den) h;have e':x'=.sR β:=by
     cases x'<;>simp[yQK]at e
     rw[e]
    subst e';exact step _ l'' y _ _ h' rfl (λ v=>mono _ v)
   |nils =>
    obtain ⟨e,h'⟩:=yG (α:=(yy l).den) h;have e':x'=.nils:=by cases x'<;>simp[yMQ]at e;rfl
    subst e';exact step .nils l'' y .nils _ h' rfl (λ v=>mono .nils v)
   |nilp =>
    obtain ⟨e,h'⟩:=yG (α:=(yy l).den) h;have e':x'=.nilp:=by cases x'<;>simp[yMS]at e;rfl
    subst e';exact step .nilp l'' y .nilp _ h' rfl (λ v=>mono .nilp v)
   |bP β off =>
    obtain ⟨e,h'⟩:=yG (α:=(yy l).den) h;have e':x'=.bP β off:=by
     cases x'<;>simp[yMV]at e
     rw[e.1,e.2]
    subst e';exact step _ l'' y _ _ h' rfl (λ v=>mono _ v)
   |own β =>
    obtain ⟨e,h'⟩:=yG (α:=(yy l).den) h;have e':x'=.own β:=by
     cases x'<;>simp[yNN]at e
     rw[e]
    subst e';exact step _ l'' y _ _ h' rfl (λ v=>mono _ v)
   |mO β =>
    obtain ⟨e,h'⟩:=yG (α:=(yy l).den) h;have e':x'=.mO β:=by
     cases x'<;>simp[yMZ]at e
     rw[e]
    subst e';exact step _ l'' y _ _ h' rfl (λ v=>mono _ v)
   |yld β =>
    obtain ⟨e,h'⟩:=yG (α:=(yy l).den) h;have e':x'=.yld β:=by
     cases x'<;>simp[yQf]at e
     rw[e]
    subst e';exact step _ l'' y _ _ h' rfl (λ v=>mono _ v)
   |meth hf β =>
    obtain ⟨e,h'⟩:=yG (α:=(yy l).den) h;have e':x'=.meth hf β:=by
     cases x'<;>simp[yMo]at e
     rw[e.1,e.2]
    subst e';exact step _ l'' y _ _ h' rfl (λ v=>mono _ v)
   |mP β d =>
    obtain ⟨e,h'⟩:=yG (α:=(yy l).den) h;have e':x'=.mP β d:=by
     cases x'<;>simp[yN2]at e
     rw[e.1,e.2]
    subst e';exact step _ l'' y _ _ h' rfl (λ v=>mono _ v)
   |clo f cs =>
    obtain ⟨p,q,hp,hq,rfl⟩:=y1w (γ:=(yy (.clo f cs::l)).den) (f:=λ a b=>(a,b)) h
    unfold yQZ at hp;split at hp
    ·rename_i f' ds;split at hp
     ·rename_i e;subst e;refine step _ l'' q _ _ hq rfl (λ v hv=>?_)
      obtain ⟨vs,e,hr⟩:=hv;exact ⟨vs,e,y3q hA hp hr⟩
     ·cases hp
    ·cases hp
   |val t z =>
    obtain ⟨p,q,hp,hq,rfl⟩:=y1w (γ:=(yy (.val t z::l)).den) (f:=λ a b=>(a,b)) h
    refine step _ l'' q (.val t p) _ hq rfl (λ v hv=>?_)
    unfold yQ2 at hp;split at hp
    ·obtain ⟨m,hm,e⟩:=hv;obtain ⟨h1,h2⟩:=y2M hp hm;exact ⟨m,h1.mono (λ _ _ _=>rfl) hA,by rw[y4h h2];exact e⟩
    ·simp only[yD]at hv;subst hv;split at hp
     ·cases hp;exact ⟨_,y30 _,rfl⟩
     ·cases hp;exact ⟨_,y4W _,rfl⟩
     ·cases hp
    ·cases hp
theorem y9G{A A':Nat->Prop}{I:List LpInfo}(hA:∀ n,n < w.heap.size->A' n->A n):∀ (l l':List (Option Chunk)) (y:(y05 l).den),yX l l'=some y ->
  (∀ (β:Nat) (ch:Chunk) (q:Nat×LpInfo),l[β]?=some (some ch)->ch.lpNo=some q->I[q.1]?=some q.2)->(∀ (β:Nat) (ch:Chunk) (q:Nat×LpInfo),l'[β]?=some (some ch)->ch.lpNo=some q->I[q.1]?=some q.2) ->
  ∀ (i:Nat) (ch':Chunk),(yI l y)[i]?=some (some ch')->∃ ch,l'[i]?=some (some ch)/\(∀ p,yC P A w ρ p ch->yC P A' w ρ p ch')/\ch'.isM=ch.isM:=by
 intro l;induction l with
 |nil=>intro l' y h hI hI' i ch' hi;simp[yI]at hi
 |cons x l ih =>
  intro l' y h hI hI' i ch' hi;cases l' with
  |nil=>rcases x with _|(⟨t,cells⟩|⟨e,t,xs,nn⟩|⟨k,v,es⟩|⟨bs,q⟩|⟨i,info,cells,st⟩|⟨k,e,u,es,_|q⟩|⟨t,cells⟩|⟨e,t,o,e',u,xs⟩)<;>cases h
  |cons x' l'' =>
  have ih:=λ (l':List (Option Chunk)) (y:(y05 l).den) (h:yX l l'=some y) (e:l'=l'')=>ih l' y h (λ β ch q hb=>hI (β+1) ch q (by simpa using hb)) (by subst e;exact λ β ch q hb=>hI' (β+1) ch q (by simpa using hb))
  cases x with
  |none =>
   cases i with
   |zero=>simp[yI]at hi
   |succ i=>exact ih l'' y h rfl i ch' hi
  |some c =>
   cases c with
   |box t cells =>
    obtain ⟨p,hp,h2⟩:=bind_eq_some_iff.1 (show ((yNu t cells x').bind λ y=>(yX l l'').map λ z=>(y,z))=some y from h)
    obtain ⟨q,hq,rfl⟩:=map_eq_some_iff.1 h2;cases i with
    |succ i=>exact ih l'' q hq rfl i ch' hi
    |zero =>
     have hi':some (Chunk.box t (yL cells p))=some ch':=by simpa[yI]using hi
     cases hi';unfold yNu at hp;split at hp
     ·rename_i u cells';obtain ⟨rfl,hp2⟩:=yG hp;refine ⟨_,rfl,λ pl hr=>?_,rfl⟩
      obtain ⟨b,vs,e,hb,h3,h4,h5⟩:=hr;obtain ⟨h6,h7⟩:=y1e (P:=P) (ρ:=ρ) (A:=A) (A':=A') hA cells cells' p hp2;refine ⟨b,vs,e,hb,h3,by rw[h6];exact h4,λ j sv hj=>?_⟩
      have hlt:j < cells'.length:=h6 ▸ (List.getElem?_eq_some_iff.1 hj).1;obtain ⟨v,h8,h9⟩:=h5 j _ (getElem?_eq_getElem hlt);exact ⟨v,h8,h7 j _ sv v (getElem?_eq_getElem hlt) hj h9⟩
     ·cases hp
   |arr e t xs nn =>
    obtain ⟨p,hp,h2⟩:=bind_eq_some_iff.1 (show ((yNV e t nn x').bind λ y=>(yX l l'').map λ z=>(y,z))=some y from h)
    obtain ⟨q,hq,rfl⟩:=map_eq_some_iff.1 h2;cases i with
    |succ i=>exact ih l'' q hq rfl i ch' hi
    |zero =>
     have hi':some (Chunk.arr e t p nn)=some ch':=by simpa[yI]using hi
     cases hi';unfold yNV at hp;split at hp
     ·rename_i e' u xs' nn';obtain ⟨⟨rfl,hnn⟩,hp2⟩:=yG hp;refine ⟨_,rfl,λ pl hr=>?_,rfl⟩
      obtain ⟨e2,he2⟩:=y5M hp2;cases e2;simp only at he2;subst he2;have hr':=hr.keep (w':=w) (A':=A') (λ _ _=>rfl) hA
      obtain ⟨h1,h2,h3⟩:=hr';exact ⟨h1,λ hn=>h2 (hnn hn),h3⟩
     ·cases hp
   |mp k v es =>
    obtain ⟨p,hp,h2⟩:=bind_eq_some_iff.1 (show ((asMp k v x').bind λ y=>(yX l l'').map λ z=>(y,z))=some y from h)
    obtain ⟨q,hq,rfl⟩:=map_eq_some_iff.1 h2;cases i with
    |succ i=>exact ih l'' q hq rfl i ch' hi
    |zero =>
     have hi':some (Chunk.mp k v p)=some ch':=by simpa[yI]using hi
     cases hi';unfold asMp at hp;split at hp
     ·rename_i k' v' es';refine ⟨_,rfl,λ pl hr=>?_,rfl⟩
      obtain ⟨e2,he2⟩:=y5M hp;cases e2;simp only at he2;subst he2;exact hr.keep (w':=w) (A':=A') (λ _ _=>rfl) hA
     ·cases hp
   |it bs q =>
    obtain ⟨p,hp,h2⟩:=bind_eq_some_iff.1 (show ((asIt x').bind λ y=>(yX l l'').map λ z=>(y,z))=some y from h)
    obtain ⟨q,hq,rfl⟩:=map_eq_some_iff.1 h2;cases i with
    |succ i=>exact ih l'' q hq rfl i ch' hi
    |zero =>
     have hi':some (Chunk.it p.1 p.2)=some ch':=by simpa[yI]using hi
     cases hi';unfold asIt at hp;split at hp
     ·cases hp;exact ⟨_,rfl,λ pl hr=>hr.keep (w':=w) (A':=A') (λ _ _=>rfl) hA,rfl⟩
     ·cases hp
   |lp j info cells st =>
    obtain ⟨p,hp,h2⟩:=bind_eq_some_iff.1 (show ((asLp j cells st x').bind λ y=>(yX l l'').map λ z=>(y,z))=some y from h)
    obtain ⟨q,hq,rfl⟩:=map_eq_some_iff.1 h2;cases i with
    |succ i=>exact ih l'' q hq rfl i ch' hi
    |zero =>
     have hi':some (Chunk.lp j info (yL cells p) st)=some ch':=by simpa[yI]using hi
     cases hi';unfold asLp at hp;split at hp
     ·rename_i j' info' cells' st';obtain ⟨⟨rfl,rfl⟩,hp2⟩:=yG hp;have e1:=hI 0 _ (j,info) rfl rfl;have e2:=hI' 0 _ (j,info') rfl rfl;simp only at e1 e2;rw[e1]at e2;cases e2;refine ⟨_,rfl,λ pl hr=>?_,rfl⟩
      obtain ⟨b,r,hb,h3,h4,h5,h6⟩:=hr;obtain ⟨h7,h8⟩:=y1e (P:=P) (ρ:=ρ) (A:=A) (A':=A') hA cells cells' p hp2;refine ⟨b,r,hb,h3,h4,by rw[h7];exact h5,λ j sv hj=>?_⟩
      have hlt:j < cells'.length:=h7 ▸ (List.getElem?_eq_some_iff.1 hj).1;obtain ⟨v,h9,h10⟩:=h6 j _ (getElem?_eq_getElem hlt);exact ⟨v,h9,h8 j _ sv v (getElem?_eq_getElem hlt) hj h10⟩
     ·cases hp
   |mps k e u es hole =>
    cases hole with
    |some q =>
     cases i with
     |zero=>simp[yI]at hi
     |succ i=>exact ih l'' y h rfl i ch' hi
    |none =>
    obtain ⟨p,hp,h2⟩:=bind_eq_some_iff.1 (show ((yOX k e u x').bind λ y=>(yX l l'').map λ z=>(y,z))=some y from h)
    obtain ⟨q,hq,rfl⟩:=map_eq_some_iff.1 h2;cases i with
    |succ i=>exact ih l'' q hq rfl i ch' hi
    |zero =>
     have hi':some (Chunk.mps k e u p none)=some ch':=by simpa[yI]using hi
     cases hi';unfold yOX at hp;split at hp
     ·rename_i k' e' u' es';obtain ⟨rfl,hp2⟩:=yG hp;refine ⟨_,rfl,λ pl hr=>?_,rfl⟩
      obtain ⟨e2,he2⟩:=y5M hp2;cases e2;simp only at he2;subst he2;exact hr.keep (w':=w) (A':=A') (λ _ _=>rfl) hA
     ·cases hp
   |rcd t cells =>
    obtain ⟨p,hp,h2⟩:=bind_eq_some_iff.1 (show ((yO1 t cells x').bind λ y=>(yX l l'').map λ z=>(y,z))=some y from h)
    obtain ⟨q,hq,rfl⟩:=map_eq_some_iff.1 h2;cases i with
    |succ i=>exact ih l'' q hq rfl i ch' hi
    |zero =>
     have hi':some (Chunk.rcd t (yL cells p))=some ch':=by simpa[yI]using hi
     cases hi';unfold yO1 at hp;split at hp
     ·rename_i u cells';obtain ⟨rfl,hp2⟩:=yG hp;refine ⟨_,rfl,λ pl hr=>?_,rfl⟩
      obtain ⟨h3,h4,h5,h8⟩:=hr;obtain ⟨h6,h7⟩:=y1e (P:=P) (ρ:=ρ) (A:=A) (A':=A') hA cells cells' p hp2;refine ⟨h3,by rw[h6];exact h4,by rw[h6];exact h5,λ j sv hj=>?_⟩
      have hlt:j < cells'.length:=h6 ▸ (List.getElem?_eq_some_iff.1 hj).1;obtain ⟨v,h9,h10⟩:=h8 j _ (getElem?_eq_getElem hlt);exact ⟨v,h9,h7 j _ sv v (getElem?_eq_getElem hlt) hj h10⟩
     ·cases hp
   |nst e t o e' u xs =>
    obtain ⟨p,hp,h2⟩:=bind_eq_some_iff.1 (show ((yNA e t o e' u x').bind λ y=>(yX l l'').map λ z=>(y,z))=some y from h)
    obtain ⟨q,hq,rfl⟩:=map_eq_some_iff.1 h2;cases i with
    |succ i=>exact ih l'' q hq rfl i ch' hi
    |zero =>
     have hi':some (Chunk.nst e t o e' u p)=some ch':=by simpa[yI]using hi
     cases hi';unfold yNA at hp;split at hp
     ·rename_i d t' o' d' u' xs';obtain ⟨⟨rfl,rfl,rfl,rfl⟩,hp2⟩:=yG hp;refine ⟨_,rfl,λ pl hr=>?_,rfl⟩
      obtain ⟨e2,he2⟩:=y5M hp2;cases e2;simp only at he2;subst he2;exact hr.keep (w':=w) (A':=A') (λ _ _=>rfl) hA
     ·cases hp
structure St.Ok (s:St):Prop where
 names:∀ (i:Nat) (sv:SV),s.slots[i]?=some sv->sv.inn s.cH.length
 cN:∀ (β:Nat) (ch:Chunk),s.cH[β]?=some (some ch)->ch.inn s.cH.length
 kN:∀ (i:Nat) (sv:SV),s.kept[i]?=some sv->sv.inn s.cH.length
theorem Rel.ok(h:Rel P A0 w0 ρ s a w):s.Ok:=⟨h.names,h.cN,h.kN⟩
theorem y5E{n:Nat}:∀ {l:List Cap} (y:(y4H l).den),y0O n l->y0O n (y60 l y)
 |[],_,_=>trivial
 |.val t x::l,y,h=>y5E (l:=l) y.2 h
 |.box β::l,y,h=>⟨h.1,y5E (l:=l) y h.2⟩
theorem y1M{n:Nat}:∀ {l:List SV} (y:(yy l).den),(∀ sv∈l,sv.inn n)->∀ sv∈yL l y,sv.inn n
 |[],_,_=>λ sv h=>by simp[yL]at h
 |x::l,y,hl=>by
  have ih:∀ z,∀ sv∈yL l z,sv.inn n:=λ z=>y1M (l:=l) z (λ sv hs=>hl sv (List.mem_cons_of_mem _ hs))
  have h0:=hl x (mem_cons_self ..);intro sv hs;cases x<;>rcases mem_cons.1 hs with rfl|hs<;>first|exact ih _ sv hs|trivial|exact h0|exact y5E _ h0
theorem yT:∀ (l:List (Option Chunk)) (y:(y05 l).den),(yI l y).length=l.length
 |[],_=>rfl
 |some (.box _ _)::l,y=>congrArg (·+1) (yT l y.2)
 |some (.arr _ _ _ _)::l,y=>congrArg (·+1) (yT l y.2)
 |some (.mp _ _ _)::l,y=>congrArg (·+1) (yT l y.2)
 |some (.it _ _)::l,y=>congrArg (·+1) (yT l y.2)
 |some (.lp _ _ _ _)::l,y=>congrArg (·+1) (yT l y.2)
 |some (.mps _ _ _ _ none)::l,y=>congrArg (·+1) (yT l y.2)
 |some (.rcd _ _)::l,y=>congrArg (·+1) (yT l y.2)
 |some (.nst _ _ _ _ _ _)::l,y=>congrArg (·+1) (yT l y.2)
 |some (.mps _ _ _ _ (some _))::l,y=>congrArg (·+1) (yT l y)
 |none::l,y=>congrArg (·+1) (yT l y)
theorem y5m{n:Nat}:∀ {l:List (Option Chunk)} (y:(y05 l).den),(∀ ch,some ch∈l->ch.inn n)->∀ ch,some ch∈yI l y->ch.inn n
 |[],_,_=>λ sv h=>by simp[yI]at h
 |x::l,y,hl=>by
  have ih:∀ z,∀ ch,some ch∈yI l z->ch.inn n:=λ z=>y5m (l:=l) z (λ sv hs=>hl sv (List.mem_cons_of_mem _ hs))
  intro ch hs;rcases x with _|(⟨t,cells⟩|⟨e,t,xs,nn⟩|⟨k,v,es⟩|⟨bs,q⟩|⟨i,info,cells,st⟩|⟨k,e,u,es,_|q⟩|⟨t,cells⟩|⟨e,t,o,e',u,xs⟩)
  ·rcases mem_cons.1 hs with hc|hs
   ·cases hc
   ·exact ih y ch hs
  ·rcases mem_cons.1 hs with hc|hs
   ·cases hc;exact y1M _ (hl _ (mem_cons_self ..))
   ·exact ih _ ch hs
  ·rcases mem_cons.1 hs with hc|hs
   ·cases hc;trivial
   ·exact ih _ ch hs
  ·rcases mem_cons.1 hs with hc|hs
   ·cases hc;trivial
   ·exact ih _ ch hs
  ·rcases mem_cons.1 hs with hc|hs
   ·cases hc;trivial
   ·exact ih _ ch hs
  ·rcases mem_cons.1 hs with hc|hs
   ·cases hc;exact y1M _ (hl _ (mem_cons_self ..))
   ·exact ih _ ch hs
  ·rcases mem_cons.1 hs with hc|hs
   ·cases hc;intro q hq;cases hq
   ·exact ih _ ch hs
  ·rcases mem_cons.1 hs with hc|hs
   ·cases hc
   ·exact ih y ch hs
  ·rcases mem_cons.1 hs with hc|hs
   ·cases hc;exact y1M _ (hl _ (mem_cons_self ..))
   ·exact ih _ ch hs
  ·rcases mem_cons.1 hs with hc|hs
   ·cases hc;trivial
   ·exact ih _ ch hs
theorem y5d{I:List LpInfo}:∀ {l:List (Option Chunk)} (y:(y05 l).den),(∀ (β:Nat) (ch:Chunk) (q:Nat×LpInfo),l[β]?=some (some ch)->ch.lpNo=some q->I[q.1]?=some q.2) ->
  ∀ (β:Nat) (ch:Chunk) (q:Nat×LpInfo),(yI l y)[β]?=some (some ch)->ch.lpNo=some q->I[q.1]?=some q.2
 |[],_,_=>λ β ch q hb=>by simp[yI]at hb
 |x::l,y,hI=>by
  have ih:∀ (z:(y05 l).den) (β:Nat) (ch:Chunk) (q:Nat×LpInfo),(yI l z)[β]?=some (some ch)->ch.lpNo=some q->I[q.1]?=some q.2:=
   λ z=>y5d (l:=l) z (λ β ch q hb=>hI (β+1) ch q (by simpa using hb))
  intro β ch q hb hq;rcases x with _|(⟨t,cells⟩|⟨e,t,xs,nn⟩|⟨k,v,es⟩|⟨bs,q0⟩|⟨i,info,cells,st⟩|⟨k,e,u,es,_|q0⟩|⟨t,cells⟩|⟨e,t,o,e',u,xs⟩)<;>(cases β with
   |zero=>(first|(simp[yI]at hb;done)|(simp[yI]at hb;subst hb;first|(cases hq;done)|exact hI 0 _ q rfl hq))
   |succ β=>exact ih _ β ch q (by simpa[yI]using hb) hq)
theorem yCt{I:List LpInfo}(h:LpI I s)(y:(stTy s).den):LpI I (y4x s y):=y5d (l:=s.cH) y.2.1 h
theorem y6k(y:(stTy s).den):(y4x s y).slots=yL s.slots y.1:=Slots.toList_ofList _
theorem yHW(h:s.Ok)(y:(stTy s).den):(y4x s y).Ok:=by
 have h1:(y4x s y).cH.length=s.cH.length:=yT _ _;refine ⟨λ i sv hi=>?_,λ β ch hb=>?_,λ i sv hi=>?_⟩
 ·rw[h1];rw[y6k]at hi;refine y1M (l:=s.slots) y.1 (λ sv hs=>?_) sv (mem_of_getElem? hi)
  obtain ⟨j,hj⟩:=List.getElem?_of_mem hs;exact h.names j sv hj
 ·rw[h1];refine y5m (l:=s.cH) y.2.1 (λ c hs=>?_) ch (mem_of_getElem? hb)
  obtain ⟨j,hj⟩:=List.getElem?_of_mem hs;exact h.cN j c hj
 ·rw[h1];refine y1M (l:=s.kept) y.2.2 (λ sv hs=>?_) sv (mem_of_getElem? hi)
  obtain ⟨j,hj⟩:=List.getElem?_of_mem hs;exact h.kN j sv hj
theorem yCS{s':St}(h:Rel P A0 w0 ρ s' a w)(hs:s.Ok)(hI:LpI w0.infos s)(hd:s.dep=s'.dep/\s.rnd=s'.rnd){y:(stTy s).den}(hy:stAs s s'=some y):Weak P A0 w ρ ρ s' (y4x s y):=by
 have hnm:¬ (s.nmk=0/\s'.nmk≠0):=by
  intro hc;unfold stAs at hy;rw[if_pos hc]at hy;cases hy
 unfold stAs at hy;rw[if_neg hnm]at hy;obtain ⟨p,hp,hy2⟩:=bind_eq_some_iff.1 (show ((yP s.slots s'.slots).bind λ y=>(yX s.cH s'.cH).bind λ z=>(yP s.kept s'.kept).map λ u=>(y,z,u))=some y from hy)
 obtain ⟨q,hq,hy3⟩:=bind_eq_some_iff.1 hy2;obtain ⟨u,hu,rfl⟩:=map_eq_some_iff.1 hy3;have hok:=yHW hs (p,q,u);have hch:∀ (A A':Nat->Prop),(∀ n,n < w.heap.size->A' n->A n)->∀ (i:Nat) (ch':Chunk),(yI s.cH q)[i]?=some (some ch')->∃ ch,s'.cH[i]?=some (some ch)/\(∀ p,yC P A w ρ p ch->yC P A' w ρ p ch')/\ch'.isM=ch.isM:=
  λ A A' hA=>y9G hA s.cH s'.cH q hq hI h.lpi
 have hsub:∀ (i:Nat) (ch':Chunk),(yI s.cH q)[i]?=some (some ch')->∃ ch,s'.cH[i]?=some (some ch):=by
  intro i ch' hi;obtain ⟨ch,h1,_⟩:=hch (λ _=>True) (λ _=>True) (λ _ _ h=>h) i ch' hi
  exact ⟨ch,h1⟩
 have hA:∀ n,n < w.heap.size->Av A0 ρ (yI s.cH q) n->Av A0 ρ s'.cH n:=by
  rintro n hn ((h0|⟨i,c,hc,hb⟩)|⟨i,c,hc,hb⟩)
  ·exact .inl (.inl h0)
  ·obtain ⟨ch,h1⟩:=hsub i c hc;exact .inl (.inr ⟨i,ch,h1,hb⟩)
  ·obtain ⟨ch,h1⟩:=hsub i c hc;exact .inr ⟨i,ch,h1,hb⟩
 have hsl:=λ (A A':Nat->Prop) (hA:∀ n,n < w.heap.size->A' n->A n)=>y1e (P:=P) (ρ:=ρ) hA s.slots s'.slots p hp
 have hkl:=λ (A A':Nat->Prop) (hA:∀ n,n < w.heap.size->A' n->A n)=>y1e (P:=P) (ρ:=ρ) hA s.kept s'.kept u hu
 have hfs:(y4x s (p,q,u)).slots=yL s.slots p:=y6k _;refine ⟨by rw[hfs];exact (hsl _ _ hA).1,λ i sv sv' v h1 h2 h3=>(hsl _ _ hA).2 i sv sv' v h1 (hfs ▸ h2) h3,λ i ch' hi=>?_,λ i j c d hi hj hij hne=>?_,hok.names,hok.cN,(hkl _ _ hA).1,λ i sv sv' v h1 h2 h3=>(hkl _ _ hA).2 i sv sv' v h1 h2 h3,hok.kN,hd.1,λ h0=>Classical.byContradiction λ hn=>hnm ⟨h0,hn⟩,hd.2⟩
 ·obtain ⟨ch,h1,h2⟩:=hch _ _ hA i ch' hi;exact ⟨i,ch,h1,rfl,h2.1 _,h2.2⟩
 ·obtain ⟨c',h1⟩:=hsub i c hi;obtain ⟨d',h2⟩:=hsub j d hj;exact h.inj i j c' d' h1 h2 hij hne
theorem y2Q(t:Ty)(x:t.den):y2G t t x=some x:=by simp[y2G]
theorem yKH(t:Ty)(x:t.den):conv t t x=some x:=by
 cases t<;>exact y2Q _ x
theorem y5F:∀ l:List Cap,y3A l l=some (yJF l)
 |[]=>rfl
 |.val t x::l=>by
  show ((y2G t t x).bind λ y=>(y3A l l).map λ z=>(y,z))=_
  rw[y2Q,y5F l];rfl
 |.box β::l=>by
  show (if β=β then y3A l l else none)=some (yJF l)
  rw[if_pos rfl,y5F l]
theorem yW:∀ l:List SV,yP l l=some (y29 l)
 |[]=>rfl
 |.val t x::l=>by
  show ((conv t t x).bind λ y=>(yP l l).map λ z=>(y,z))=_
  rw[yKH,yW l];rfl
 |.clo f cs::l=>by
  show ((if f=f then y3A cs cs else none).bind λ y=>(yP l l).map λ z=>(y,z))=_
  rw[if_pos rfl,y5F,yW l];rfl
 |.undef::l|.eP _ _ _ _::l|.oS _ _ _::l|.tup _ _::l|.xV _ _::l|.gone::l|.nO _ _::l|.nP _ _ _ _ _::l=>yW l
 |.sR β::l=>by
  show (if (decide (β=β))=true then yP l l else none)=some (y29 l)
  rw[if_pos (by simp),yW l]
 |.nils::l=>yW l
 |.nilp::l=>yW l
 |.bP β o::l=>by
  show (if (decide (β=β) && decide (o=o))=true then yP l l else none)=some (y29 l)
  rw[if_pos (by simp),yW l]
 |.own β::l=>by
  show (if (decide (β=β))=true then yP l l else none)=some (y29 l)
  rw[if_pos (by simp),yW l]
 |.mO β::l=>by
  show (if (decide (β=β))=true then yP l l else none)=some (y29 l)
  rw[if_pos (by simp),yW l]
 |.yld β::l=>by
  show (if (decide (β=β))=true then yP l l else none)=some (y29 l)
  rw[if_pos (by simp),yW l]
 |.meth f β::l=>by
  show (if (decide (f=f) && decide (β=β))=true then yP l l else none)=some (y29 l)
  rw[if_pos (by simp),yW l]
 |.mP β e::l=>by
  show (if (decide (β=β) && decide (e=e))=true then yP l l else none)=some (y29 l)
  rw[if_pos (by simp),yW l]
theorem yr:∀ l:List (Option Chunk),yX l l=some (y27 l)
 |[]=>rfl
 |some (.box t cells)::l=>by
  show ((if t=t then yP cells cells else none).bind λ y=>(yX l l).map λ z=>(y,z))=_
  rw[if_pos rfl,yW,yr l];rfl
 |some (.arr e t xs nn)::l=>by
  show ((if e=e/\(nn=true->nn=true)then y2G (.slice t) (.slice t) xs else none).bind λ y=>(yX l l).map λ z=>(y,z))=_
  rw[if_pos ⟨rfl,λ h=>h⟩,y2Q,yr l];rfl
 |some (.mp k v es)::l=>by
  show ((y2G (.map k v) (.map k v) es).bind λ y=>(yX l l).map λ z=>(y,z))=_
  rw[y2Q,yr l];rfl
 |some (.it bs q)::l=>by
  show ((some (bs,q)).bind λ y=>(yX l l).map λ z=>(y,z))=_
  rw[yr l];rfl
 |some (.lp i info cells st)::l=>by
  show ((if i=i/\st=st then yP cells cells else none).bind λ y=>(yX l l).map λ z=>(y,z))=_
  rw[if_pos ⟨rfl,rfl⟩,yW,yr l];rfl
 |some (.mps k e u es none)::l=>by
  show ((if e=e then y2G (.map k (.slice u)) (.map k (.slice u)) es else none).bind λ y=>(yX l l).map λ z=>(y,z))=_
  rw[if_pos rfl,y2Q,yr l];rfl
 |some (.rcd t cells)::l=>by
  show ((if t=t then yP cells cells else none).bind λ y=>(yX l l).map λ z=>(y,z))=_
  rw[if_pos rfl,yW,yr l];rfl
 |some (.nst e t o e' u xs)::l=>by
  show ((if e=e/\o=o/\e'=e'/\u=u then y2G (.slice t) (.slice t) xs else none).bind λ y=>(yX l l).map λ z=>(y,z))=_
  rw[if_pos ⟨rfl,rfl,rfl,rfl⟩,y2Q,yr l];rfl
 |some (.mps _ _ _ _ (some _))::l=>yr l
 |none::l=>yr l
theorem yHy(s:St):stAs s s=some (stX s):=by
 unfold stAs;rw[if_neg (λ h=>h.2 h.1),yW,yr,yW];rfl
theorem Rel.freezeMs:∀ (n:Nat) {s:St},Rel P A0 w0 ρ s a w->Rel P A0 w0 ρ (Vx.freezeMs n s) a w
 |0,_,h=>h
 |n+1,s,h=>by
  unfold Vx.freezeMs;refine Rel.freezeMs n ?_
  split
  ·exact h.freeze n
  ·exact h
theorem Rel.frz(h:Rel P A0 w0 ρ s a w)(c:Code):Rel P A0 w0 ρ (frzS c s) a w:=by
 unfold frzS;split
 ·exact h
 ·exact h.freezeMs _
theorem Rel.frzK:∀ (keep:List Nat) {s:St},Rel P A0 w0 ρ s a w->Rel P A0 w0 ρ (Vx.frzK keep s) a w
 |[],_,h=>h
 |k::l,s,h=>by
  unfold Vx.frzK;refine Rel.frzK l ?_
  split
  ·exact h.settle _
  ·exact h
theorem yGr(h:Rel P A0 w0 ρ s a w)(c:Code)(keep:List Nat):∃ ρ',Rel P A0 w0 ρ' (y75 c keep s) a w:=by
 obtain ⟨ρ',h1⟩:=((h.frz c).frzK keep).canon keep;refine ⟨ρ',h1.size,h1.slots,h1.cH,h1.inj,h1.names,h1.cN,h1.below,h1.dom,?_,h1.dep,h1.lpi,h1.round,h1.glob,h1.kZ,h1.kS,h1.kN,h1.subs⟩;obtain ⟨ms,⟨q1,q2,q3⟩,q4⟩:=h1.defers;refine ⟨ms,⟨q1,λ h0=>?_,q3⟩,q4⟩
 unfold y75 at h0;dsimp only at h0;split at h0
 ·cases h0
 ·exact q2 h0
theorem yLY(h:Rel P A0 w0 ρ s a w)(keep:List Nat):(canon keep s).Ok:=by
 obtain ⟨ρ',h1⟩:=y9e h keep;exact ⟨h1.names,h1.cN,h1.kN⟩
end
end Go.Vx
end
section
namespace Go.Vx
open Go.RowKit
variable [GT]
section
variable {P:Program} {A0:Nat->Prop} {w0:Base} {ρ:Places} {s:St} {a:Act} {w w':World} {g:G}
theorem Rel.writeSub(h:Rel P A0 w0 ρ s a w){β b:Nat}{ch ch':Chunk}(hβ:s.cH[β]?=some (some ch))(hb:some b∈(ρ β).subs)
  (hk:∀ n,n≠b->w'.heap[n]?=w.heap[n]?) (hsz:w'.heap.size=w.heap.size) (ho:w'.os=w.os) (ht:w'.tape=w.tape) (hu:w'.output=w.output) (hi:ch'.inn s.cH.length)
  (hc:∀ A,(∀ n,A n ↔ Av A0 ρ s.cH n)->yC P A w' ρ (ρ β) ch') (hlp:ch'.lpNo=ch.lpNo:=by rfl) (him:ch'.isM=ch.isM:=by rfl):Rel P A0 w0 ρ { s with cH:=s.cH.set β (some ch') } a w':=by
 have hβl:β < s.cH.length:=(List.getElem?_eq_some_iff.1 hβ).1;obtain ⟨vs0,e0,hcell⟩:=h.sub_cells hβ hb;have hcs:∀ (γ:Nat) (c:Chunk),(s.cH.set β (some ch'))[γ]?=some (some c)->(γ=β/\c=ch')\/(γ≠β/\s.cH[γ]?=some (some c)):=by
  intro γ c hg;by_cases hbg:β=γ
  ·subst hbg;rw[List.getElem?_set_self hβl]at hg;cases hg;exact .inl ⟨rfl,rfl⟩
  ·rw[getElem?_set_ne hbg]at hg;exact .inr ⟨λ e=>hbg e.symm,hg⟩
 have old:∀ (γ:Nat) (c:Chunk),(s.cH.set β (some ch'))[γ]?=some (some c)->∃ c',s.cH[γ]?=some (some c')/\(c.isM=false->c'.isM=false):=by
  intro γ c hg;rcases hcs γ c hg with ⟨rfl,rfl⟩|⟨_,hg⟩
  ·exact ⟨ch,hβ,λ e=>him ▸ e⟩
  ·exact ⟨c,hg,id⟩
 have new:∀ (γ:Nat) (c:Chunk),s.cH[γ]?=some (some c)->∃ c',(s.cH.set β (some ch'))[γ]?=some (some c'):=by
  intro γ c hg;by_cases hbg:β=γ
  ·subst hbg;exact ⟨ch',List.getElem?_set_self hβl⟩
  ·exact ⟨c,by rw[getElem?_set_ne hbg];exact hg⟩
 have hA:∀ n,Av A0 ρ (s.cH.set β (some ch')) n ↔ Av A0 ρ s.cH n:=by
  intro n;constructor
  ·rintro ((h0|⟨γ,c,hg,hbn⟩)|⟨γ,c,hg,hbn⟩)
   ·exact .inl (.inl h0)
   ·obtain ⟨c',h1,_⟩:=old γ c hg;exact .inl (.inr ⟨γ,c',h1,hbn⟩)
   ·obtain ⟨c',h1,_⟩:=old γ c hg;exact .inr ⟨γ,c',h1,hbn⟩
  ·rintro ((h0|⟨γ,c,hg,hbn⟩)|⟨γ,c,hg,hbn⟩)
   ·exact .inl (.inl h0)
   ·obtain ⟨c',h1⟩:=new γ c hg;exact .inl (.inr ⟨γ,c',h1,hbn⟩)
   ·obtain ⟨c',h1⟩:=new γ c hg;exact .inr ⟨γ,c',h1,hbn⟩
 have hAb:Av A0 ρ s.cH b:=.inl (.inr ⟨β,ch,hβ,hb⟩);have hK:Keep (Av A0 ρ s.cH) w w':=λ n _ hn=>hk n (λ e=>hn (e ▸ hAb))
 have hA1:∀ n,n < w.heap.size->Av A0 ρ (s.cH.set β (some ch')) n->Av A0 ρ s.cH n:=λ n _ hn=>(hA n).1 hn
 have hbw:w0.w.heap.size<=b:=h.subs.base β ch b hβ hb;refine ⟨h.size,λ i sv hs=>(h.slots i sv hs).mono hK hA1,λ γ c hg=>?_,λ γ δ c d hg hd hbg hne=>?_,λ i sv hs=>by simpa using h.names i sv hs,λ γ c hg=>?_,⟨ho.trans h.below.os,ht.trans h.below.tape,hu.trans h.below.output,hsz ▸ h.below.size,λ n hn=>(hk n (by omega)).trans (h.below.block n hn)⟩,h.dom,
  (let ⟨_,hm⟩:=h.defers;y2I hm λ r hr=>(hk r λ e=>by subst e;rw[hcell]at hr;cases hr).trans hr),h.dep,(λ γ c q hg hq=>?_),(λ l hl=>by
  obtain ⟨r,hr⟩:=h.round l hl;exact ⟨r,(hk l λ e=>by subst e;rw[hcell]at hr;cases hr).trans hr⟩),h.glob,h.kZ,λ i sv hs=>(h.kS i sv hs).mono hK hA1,λ i sv hs=>by simpa using h.kN i sv hs,h.subs.sub old⟩
 ·rcases hcs γ c hg with ⟨rfl,rfl⟩|⟨hne,hg⟩
  ·exact ⟨hc _ hA,(h.cH γ ch hβ).2⟩
  ·refine ⟨(h.cH γ c hg).1.frame (λ n hn _=>hk n λ e=>?_) (λ n hn _=>hk n λ e=>?_) hK hA1,(h.cH γ c hg).2⟩
   ·subst e;exact h.subs.apart β γ ch c n hβ hg hb hn
   ·subst e;exact hne (h.subs.one γ β c ch n hg hβ hn hb)
 ·obtain ⟨c1,h1,_⟩:=old γ c hg;obtain ⟨c2,h2,_⟩:=old δ d hd;exact h.inj γ δ c1 c2 h1 h2 hbg hne
 ·rcases hcs γ c hg with ⟨rfl,rfl⟩|⟨_,hg⟩
  ·simpa using hi
  ·simpa using h.cN γ c hg
 ·rcases hcs γ c hg with ⟨rfl,rfl⟩|⟨_,hg⟩
  ·exact h.lpi γ ch q hβ (hlp ▸ hq)
  ·exact h.lpi γ c q hg hq
end
end Go.Vx
end
section
namespace Go.Vx
open Go.RowKit
variable [GT]
section
variable {P:Program} {A0:Nat->Prop} {w0:Base} {ρ ρ':Places} {s:St} {a:Act} {w w':World} {g:G}
def Same(p q:Place):Prop:=p.blk=q.blk/\p.len=q.len/\p.cap=q.cap/\p.vals=q.vals/\p.ns=q.ns
theorem yY.same{A:Nat->Prop}{n:Nat}(he:∀ β,β < n->Same (ρ' β) (ρ β)):∀ {cs:List Cap} {vs:List Value},y0O n cs->yY P A w ρ cs vs->yY P A w ρ' cs vs
 |[],[],_,_=>trivial
 |[],_::_,_,h=>h
 |_::_,[],_,h=>h
 |.box β::cs,v::vs,hi,h=>⟨by have:=h.1;simp only[yBa]at this ⊢;rw[(he β hi.1).1];exact this,yY.same he hi.2 h.2⟩
 |.val t x::cs,v::vs,hi,h=>⟨h.1,yY.same he hi h.2⟩
theorem yD.same{A:Nat->Prop}{n:Nat}(he:∀ β,β < n->Same (ρ' β) (ρ β)){sv:SV}{v:Value}(hi:sv.inn n)(h:yD P A w ρ sv v):yD P A w ρ' sv v:=by
 cases sv with
 |bP β off=>obtain ⟨e1,e2,e3,e4,e5⟩:=he β hi;simp only[yD]at h ⊢;rw[e1];exact h
 |own β=>obtain ⟨e1,e2,e3,e4,e5⟩:=he β hi;simp only[yD]at h ⊢;rw[e1,e2,e3];exact h
 |mO β=>obtain ⟨e1,e2,e3,e4,e5⟩:=he β hi;simp only[yD]at h ⊢;rw[e1];exact h
 |yld β=>obtain ⟨e1,e2,e3,e4,e5⟩:=he β hi;simp only[yD]at h ⊢;rw[e1];exact h
 |mP β e=>obtain ⟨e1,e2,e3,e4,e5⟩:=he β hi;simp only[yD]at h ⊢;rw[e1,e2];exact h
 |eP β i sz off=>obtain ⟨e1,e2,e3,e4,e5⟩:=he β hi;simp only[yD]at h ⊢;rw[e1];exact h
 |oS β n sz=>obtain ⟨e1,e2,e3,e4,e5⟩:=he β hi;simp only[yD]at h ⊢;rw[e1,e2,e3];exact h
 |sR β=>obtain ⟨e1,e2,e3,e4,e5⟩:=he β hi;simp only[yD]at h ⊢;rw[e2,e4];exact h
 |nO β i=>obtain ⟨e1,e2,e3,e4,e5⟩:=he β hi;simp only[yD]at h ⊢;rw[e5];exact h
 |nP β i j sz off=>obtain ⟨e1,e2,e3,e4,e5⟩:=he β hi;simp only[yD]at h ⊢;rw[e5];exact h
 |meth f β=>obtain ⟨e1,e2,e3,e4,e5⟩:=he β hi;simp only[yD]at h ⊢;rw[e1];exact h
 |clo f caps=>obtain ⟨vs,h2,h3⟩:=h;exact ⟨vs,h2,h3.same he hi⟩
 |_=>exact h
theorem yC.same{A:Nat->Prop}{n:Nat}(he:∀ β,β < n->Same (ρ' β) (ρ β)){p:Place}{ch:Chunk}(hi:ch.inn n)(h:yC P A w ρ p ch):yC P A w ρ' p ch:=by
 cases ch with
 |box t cells =>
  obtain ⟨b,vs,e,hb,h1,h2,h3⟩:=h;exact ⟨b,vs,e,hb,h1,h2,λ i sv hs=>let ⟨v,hv,hr⟩:=h3 i sv hs;⟨v,hv,hr.same he (hi sv (mem_of_getElem? hs))⟩⟩
 |lp i info cells st =>
  obtain ⟨b,r,hb,h1,h2,h3,h4⟩:=h;exact ⟨b,r,hb,h1,h2,h3,λ i sv hs=>let ⟨v,hv,hr⟩:=h4 i sv hs;⟨v,hv,hr.same he (hi sv (mem_of_getElem? hs))⟩⟩
 |arr e t xs nn=>simpa only[yC]using h
 |mp k v es=>simpa only[yC]using h
 |it bs q=>simpa only[yC]using h
 |mps k e u es hole =>
  obtain ⟨b,ms,c,hb,h1,h2,⟨h3,h4⟩,h5⟩:=h;refine ⟨b,ms,c,hb,h1,h2,⟨h3,λ q hq hx=>?_⟩,λ i x hx=>?_⟩
  ·obtain ⟨e1,e2,e3,e4,e5⟩:=he _ (hi q hq);rw[e1,e2,e3];exact h4 q hq hx
  ·obtain ⟨en,o,h6,h7,h8,h9⟩:=h5 i x hx;refine ⟨en,o,h6,h7,h8,?_⟩;rcases h9 with ⟨q,hq,h9,h10,h11⟩|h9
   ·obtain ⟨e1,e2,e3,e4,e5⟩:=he _ (hi q hq);exact .inl ⟨q,hq,h9,h10,by rw[e1,e2,e3];exact h11⟩
   ·exact .inr h9
 |rcd t cells =>
  obtain ⟨h1,h2,h3,h4⟩:=h;exact ⟨h1,h2,h3,λ i sv hs=>let ⟨v,hv,hr⟩:=h4 i sv hs;⟨v,hv,hr.same he (hi sv (mem_of_getElem? hs))⟩⟩
 |nst e t o e' u xs=>simpa only[yC]using h
theorem Rel.split(h:Rel P A0 w0 ρ s a w)(β:Nat)(x:SV):∃ ρ',Rel P A0 w0 ρ' (s.split β x) a w:=⟨ρ,h⟩
theorem Rel.splitAt(h:Rel P A0 w0 ρ s a w)(ops:List Oper):∃ ρ',Rel P A0 w0 ρ' (Vx.splitAt g ops s) a w:=by
 unfold Vx.splitAt;split
 ·exact h.split _ _
 ·exact ⟨ρ,h⟩
end
end Go.Vx
end
section
namespace Go.Vx
open Go.RowKit
variable [GT]
section
variable {P:Program} {A0:Nat->Prop} {w0:Base} {ρ:Places} {s:St} {a:Act} {w w':World} {g:G} {R:Type} {K:St->Option R} {r:R} {o:Oper}
def Eff(P:Program)(A0:Nat->Prop)(w0:Base)(a:Act)(w:World)(o:Oper)(K:St->Option R)(r:R):Prop:=
 ∃ a' w' ρ' s',((∃ v,(execOp a.eval o).run P w=.ok (.value v) w'/\a'=a.put o.dst v)\/((execOp a.eval o).run P w=.ok .skip w'/\a'=a.put o.dst undef))/\Rel P A0 w0 ρ' s' a' w'/\K s'=some r
theorem Eff.val{v:Value}{ρ':Places}{s':St}(h1:(execOp a.eval o).run P w=.ok (.value v) w')(h2:Rel P A0 w0 ρ' s' (a.put o.dst v) w')(h3:K s'=some r):Eff P A0 w0 a w o K r:=
 ⟨_,w',ρ',s',.inl ⟨v,h1,rfl⟩,h2,h3⟩
theorem Eff.skip{ρ':Places}{s':St}(h1:(execOp a.eval o).run P w=.ok .skip w')(h2:Rel P A0 w0 ρ' s' (a.put o.dst undef) w')(h3:K s'=some r):Eff P A0 w0 a w o K r:=
 ⟨_,w',ρ',s',.inr ⟨h1,rfl⟩,h2,h3⟩
theorem Yld.eff{F:SV->Option R}(h:Rel P A0 w0 ρ s a w)(hy:Yld P A0 ρ s a w o F r)(hF:∀ sv,F sv=K (s.put o.dst sv)):Eff P A0 w0 a w o K r:=by
 obtain ⟨sv,v,w',h1,h2,h3,h4,h5⟩:=hy;exact Eff.val h1 ((h.step h2).put o.dst h4 h3) ((hF sv).symm.trans h5)
theorem y3D(n:Nat):∀ (t:Ty) (x:t.den),∀ sv∈y0D t x,sv.inn n:=by
 intro t;induction t with
 |pair a b iha ihb =>
  intro x sv hs;rcases mem_append.1 hs with hs|hs
  ·exact iha _ sv hs
  ·exact ihb _ sv hs
 |arr m t ih =>
  intro x sv hs;obtain ⟨i,_,hi⟩:=List.mem_flatMap.1 hs;exact ih _ sv hi
 |unit=>intro x sv hs;cases hs
 |_=>intro x sv hs;simp only[y0D,mem_singleton]at hs;subst hs;trivial
theorem y5h(n:Nat):∀ (t:Ty),∀ sv∈y0U t,sv.inn n:=by
 intro t;induction t with
 |pair a b iha ihb =>
  intro sv hs;rcases mem_append.1 hs with hs|hs
  ·exact iha sv hs
  ·exact ihb sv hs
 |arr m t ih =>
  intro sv hs;obtain ⟨l,hl,hi⟩:=List.mem_flatten.1 hs;rw[List.mem_replicate]at hl;rw[hl.2]at hi;exact ih sv hi
 |unit=>intro sv hs;cases hs
 |_=>intro sv hs;simp only[y0U,mem_singleton]at hs;subst hs;trivial
theorem Rel.newBox(h:Rel P A0 w0 ρ s a w){t:Ty}{cells:List SV}{l:List Value}{e:TypeId}(d:Option Nat)(hin:∀ sv∈cells,sv.inn s.cH.length)
  (hc:∀ A,(∀ n,n < w.heap.size->A n->Av A0 ρ s.cH n)->yA P A (w.alloc (.cells l.toArray e)) ρ cells l) :
  ∃ ρ',Rel P A0 w0 ρ' ({ s with cH:=s.cH++[some (Chunk.box t cells)] }.put d (.bP s.cH.length 0)) (a.put d (.pointer (some ⟨w.heap.size,0,none⟩))) (w.alloc (.cells l.toArray e)):=by
 have h1:=h.newChunk (.box t cells) ⟨some w.heap.size,e,0,[],[],[]⟩ (y0T w (.cells l.toArray e)) (λ b hb=>by cases hb;exact le_refl _) hin
  (λ A hA _=>⟨w.heap.size,l.toArray,e,rfl,heap_alloc_new w _,⟨by simpa using (hc A hA).1,rfl⟩,λ i sv hi=>by simpa using (hc A hA).2 i sv hi⟩)
 refine ⟨_,h1.put d (sv:=.bP s.cH.length 0) ?_ ?_⟩
 ·show s.cH.length < (s.cH++[_]).length
  simp
 ·exact ⟨w.heap.size,by rw[Places.set_self],rfl⟩
theorem Rel.newSelf(h:Rel P A0 w0 ρ s a w){t:Ty}{cells:List SV}{l:List Value}{e:TypeId}(d:Option Nat)(hin:∀ sv∈cells,sv.inn s.cH.length)
  (hc:∀ A,(∀ n,n < w.heap.size->A n->Av A0 ρ s.cH n)->yA P A (w.alloc (.cells l.toArray e)) ρ cells l) (h0:∀ u,t=.pair (.ref .unit) u->l[0]?=some (.pointer none)) :
  ∃ ρ',Rel P A0 w0 ρ' ({ s with cH:=s.cH++[some (Chunk.box t (y19 t s.cH.length e cells))] }.put d (.bP s.cH.length 0)) (a.put d (.pointer (some ⟨w.heap.size,0,none⟩))) (w.alloc (.cells l.toArray e)):=by
 by_cases ht:∃ u,t=.pair (.ref .unit) u
 ·obtain ⟨u,rfl⟩:=ht;have h1:=h.newChunk (.box (.pair (.ref .unit) u) cells) ⟨some w.heap.size,e,0,[],[],[]⟩ (y0T w (.cells l.toArray e)) (λ b hb=>by cases hb;exact le_refl _) hin
   (λ A hA _=>⟨w.heap.size,l.toArray,e,rfl,heap_alloc_new w _,⟨by simpa using (hc A hA).1,rfl⟩,λ i sv hi=>by simpa using (hc A hA).2 i sv hi⟩)
  have hβ:(s.cH++[some (Chunk.box (.pair (.ref .unit) u) cells)])[s.cH.length]?=some (some (Chunk.box (.pair (.ref .unit) u) cells)):=by simp
  have h2:=h1.write (w':=w.alloc (.cells l.toArray e)) (ch':=.box (.pair (.ref .unit) u) (y19 (.pair (.ref .unit) u) s.cH.length e cells)) hβ (b:=w.heap.size) (by rw[Places.set_self]) (λ _ _=>rfl) rfl rfl rfl rfl
   (λ sv hs=>by
    simp only[y19]at hs;rcases List.mem_or_eq_of_mem_set hs with hs|rfl
    ·exact SV.inn_mono (by simp) (hin sv hs)
    ·show s.cH.length < (s.cH++[_]).length
     simp)
   (λ A hA=>by
    obtain ⟨b,vs,e',hb,hg,⟨hlen,he⟩,hcr⟩:=(h1.cH _ _ hβ).1.keep (w':=w.alloc (.cells l.toArray e)) (A':=A) (λ _ _=>rfl) (λ n _ hn=>(hA n).1 hn)
    refine ⟨b,vs,e',hb,hg,⟨by simp[y19,hlen],he⟩,λ i sv hi=>?_⟩
    simp only[y19,List.getElem?_set]at hi;split at hi
    ·rename_i hi0;subst hi0;split at hi
     ·cases hi;rw[Places.set_self]at hb he;cases hb;rw[heap_alloc_new]at hg;cases hg;refine ⟨.pointer none,by simpa using h0 u rfl,?_⟩
      show ((ρ.set s.cH.length ⟨some w.heap.size,e,0,[],[],[]⟩) s.cH.length).len=e/\_
      rw[Places.set_self];exact ⟨rfl,w.heap.size,rfl,.inl rfl⟩
     ·cases hi
    ·exact hcr i sv hi)
  have e1:(s.cH++[some (Chunk.box (.pair (.ref .unit) u) cells)]).set s.cH.length (some (Chunk.box (.pair (.ref .unit) u) (y19 (.pair (.ref .unit) u) s.cH.length e cells)))=s.cH++[some (Chunk.box (.pair (.ref .unit) u) (y19 (.pair (.ref .unit) u) s.cH.length e cells))]:=by
   simp
  simp only at h2;rw[e1]at h2;refine ⟨_,h2.put d (sv:=.bP s.cH.length 0) ?_ ?_⟩
  ·show s.cH.length < (s.cH++[_]).length
   simp
  ·exact ⟨w.heap.size,by rw[Places.set_self],rfl⟩
 ·have e1:y19 t s.cH.length e cells=cells:=by
   unfold y19;split
   ·exact absurd ⟨_,rfl⟩ ht
   ·rfl
  rw[e1];exact h.newBox d hin hc
theorem y0S{t:Ty}{l:List Value}(h:l.length=t.size)(hp:∀ v∈l,Value.plain1 v=true):(t.wrap l).cells=l.toArray:=by
 unfold Ty.wrap;split
 ·rfl
 ·rename_i ha;have h1:t.size=1:=y2E (by simpa using ha)
  rw[h1]at h;obtain ⟨v,rfl⟩:=List.length_eq_one_iff.1 h;have:=hp v (by simp)
  cases v<;>first|rfl|(simp[Value.plain1]at this)
theorem y1K:∀ (t:Ty),∀ v∈t.zeroV,Value.plain1 v=true:=by
 intro t;induction t with
 |pair a b iha ihb =>
  intro v hs;rcases mem_append.1 hs with hs|hs
  ·exact iha v hs
  ·exact ihb v hs
 |arr m t ih =>
  intro v hs;obtain ⟨l,hl,hi⟩:=List.mem_flatten.1 hs;rw[List.mem_replicate]at hl;rw[hl.2]at hi;exact ih v hi
 |unit=>intro v hs;cases hs
 |_=>intro v hs;simp only[Ty.zeroV,mem_singleton]at hs;subst hs;rfl
theorem Rel.addNone(T:List (TypeId×TyI)):∀ (l:List TypeId) {ρ:Places} {s:St},Rel P A0 w0 ρ s a w->∃ ρ',Rel P A0 w0 ρ' { s with cH:=s.cH++yK T l } a w /\
  (∀ β,β < s.cH.length->ρ' β=ρ β)/\∀ β,s.cH.length<=β->β < s.cH.length+(yK T l).length->ρ' β=⟨none,0,0,[],[],[]⟩
 |[],ρ,s,h=>⟨ρ,by simpa[yK]using h,λ _ _=>rfl,λ β h1 h2=>by simp[yK]at h2;omega⟩
 |t::l,ρ,s,h=>by
  unfold yK;split
  ·exact ⟨ρ,by simpa using h,λ _ _=>rfl,λ β h1 h2=>by simp at h2;omega⟩
  ·rename_i i _;split
   ·rename_i u _;have h1:=h.newChunk (w':=w) (.arr i.elem u [] false) ⟨none,0,0,[],[],[]⟩ (Below.refl _ _) (λ b hb=>by cases hb) trivial
     (λ A hA _=>⟨rfl,λ h=>by simp at h,.inl ⟨rfl,rfl,rfl⟩⟩)
    obtain ⟨ρ',h2,h3,h4⟩:=Rel.addNone T l h1;simp only[List.length_append,List.length_singleton]at h3 h4;refine ⟨ρ',by simpa using h2,λ β hβ=>?_,λ β hβ hβ'=>?_⟩
    ·rw[h3 β (by omega)]
     exact Places.set_lt ρ _ hβ
    ·by_cases he:β=s.cH.length
     ·subst he;rw[h3 _ (by omega)]
      exact Places.set_self ρ _ _
     ·refine h4 β (by omega) ?_
      simp only[List.length_cons]at hβ';omega
   ·exact Rel.addNone T l h
theorem y0Q{T:List (TypeId×TyI)}{A:Nat->Prop}:∀ (l:List TypeId) (m:Nat) (u:Ty),y32 T l=some u->(∀ β,m<=β->β < m+(yK T l).length->ρ β=⟨none,0,0,[],[],[]⟩) ->
  yA P A w ρ (y0N T l m) u.zeroV/\∀ sv∈y0N T l m,sv.inn (m+(yK T l).length)
 |[],m,u,h,_=>by
  simp only[y32,Option.some.injEq]at h;subst h;exact ⟨⟨rfl,λ i sv hi=>by simp[y0N]at hi⟩,λ sv hs=>by simp[y0N]at hs⟩
 |t::l,m,u,h,hρ=>by
  simp only[y32,bind_eq_some_iff,map_eq_some_iff]at h;obtain ⟨i,hi,b,hb,rfl⟩:=h;by_cases hsl:∃ v,i.ty=.slice v
  ·obtain ⟨v,hv⟩:=hsl;have hch:yK T (t::l)=some (.arr i.elem v [] false)::yK T l:=by simp only[yK,hi,hv]
   have hce:y0N T (t::l) m=.own m::y0N T l (m+1):=by simp only[y0N,hi,hv]
   rw[hch]at hρ ⊢;rw[hce];simp only[List.length_cons]at hρ ⊢;obtain ⟨h1,h2⟩:=y0Q l (m+1) b hb (λ β h3 h4=>hρ β (by omega) (by omega))
   refine ⟨?_,λ sv hs=>?_⟩
   ·rw[show (Ty.pair i.ty b).zeroV=i.ty.zeroV++b.zeroV from rfl,hv]
    refine yA.append (s1:=[.own m]) (yA.one ?_) h1;show _=Value.slice _ _ _
    rw[hρ m (by omega) (by omega)]
    rfl
   ·rcases mem_cons.1 hs with rfl|hs
    ·show m < _
     omega
    ·exact SV.inn_mono (by omega) (h2 sv hs)
  ·have hch:yK T (t::l)=yK T l:=by
    simp only[yK,hi];split
    ·rename_i v hv;exact absurd ⟨v,hv⟩ hsl
    ·rfl
   have hce:y0N T (t::l) m=y0U i.ty++y0N T l m:=by
    simp only[y0N,hi];split
    ·rename_i v hv;exact absurd ⟨v,hv⟩ hsl
    ·rfl
   rw[hch]at hρ ⊢;rw[hce];obtain ⟨h1,h2⟩:=y0Q l m b hb hρ;refine ⟨yA.append (y6F _) h1,λ sv hs=>?_⟩
   rcases mem_append.1 hs with hs|hs
   ·exact y5h _ _ sv hs
   ·exact h2 sv hs
theorem Rel.newArrV(h:Rel P A0 w0 ρ s a w){u:Ty}{xs:List u.den}{l:List Value}{e:TypeId}{nn:Bool}(d:Option Nat)(hm:xs.length<=maxLen)
  (hc:∀ A,(∀ n,n < w.heap.size->A n->Av A0 ρ s.cH n)->Cells P (.arr xs.length u) A (w.alloc (.cells l.toArray e)) xs l) :
  ∃ ρ',Rel P A0 w0 ρ' ({ s with cH:=s.cH++[some (Chunk.arr e u xs nn)] }.put d (.bP s.cH.length 0)) (a.put d (.pointer (some ⟨w.heap.size,0,none⟩))) (w.alloc (.cells l.toArray e)):=by
 have h1:=h.newChunk (.arr e u xs nn) ⟨some w.heap.size,xs.length,xs.length,[],[],[]⟩ (y0T w (.cells l.toArray e)) (λ b hb=>by cases hb;exact le_refl _) trivial
  (λ A hA _=>by
   have:=hc A hA;simp only[Cells]at this;obtain ⟨h1,h2,h3⟩:=this;exact ⟨rfl,(λ _ hx=>by cases hx),Or.inr ⟨w.heap.size,l.toArray,rfl,heap_alloc_new w _,le_refl _,hm,by simpa using h1,λ i x hi=>by simpa using h3 i x hi⟩⟩)
 refine ⟨_,h1.put d (sv:=.bP s.cH.length 0) ?_ ?_⟩
 ·show s.cH.length < (s.cH++[_]).length
  simp
 ·exact ⟨w.heap.size,by rw[Places.set_self],rfl⟩
theorem y4s(h:Rel P A0 w0 ρ s a w){e:TypeId}{i:TyI}(hi:yN g.T e=some i)(hrun:(execOp a.eval o).run P w=.ok (.value (.pointer (some ⟨w.heap.size,0,none⟩))) (w.alloc (.cells i.ty.zeroV.toArray e)))(hk:y3d g s e i o.dst K=some r):Eff P A0 w0 a w o K r:=by
 unfold y3d at hk;split at hk
 ·rename_i n u hu;obtain ⟨⟨hz,hsz⟩,hk⟩:=y07 hk;have hrep:=List.length_replicate (n:=n) (a:=u.dflt);obtain ⟨ρ',hR⟩:=h.newArrV (u:=u) (xs:=List.replicate n u.dflt) (l:=i.ty.zeroV) (e:=e) (nn:=true) o.dst
   (by rw[hrep];simp only[maxLen];omega)
   (λ A hA=>by have:=y0n (P:=P) (A:=A) (w:=w.alloc (.cells i.ty.zeroV.toArray e)) n hz;rw[<- show i.ty.zeroV=(List.replicate n u.zeroV).flatten by rw[hu];rfl]at this;rw[hrep];exact this)
  exact Eff.val hrun hR hk
 ·rename_i u hu;obtain ⟨ρ',g1,g2,g3⟩:=Rel.addNone g.T [e] h;have hpr:y32 g.T [e]=some (.pair i.ty .unit):=by simp[y32,hi]
  obtain ⟨ρ2,hR⟩:=g1.newBox (t:=i.ty) (cells:=y0N g.T [e] s.cH.length) (l:=i.ty.zeroV) (e:=e) o.dst
   (by have:=(y0Q (P:=P) (A:=λ _=>False) (w:=w) (ρ:=ρ') [e] s.cH.length _ hpr g3).2;simpa using this)
   (λ A hA=>by rw[show i.ty.zeroV=(Ty.pair i.ty .unit).zeroV by simp[Ty.zeroV]];exact (y0Q [e] s.cH.length _ hpr g3).1)
  exact Eff.val hrun hR hk
 ·obtain ⟨hp,hk'⟩:=yG hk;obtain ⟨ρ',g1,g2,g3⟩:=Rel.addNone g.T (i.fields.map (·.2)) h;obtain ⟨ρ2,hR⟩:=g1.newSelf (t:=i.ty) (cells:=y0N g.T (i.fields.map (·.2)) s.cH.length) (l:=i.ty.zeroV) (e:=e) o.dst
   (by have:=(y0Q (P:=P) (A:=λ _=>False) (w:=w) (ρ:=ρ') (i.fields.map (·.2)) s.cH.length _ hp g3).2;simpa using this)
   (λ A hA=>(y0Q (i.fields.map (·.2)) s.cH.length _ hp g3).1)
   (λ u hu=>by rw[hu];rfl)
  exact Eff.val hrun hR hk'
theorem y95(hT:yc P g.T)(h:Rel P A0 w0 ρ s a w){e:TypeId}(ho:o.op=.alloc e)(hk:effK g s o K=some r):Eff P A0 w0 a w o K r:=by
 simp only[effK,ho]at hk;split at hk
 ·rename_i i hi;obtain ⟨inf,d,h1,h2,h3,h4,h5,h6⟩:=(hT.fits hi).ex;have hc:(i.ty.wrap i.ty.zeroV).cells=i.ty.zeroV.toArray:=y0S (yS _) (y1K _);have hrun:(execOp a.eval o).run P w=.ok (.value (.pointer (some ⟨w.heap.size,0,none⟩))) (w.alloc (.cells i.ty.zeroV.toArray e)):=by
   simp only[execOp,ho,Sem.run_bind,Instr.alloc,y3Y h1 h6,newVar,newRow,hc,Result.andThen_ok,Sem.run_pure];simp
  split at hk
  ·exact y4s h hi hrun hk
  ·obtain ⟨ρ',hR⟩:=h.newBox (t:=i.ty) (cells:=y0U i.ty) (l:=i.ty.zeroV) (e:=e) o.dst (y5h _ _) (λ A hA=>y6F _)
   exact Eff.val hrun hR hk
 ·cases hk
theorem Rel.newArr(h:Rel P A0 w0 ρ s a w){u:Ty}{xs:List u.den}{l:List Value}{e:TypeId}{nn:Bool}(d:Option Nat)(hm:xs.length<=maxLen)
  (hc:∀ A,(∀ n,n < w.heap.size->A n->Av A0 ρ s.cH n)->Cells P (.arr xs.length u) A (w.alloc (.cells l.toArray e)) xs l) :
  ∃ ρ',Rel P A0 w0 ρ' ({ s with cH:=s.cH++[some (Chunk.arr e u xs nn)] }.put d (.own s.cH.length)) (a.put d (.slice (some ⟨w.heap.size,0,none⟩) xs.length xs.length)) (w.alloc (.cells l.toArray e)):=by
 have h1:=h.newChunk (.arr e u xs nn) ⟨some w.heap.size,xs.length,xs.length,[],[],[]⟩ (y0T w (.cells l.toArray e)) (λ b hb=>by cases hb;exact le_refl _) trivial
  (λ A hA _=>by
   have:=hc A hA;simp only[Cells]at this;obtain ⟨h1,h2,h3⟩:=this;exact ⟨rfl,(λ _ hx=>by cases hx),Or.inr ⟨w.heap.size,l.toArray,rfl,heap_alloc_new w _,le_refl _,hm,by simpa using h1,λ i x hi=>by simpa using h3 i x hi⟩⟩)
 refine ⟨_,h1.put d (sv:=.own s.cH.length) ?_ ?_⟩
 ·show s.cH.length < (s.cH++[_]).length
  simp
 ·show _=Value.slice _ _ _
  rw[Places.set_self];rfl
theorem y7B(hT:yc P g.T)(h:Rel P A0 w0 ρ s a w){t:TypeId}{l c:Operand}(ho:o.op=.makeSlice t l c){i:TyI}{n m:Int}{u:Ty}(hi:yN g.T t=some i)(h1:y8 g.T 0 s l=.val (.int .i64) n)(h2:y8 g.T 0 s c=.val (.int .i64) m)(hty:i.ty=.slice u)
  (hk:y5P g s o i u n m K=some r):Eff P A0 w0 a w o K r:=by
 unfold y5P at hk;cases hk
theorem yB8(hT:yc P g.T)(h:Rel P A0 w0 ρ s a w){t:TypeId}{l c:Operand}(ho:o.op=.makeSlice t l c)(hk:effK g s o K=some r):Eff P A0 w0 a w o K r:=by
 simp only[effK,ho]at hk;split at hk
 ·rename_i i n m hi h1 h2;split at hk
  ·rename_i u hty;split at hk
   ·exact y7B hT h ho hi h1 h2 hty hk
   cases hb:(u.zok && decide (0<=n) && decide (n<=(memMax:Int)) && n == m)with
   |false=>rw[hb]at hk;cases hk
   |true =>
    rw[hb]at hk;simp only[cond_true]at hk;simp only[and_eq_true,decide_eq_true_eq,beq_iff_eq]at hb;obtain ⟨⟨⟨hz,h0⟩,hm⟩,rfl⟩:=hb;have h0:@LE.le Int _ 0 n:=h0;have hm:@LE.le Int _ n 68719476736:=hm;have e1:=yh (h1 ▸ (y6 (T:=g.T) h 0 l).1);have e2:=yh (h2 ▸ (y6 (T:=g.T) h 0 c).1);obtain ⟨hu,hF,hs0⟩:=yM (hT.shape hi) (.inl hty);obtain ⟨inf,d,f1,f2,f3,f4,f5,f6⟩:=hF.ex;obtain ⟨inf',z,g1,g2,g3,g4,g5⟩:=y1L hF hz;rw[f1]at g1;cases g1;have hr:=y9y u.zeroV n.toNat;rw[yS]at hr;have hnm:n.toNat<=memMax:=by simp only[memMax];omega
    have hrep:=List.length_replicate (n:=n.toNat) (a:=u.dflt);obtain ⟨ρ',hR⟩:=h.newArr (u:=u) (xs:=List.replicate n.toNat u.dflt) (l:=(List.replicate n.toNat u.zeroV).flatten) (e:=i.elem) o.dst
     (by rw[hrep];simp only[maxLen];simp only[memMax]at hnm;omega)
     (λ A hA=>by have:=y0n (P:=P) (A:=A) (w:=w.alloc (.cells (List.replicate n.toNat u.zeroV).flatten.toArray i.elem)) n.toNat hz;rw[hrep];exact this)
    rw[hrep]at hR;refine Eff.val ?_ hR hk;have hby:(inf.bytes:Int) * n<=281474976710656:=by
     have hN:inf.bytes * n.toNat<=2048 * 68719476736:=Nat.mul_le_mul f4 hnm;have:(inf.bytes:Int) * n=((inf.bytes * n.toNat:Nat):Int):=by rw[Int.natCast_mul];congr 1;exact (Int.toNat_of_nonneg h0).symm
     rw[this];generalize inf.bytes * n.toNat=q at hN;omega
    have hrun:=run_make (P:=P) w t i.elem inf z hu f1 g2 .i64 .i64 n n h0 (Int.le_refl _) hby (by omega)
    simp only[execOp,ho,Sem.run_bind,e1,e2,hrun,Result.andThen_ok,Sem.run_pure];congr 3
    unfold madeCells;rw[g3,g4];apply Array.toList_inj.1;rw[Array.toList_map,Array.toList_range,<- hr]
  ·cases hk
 ·cases hk
theorem yV{v:Value}(h:Value.plain1 v=true):v.oneCell'=true:=by
 cases v<;>first|rfl|(simp[Value.plain1]at h)
theorem y2n{A:Nat->Prop}{sv:SV}{v:Value}(hs:sv.scalar=true)(h:yD P A w ρ sv v):v.cells=[v].toArray/\v.oneCell'=true:=by
 cases sv with
 |undef=>cases hs
 |tup t x=>cases hs
 |xV t x=>cases hs
 |gone=>cases hs
 |sR β=>cases hs
 |nO β i=>cases hs
 |nP β i j sz off=>cases hs
 |meth f β=>obtain ⟨b,_,rfl⟩:=h;exact ⟨rfl,rfl⟩
 |val t x =>
  simp only[SV.scalar,Bool.not_eq_true']at hs;obtain ⟨l,hl,rfl⟩:=h;have h1:=hl.length;rw[y2E hs]at h1;obtain ⟨v,rfl⟩:=List.length_eq_one_iff.1 h1;have h2:t.wrap [v]=v:=by simp[Ty.wrap,hs]
  have hp:=Cells.plain hl v (by simp)
  rw[h2];exact ⟨by cases v<;>first|rfl|(simp[Value.plain1]at hp),yV hp⟩
 |bP β off=>obtain ⟨b,_,rfl⟩:=h;exact ⟨rfl,rfl⟩
 |own β=>cases h;exact ⟨rfl,rfl⟩
 |eP β i sz off=>obtain ⟨b,_,rfl⟩:=h;exact ⟨rfl,rfl⟩
 |oS β i sz=>cases h;exact ⟨rfl,rfl⟩
 |clo f caps=>obtain ⟨vs,rfl,_⟩:=h;exact ⟨rfl,rfl⟩
 |nils=>cases h;exact ⟨rfl,rfl⟩
 |nilp=>simp only[yD]at h;subst h;exact ⟨rfl,rfl⟩
 |mO β=>simp only[yD]at h;subst h;exact ⟨rfl,rfl⟩
 |yld β=>obtain ⟨b,_,rfl⟩:=h;exact ⟨rfl,rfl⟩
 |mP β e=>obtain ⟨_,b,_,rfl|rfl⟩:=h<;>exact ⟨rfl,rfl⟩
theorem yG0:∀ (fs:List Field) (places:List (Nat×Nat)) (i:Nat) (fd:Field) (inf:TypeInfo),fs.mapM (λ f=>(P.info? f.type).map λ i=>(f.offset,i.size))=some places->fs[i]?=some fd->P.info? fd.type=some inf->places[i]?=some (fd.offset,inf.size)
 |[],places,i,fd,inf,_,hi,_=>by simp at hi
 |f::fs,places,i,fd,inf,hm,hi,h2=>by
  simp only[List.mapM_cons,Option.bind_eq_bind,bind_eq_some_iff,map_eq_some_iff,Option.pure_def,Option.some.injEq]at hm;obtain ⟨q,⟨j,hj,rfl⟩,rest,hr,rfl⟩:=hm;cases i with
  |zero=>simp at hi;subst hi;rw[h2]at hj;cases hj;rfl
  |succ i=>simpa using yG0 fs rest i fd inf hr (by simpa using hi) h2
theorem yDD{A:Nat->Prop}{cs:List (Option Chunk)}{m off:Nat}{cells:List SV}(hfr:∀ β,m<=β->β < cs.length->ρ β=⟨none,0,0,[],[],[]⟩)(hin:∀ sv∈cells,sv.inn cs.length){sv sv':SV}{v:Value}(hs:yD P A w ρ sv v)(h1:yD P A w ρ sv' v)(h2:sv'.inn cs.length) :
  yD P A w ρ (yFY m cells off sv sv') v/\(yFY m cells off sv sv').inn cs.length:=by
 unfold yFY;split
 ·split
  ·rename_i γ hγ;split
   ·rename_i hm;have hi:γ < cs.length:=hin _ (mem_of_getElem? hγ);have hr:=hfr γ hm hi;have hv:v=.slice none 0 0:=hs;refine ⟨?_,hi⟩;show v=.slice ((ρ γ).blk.map λ b=>⟨b,0,none⟩) (ρ γ).len (ρ γ).cap
    rw[hr,hv];rfl
   ·exact ⟨h1,h2⟩
  ·exact ⟨h1,h2⟩
 ·exact ⟨h1,h2⟩
theorem y9R(h:Rel P A0 w0 ρ s a w){t:Ty}{sv:SV}{v:Value}{svs:List SV}(hs:yD P (Av A0 ρ s.cH) w ρ sv v)(hr:y3a s.cH t sv=some svs)(hn:svs.length=t.size) :
  ∃ l,v=.agg l.toArray/\yA P (Av A0 ρ s.cH) w ρ svs l/\(∀ sv∈svs,sv.inn s.cH.length)/\∀ v∈l,v.oneCell'=true:=by
 unfold y3a at hr;split at hr
 ·rename_i β;split at hr
  ·rename_i u cells hch;obtain ⟨⟨hu,hall⟩,hr⟩:=yG hr;cases hr;have hβ:=getD_some hch;obtain ⟨_,hor,hvl,hvc⟩:=(h.cH β _ hβ).1;have hsc:yA P (Av A0 ρ s.cH) w ρ svs (ρ β).vals:=⟨hvl,λ i sv hi=>hvc i sv hi⟩
   refine ⟨(ρ β).vals,?_,hsc,λ sv hsv=>h.cN β _ hβ sv hsv,λ v hv=>?_⟩
   ·have h0:v=recV (ρ β).len (ρ β).vals:=hs;rcases hor with ⟨_,hln⟩|⟨hb1,_,h22⟩
    ·rw[h0];simp[recV,hln]
    ·exfalso
     rw[<- hu,hb1]at hn;simp only[Ty.size]at hn;omega
   ·obtain ⟨j,hj⟩:=List.mem_iff_getElem?.1 hv;have hjl:j < svs.length:=by rw[<- hsc.1];exact (List.getElem?_eq_some_iff.1 hj).1
    obtain ⟨v',h5,h6⟩:=hsc.2 j _ (getElem?_eq_getElem hjl);rw[hj]at h5;cases h5;exact (y2n (List.all_eq_true.1 hall _ (List.getElem_mem hjl)) h6).2
  ·cases hr
 ·cases hr
theorem y40(h:Rel P A0 w0 ρ s a w){t:Ty}{sv:SV}{v:Value}{svs:List SV}(hs:yD P (Av A0 ρ s.cH) w ρ sv v)(hr:y5i s.cH t sv=some svs) :
  svs.length=t.size/\∃ l,v=.agg l.toArray/\yA P (Av A0 ρ s.cH) w ρ svs l/\(∀ sv∈svs,sv.inn s.cH.length)/\∀ v∈l,v.oneCell'=true:=by
 unfold y5i at hr;obtain ⟨l,h1,h2⟩:=bind_eq_some_iff.1 hr;obtain ⟨hn,h2⟩:=yG h2;cases h2;exact ⟨hn,y9R h hs h1 hn⟩
theorem y7K(hT:yc P g.T)(h:Rel P A0 w0 ρ s a w){t:TypeId}{x:Operand}(ho:o.op=.load t x)(hk:effK g s o K=some r):Eff P A0 w0 a w o K r:=by
 simp only[effK,ho,y5l]at hk;split at hk;rotate_left
 ·cases hk
 rename_i i β off hi hs;split at hk;rotate_left
 ·cases hk
 rename_i u cells hch;obtain ⟨⟨hag,hfit⟩,hk⟩:=yG hk;have hc:=getD_some hch;obtain ⟨b,hb,hv⟩:∃ b,(ρ β).blk=some b/\a.eval x=.pointer (some ⟨b,off,none⟩):=by
  have:=(y6 (T:=g.T) h 0 x).1;rw[hs]at this;exact this
 obtain ⟨b',vs,hb',h1,h2⟩:=yC1 (h.cH β _ hc).1;rw[hb]at hb';cases hb';have h3:=(h2.drop off).take i.ty.size;have h4:((vs.drop off).take i.ty.size).length=i.ty.size:=by
  have:=h2.1;rw[List.length_take,List.length_drop];omega
 have hl:=y1s (P:=P) (w:=w) (b:=b) (off:=off) (hT.fits hi) h4 (by
  have:=h1.sub off i.ty.size;rwa[Nat.zero_add]at this)
 have hN:=h.newChunk (w':=w) (.rcd i.ty ((cells.drop off).take i.ty.size)) ⟨none,0,0,[],(vs.drop off).take i.ty.size,[]⟩ (Below.refl _ _) (λ b hb=>by cases hb)
  (λ sv hsv=>h.cN β _ hc sv (List.mem_of_mem_drop (List.mem_of_mem_take hsv))) (λ A hA _=>⟨rfl,.inl ⟨hag,rfl⟩,h3.1,λ j sv hj=>by
   obtain ⟨v,hv,hr⟩:=h3.2 j sv hj;exact ⟨v,hv,hr.mono (λ _ _ _=>rfl) hA⟩⟩)
 refine Eff.val (v:=i.ty.wrap ((vs.drop off).take i.ty.size)) (w':=w) ?_ (hN.put o.dst (sv:=.sR s.cH.length) ?_ ?_) hk
 ·simp only[execOp,ho,Sem.run_bind,hv,hl,Result.andThen_ok,Sem.run_pure]
 ·show s.cH.length < (s.cH++[_]).length
  simp
 ·show i.ty.wrap _=recV (Places.set ρ s.cH.length _ s.cH.length).len (Places.set ρ s.cH.length _ s.cH.length).vals
  rw[Places.set_self];simp[Ty.wrap,hag,recV]
theorem yCW(hT:yc P g.T)(h:Rel P A0 w0 ρ s a w){e:TypeId}{x:Operand}(ho:o.op=.box e x)(hk:effK g s o K=some r):Eff P A0 w0 a w o K r:=by
 simp only[effK,ho]at hk;split at hk
 ·rename_i hnb;split at hk
  ·rename_i i hi;unfold yG6 at hnb;rw[hi]at hnb;split at hnb
   ·rename_i j hs hj;cases hj;split at hnb
    ·rename_i v hv;refine y4s h hi ?_ hk;have hx:a.eval x=.slice none 0 0:=by
      have:=(y6 (T:=g.T) h e x).1;rw[hs]at this;exact this
     simp only[execOp,ho,Sem.run_bind,y63,hx,Result.andThen_ok,Sem.run_pure];rw[hv];rfl
    ·cases hnb
   ·cases hnb
  ·cases hk
 split at hk
 ·rename_i β hβ;split at hk
  ·rename_i i hi;have hs:=y6 (T:=g.T) h e x;have hx:y8 g.T e s x=.yld β:=by
    unfold yQF at hβ;split at hβ
    ·rename_i γ hγ;cases hβ;exact hγ
    ·cases hβ
   rw[hx]at hs;obtain ⟨ρ',hR⟩:=h.newBox (t:=i.ty) (cells:=[.yld β]) (l:=[a.eval x]) (e:=e) o.dst
    (λ sv hsv=>by rw[mem_singleton]at hsv;subst hsv;exact hs.2)
    (λ A hA=>⟨rfl,λ i sv hi=>by
     cases i with
     |zero=>cases hi;exact ⟨_,rfl,hs.1⟩
     |succ i=>cases hi⟩)
   refine Eff.val ?_ hR hk;obtain ⟨b,_,hb⟩:=hs.1;simp only[execOp,ho,Sem.run_bind,y63,Result.andThen_ok,Sem.run_pure];rw[hb];rfl
  ·cases hk
 split at hk
 ·rename_i p hp;unfold yMj at hp;obtain ⟨i,hi,hp⟩:=bind_eq_some_iff.1 hp;obtain ⟨svs,hsv,rfl⟩:=map_eq_some_iff.1 hp;have hs:=y6 (T:=g.T) h e x;obtain ⟨hn,l,h1,h2,h3,_⟩:=y40 h hs.1 hsv;obtain ⟨ρ',hR⟩:=h.newBox (t:=i.ty) (cells:=svs) (l:=l) (e:=e) o.dst h3 (λ A hA=>⟨h2.1,λ j sv hj=>by
   obtain ⟨v,h4,h5⟩:=h2.2 j sv hj;exact ⟨v,h4,h5.mono (y31 _ _ _) hA⟩⟩)
  refine Eff.val ?_ hR hk;simp only[execOp,ho,Sem.run_bind,y63,Result.andThen_ok,Sem.run_pure,h1];rfl
 have hS:=h.settle (y8 g.T e s x);generalize s.settle (y8 g.T e s x)=s1 at hk hS;split at hk
 ·rename_i i hi;simp only[bind_eq_some_iff]at hk;obtain ⟨y,hy,hk⟩:=hk;have hs:=(y6 (T:=g.T) hS e x).1;obtain ⟨l,h1,h2⟩:=y04 hs hy;have hc:=y0I h1;obtain ⟨ρ',hR⟩:=hS.newBox (t:=i.ty) (cells:=y0D i.ty y) (l:=l) (e:=e) o.dst (y3D _ _ _) (λ A hA=>y1d _ _ _ (h1.mono (y31 _ _ _) hA))
  refine Eff.val ?_ hR hk;simp only[execOp,ho,Sem.run_bind,y63,Result.andThen_ok,Sem.run_pure,h2,hc]
 ·cases hk
theorem y3p(hE:∀ e∈g.E,FnOK P e)(hT:yc P g.T)(h:Rel P A0 w0 ρ s a w){m0:Nat}(hfr:∀ β,m0<=β->β < s.cH.length->ρ β=⟨none,0,0,[],[],[]⟩){fs:List Field}{places:List (Nat×Nat)}(hpl:fs.mapM (λ f=>(P.info? f.type).map λ i=>(f.offset,i.size))=some places) :
  ∀ (ps:List (Nat×Operand)) (cells:List SV) (l:List Value) (cells':List SV),yA P (Av A0 ρ s.cH) w ρ cells l->(∀ sv∈cells,sv.inn s.cH.length)->y9j g.E m0 s g.T (fs.map λ f=>(f.offset,f.type)) ps cells=some cells' ->
   ∃ cs,Instr.fill (places.toArray[·]?) l.toArray (ps.map λ p=>(p.1,a.eval p.2))=some cs/\yA P (Av A0 ρ s.cH) w ρ cells' cs.toList/\∀ sv∈cells',sv.inn s.cH.length
 |[],cells,l,cells',hc,hin,hk=>by
  simp only[y9j,Option.some.injEq]at hk;subst hk;exact ⟨l.toArray,rfl,hc,hin⟩
 |p::ps,cells,l,cells',hc,hin,hk=>by
  simp only[y9j]at hk;obtain ⟨q,hq,hk1⟩:=bind_eq_some_iff.1 hk;obtain ⟨i,hi,hk2⟩:=bind_eq_some_iff.1 hk1;obtain ⟨svs,hsv,hk3⟩:=bind_eq_some_iff.1 hk2;obtain ⟨hfit,hk4⟩:=yG hk3;rw[getElem?_map,map_eq_some_iff]at hq;obtain ⟨fd,hfd,rfl⟩:=hq;have hF:=hT.fits hi;obtain ⟨inf,d,f1,_,f3,_⟩:=hF.ex;have hs:=y6 (T:=g.T) h fd.type p.2;have hp:=yG0 fs places p.1 fd inf hpl hfd f1;obtain ⟨m,hm1,hm2,hm3,hm4⟩:∃ m,(a.eval p.2).cells=m.toArray/\m.length=inf.size/\yA P (Av A0 ρ s.cH) w ρ svs m/\∀ sv∈svs,sv.inn s.cH.length:=by
   split at hsv
   ·split at hsv
    ·rename_i svs' hrc;cases hsv;obtain ⟨hn,m,h1,h2,h3,_⟩:=y40 h hs.1 hrc;exact ⟨m,by rw[h1];rfl,by rw[h2.1,hn,f3],h2,h3⟩
    obtain ⟨y,hy,rfl⟩:=map_eq_some_iff.1 hsv;obtain ⟨m,h1,h2⟩:=y04 hs.1 hy;exact ⟨m,by rw[h2];exact y0I h1,by rw[h1.length,f3],y1d (ρ:=ρ) i.ty y m h1,y3D _ _ _⟩
   ·rename_i hag;obtain ⟨hsc,hsv⟩:=yG hsv;cases hsv;have h1:=y9l hE i.ty hs.1 hs.2;obtain ⟨h2,_⟩:=y2n hsc h1.1;have h1:=yDD (m:=m0) (off:=fd.offset) hfr hin hs.1 h1.1 h1.2;exact ⟨[a.eval p.2],h2,by rw[f3,y2E (by simpa using hag)];rfl,yA.one h1.1,λ sv hsv=>by simp only[mem_singleton]at hsv;subst hsv;exact h1.2⟩
  have hsl:=hm3.1;have hcl:=hc.1;have hfin:yA P (Av A0 ρ s.cH) w ρ (cells.take fd.offset++svs++cells.drop (fd.offset+svs.length)) (l.take fd.offset++m++l.drop (fd.offset+m.length)):=by
   rw[hsl];exact ((hc.take _).append hm3).append (hc.drop _)
  obtain ⟨cs,h8,h9,h10⟩:=y3p hE hT h hfr hpl ps _ _ cells' hfin (λ sv hsv=>by
   rcases mem_append.1 hsv with hsv|hsv
   ·rcases mem_append.1 hsv with hsv|hsv
    ·exact hin sv (List.mem_of_mem_take hsv)
    ·exact hm4 sv hsv
   ·exact hin sv (List.mem_of_mem_drop hsv)) hk4
  refine ⟨cs,?_,h9,h10⟩;have hfit':fd.offset+svs.length<=cells.length:=hfit;rw[map_cons,yAw (off:=fd.offset) (sz:=inf.size) (by simpa using hp) hm1 hm2 (by simp;omega),<- h8]
  simp[hm2]
theorem y6H(hE:∀ e∈g.E,FnOK P e)(hT:yc P g.T)(h:Rel P A0 w0 ρ s a w){t:TypeId}{ps:Array (Nat×Operand)}(ho:o.op=.build t ps)(hk:effK g s o K=some r):Eff P A0 w0 a w o K r:=by
 simp only[effK,ho,y3x]at hk;split at hk;rotate_left
 ·cases hk
 rename_i i hi;obtain ⟨hz,hk1⟩:=yG hk;simp only[and_eq_true]at hz;obtain ⟨hp,hz⟩:=hz;split at hk1
 ·obtain ⟨hpr,hk1⟩:=yG hk1;obtain ⟨cells,hcs,hk2⟩:=bind_eq_some_iff.1 hk1;generalize (i.fields.map λ q:Nat×TypeId=>q.2)=F at hpr hcs hk2
  obtain ⟨fs,h1,h2,h3⟩:=y1m (hT.shape hi) hp;have hag:i.ty.agg=true:=by cases hty:i.ty<;>simp_all [Ty.isPair,Ty.agg]
  obtain ⟨inf,z,h4,h5,h6,h7,h8⟩:=y1L (hT.fits hi) hz;obtain ⟨pl,hpl⟩:=y8I _ _ _ h3;obtain ⟨ρ',g1,g2,g3⟩:=Rel.addNone g.T F h;have hz0:=y0Q (P:=P) (A:=Av A0 ρ' (s.cH++yK g.T F)) (w:=w) (ρ:=ρ') F s.cH.length i.ty hpr g3;rw[h2]at hcs;obtain ⟨cs,h9,h10,h11⟩:=y3p hE hT g1 (λ β h1 h2=>g3 β h1 (by simpa using h2)) hpl ps.toList _ _ cells hz0.1 (λ sv hsv=>by have:=hz0.2 sv hsv;simpa using this) hcs
  have hb:P.built t (ps.map λ (i,x)=>(i,a.eval x)).toList=some cs:=by
   unfold Program.built;simp only[h4,h1,h5,hpl,h7];rw[y1k];exact h9
  have hN:=g1.newChunk (w':=w) (.rcd i.ty cells) ⟨none,0,0,[],cs.toList,[]⟩ (Below.refl _ _) (λ b hb=>by cases hb) h11 (λ A hA _=>⟨rfl,.inl ⟨hag,rfl⟩,h10.1,λ j sv hj=>by
   obtain ⟨v,hv,hr⟩:=h10.2 j sv hj;exact ⟨v,hv,hr.mono (λ _ _ _=>rfl) hA⟩⟩)
  refine Eff.val (v:=.agg cs) (w':=w) ?_ (hN.put o.dst (sv:=.sR (s.cH++yK g.T F).length) ?_ ?_) hk2
  ·have hrb:=run_build w t _ cs hb;simp only[execOp,ho,Sem.run_bind,hrb,Result.andThen_ok,Sem.run_pure]
  ·show (s.cH++yK g.T F).length < ((s.cH++yK g.T F)++[_]).length
   simp
  ·show Value.agg cs=recV (Places.set ρ' (s.cH++yK g.T F).length _ (s.cH++yK g.T F).length).len (Places.set ρ' (s.cH++yK g.T F).length _ (s.cH++yK g.T F).length).vals
   rw[Places.set_self];rfl
 obtain ⟨cells,hcs,hk2⟩:=bind_eq_some_iff.1 hk1;obtain ⟨fs,h1,h2,h3⟩:=y1m (hT.shape hi) hp;have hag:i.ty.agg=true:=by cases hty:i.ty<;>simp_all [Ty.isPair,Ty.agg]
 obtain ⟨inf,z,h4,h5,h6,h7,h8⟩:=y1L (hT.fits hi) hz;obtain ⟨pl,hpl⟩:=y8I _ _ _ h3;have hz0:=y6F (P:=P) (A:=Av A0 ρ s.cH) (w:=w) (ρ:=ρ) i.ty;rw[h2]at hcs;obtain ⟨cs,h9,h10,h11⟩:=y3p hE hT h (λ β h1 h2=>absurd h2 (by omega)) hpl ps.toList _ _ cells hz0 (y5h _ _) hcs
 have hb:P.built t (ps.map λ (i,x)=>(i,a.eval x)).toList=some cs:=by
  unfold Program.built;simp only[h4,h1,h5,hpl,h7];rw[y1k];exact h9
 have hN:=h.newChunk (w':=w) (.rcd i.ty cells) ⟨none,0,0,[],cs.toList,[]⟩ (Below.refl _ _) (λ b hb=>by cases hb) h11 (λ A hA _=>⟨rfl,.inl ⟨hag,rfl⟩,h10.1,λ j sv hj=>by
  obtain ⟨v,hv,hr⟩:=h10.2 j sv hj;exact ⟨v,hv,hr.mono (λ _ _ _=>rfl) hA⟩⟩)
 refine Eff.val (v:=.agg cs) (w':=w) ?_ (hN.put o.dst (sv:=.sR s.cH.length) ?_ ?_) hk2
 ·have hrb:=run_build w t _ cs hb;simp only[execOp,ho,Sem.run_bind,hrb,Result.andThen_ok,Sem.run_pure]
 ·show s.cH.length < (s.cH++[_]).length
  simp
 ·show Value.agg cs=recV (Places.set ρ s.cH.length _ s.cH.length).len (Places.set ρ s.cH.length _ s.cH.length).vals
  rw[Places.set_self];rfl
theorem y6T(hT:yc P g.T)(h:Rel P A0 w0 ρ s a w){t:TypeId}{n:Nat}{ps:Array (Nat×Operand)}(ho:o.op=.buildSlice t n ps)(hk:y4V g s o t n ps.toList K=some r):Eff P A0 w0 a w o K r:=by
 unfold y4V at hk;cases hk
theorem y9N(hE:∀ e∈g.E,FnOK P e)(hT:yc P g.T)(h:Rel P A0 w0 ρ s a w){t:TypeId}{n:Nat}{ps:Array (Nat×Operand)}(ho:o.op=.buildSlice t n ps)(hk:effK g s o K=some r):Eff P A0 w0 a w o K r:=by
 simp only[effK,ho]at hk;split at hk
 ·exact y6T hT h ho hk
 have hS:=Rel.settleAll (ps.toList.map (·.2)) h;generalize settleAll (ps.toList.map (·.2)) s=s1 at hk hS;split at hk
 ·rename_i i hi;split at hk
  ·rename_i u hty;split at hk
   ·cases hk
   ·rename_i hz;simp only[Bool.not_eq_true',and_eq_true,decide_eq_true_eq,Bool.not_eq_false]at hz;simp only[bind_eq_some_iff]at hk;obtain ⟨y,hy,hk⟩:=hk;obtain ⟨h1,h2,h0⟩:=yM (hT.shape hi) (.inl hty);obtain ⟨cs,h3,h4⟩:=y4O hE hS _ _ _ _ (y0n n hz.1) hy;have h4':=h4;simp only[Cells]at h4';obtain ⟨h5,h6,h7⟩:=h4';have hn:y.length<=maxLen:=by
     rw[h6];simp only[maxLen];have:n * 1<=n * u.size:=Nat.mul_le_mul_left _ (by omega)
     omega
    obtain ⟨ρ',hR⟩:=hS.newArr (u:=u) (xs:=y) (l:=cs.toList) (e:=i.elem) o.dst hn
     (λ A hA=>by rw[h6];exact h4.mono (y31 _ _ _) hA)
    rw[h6]at hR;refine Eff.val ?_ hR hk;simp only[execOp,ho,Sem.run_bind];rw[y3o h1 h2 hz.1 hz.2 (by rw[y1k];exact h3)]
    rfl
  ·cases hk
 ·cases hk
theorem yBc(h:Rel P A0 w0 ρ s a w)(ho:o.op=.assign (.const (.slice none 0 0)))(hk:effK g s o K=some r):Eff P A0 w0 a w o K r:=by
 simp only[effK,ho]at hk;split at hk
 ·rename_i i hi;split at hk
  ·rename_i u hty;split at hk
   ·obtain ⟨q,hq,hk⟩:=bind_eq_some_iff.1 hk;have h1:=h.newChunk (w':=w) (.nst i.elem u q.1 q.2.1 q.2.2 []) ⟨none,0,0,[],[],[]⟩ (Below.refl _ _) (λ b hb=>by cases hb) trivial
     (λ A hA _=>⟨⟨rfl,rfl,rfl⟩,λ i j n hi=>by simp at hi,.inl ⟨rfl,rfl,rfl⟩⟩)
    refine Eff.val (v:=.slice none 0 0) (w':=w) ?_ (h1.put o.dst (sv:=.own s.cH.length) ?_ ?_) hk
    ·simp[execOp,ho,Act.eval]
    ·show s.cH.length < (s.cH++[_]).length
     simp
    ·show _=Value.slice _ _ _
     rw[Places.set_self];rfl
   have h1:=h.newChunk (w':=w) (.arr i.elem u [] false) ⟨none,0,0,[],[],[]⟩ (Below.refl _ _) (λ b hb=>by cases hb) trivial
    (λ A hA _=>⟨rfl,λ h=>by simp at h,.inl ⟨rfl,rfl,rfl⟩⟩)
   refine Eff.val (v:=.slice none 0 0) (w':=w) ?_ (h1.put o.dst (sv:=.own s.cH.length) ?_ ?_) hk
   ·simp[execOp,ho,Act.eval]
   ·show s.cH.length < (s.cH++[_]).length
    simp
   ·show _=Value.slice _ _ _
    rw[Places.set_self];rfl
  ·cases hk
 ·cases hk
theorem y97(hT:yc P g.T)(h:Rel P A0 w0 ρ s a w){t:TypeId}{x:Operand}(ho:o.op=.range t x)(hk:effK g s o K=some r):Eff P A0 w0 a w o K r:=by
 simp only[effK,ho]at hk;have hx:=(y6 (T:=g.T) h t x).1;split at hk
 ·rename_i i bs hi he;obtain ⟨hty,hk⟩:=yG hk;rw[he]at hx;have hu:=y2d (hT.shape hi) hty;have h1:=h.newChunk (.it bs 0) ⟨some w.heap.size,0,0,[],[],[]⟩ (y0T w (.stringIter ⟨bs.toArray⟩ 0)) (λ b hb=>by cases hb;exact le_refl _) trivial
   (λ A hA _=>⟨w.heap.size,0,rfl,heap_alloc_new w _,rfl⟩)
  refine Eff.val (v:=.pointer (some ⟨w.heap.size,0,none⟩)) ?_ (h1.put o.dst (sv:=.bP s.cH.length 0) ?_ ?_) hk
  ·simp only[execOp,ho,y3T hx];simp[Instr.range,run_underlying hu]
  ·show s.cH.length < (s.cH++[_]).length
   simp
  ·refine ⟨w.heap.size,?_,rfl⟩;show (Places.set ρ s.cH.length ⟨some w.heap.size,0,0,[],[],[]⟩ s.cH.length).blk=_
   rw[Places.set_self]
 ·cases hk
theorem yE3(h:Rel P A0 w0 ρ s a w){it:Operand}(ho:o.op=.next it true)(hk:yKv g s o it K=some r):Eff P A0 w0 a w o K r:=by
 unfold yKv at hk;have hx:=(y6 (T:=g.T) h 0 it).1;split at hk
 ·rename_i β he;rw[he]at hx;split at hk
  ·rename_i bs q hch;have hc:=getD_some hch;obtain ⟨b,n,hb,h1,rfl⟩:=(h.cH β _ hc).1;obtain ⟨b',hb',hv⟩:=hx;rw[hb]at hb';cases hb';have hsz:(⟨bs.toArray⟩:ByteArray).size=bs.length:=by simp[ByteArray.size]
   cases hd:decide ((n:Int) < (bs.length:Int))with
   |true =>
    rw[hd]at hk;simp only[cond_true]at hk;have hlt:n < (⟨bs.toArray⟩:ByteArray).size:=by simp at hd;omega
    have hset:∀ ob:Obj,(setObj b ob).run P w=.ok () { w with heap:=w.heap.setIfInBounds b ob }:=λ ob=>by simp[setObj,Sem.run,h1]
    have hW:=h.write (w':={ w with heap:=w.heap.setIfInBounds b (.stringIter ⟨bs.toArray⟩ (n+(Utf8.decode ⟨bs.toArray⟩ n).2)) }) (ch':=.it bs (yf bs (n:Int)).2) hc hb (λ m hm=>by simp[Array.getElem?_setIfInBounds_ne (Ne.symm hm)]) (by simp) rfl rfl rfl trivial
     (λ A hA=>⟨b,n+(Utf8.decode ⟨bs.toArray⟩ n).2,hb,by simp[yJ h1],by simp[yf]⟩)
    refine Eff.val (v:=.tuple #[.bool true,.int .i64 (n:Int),.int .i32 ((Utf8.decode ⟨bs.toArray⟩ n).1:Int)]) ?_ (hW.put o.dst (sv:=.tup (.pair .bool (.pair (.int .i64) (.pair (.int .i32) .unit))) (true,(n:Int),(yf bs (n:Int)).1,())) trivial ?_) hk
    ·simp only[execOp,ho,hv,Instr.next,getObj,Sem.run_bind,Sem.run,h1,Result.andThen_ok,hlt,if_true,hset]
     rfl
    ·refine ⟨[.bool true,.int .i64 (n:Int),.int .i32 ((Utf8.decode ⟨bs.toArray⟩ n).1:Int)],⟨[.bool true],_,rfl,rfl,⟨[.int .i64 (n:Int)],_,rfl,rfl,⟨[.int .i32 ((Utf8.decode ⟨bs.toArray⟩ n).1:Int)],[],rfl,?_,rfl⟩⟩⟩,rfl⟩;simp[Cells,yf]
   |false =>
    rw[hd]at hk;simp only[cond_false]at hk;have hlt:¬ n < (⟨bs.toArray⟩:ByteArray).size:=by simp at hd;omega
    refine Eff.val (v:=.tuple #[.bool false]) (w':=w) ?_ (h.put o.dst (sv:=.tup (.pair .bool .unit) (false,())) trivial ?_) hk
    ·simp only[execOp,ho,hv,Instr.next,getObj,Sem.run_bind,Sem.run,h1,Result.andThen_ok,hlt,if_false]
     rfl
    ·exact ⟨[.bool false],⟨[.bool false],[],rfl,rfl,rfl⟩,rfl⟩
  ·cases hk
 ·cases hk
theorem yPD{α:Type}{c:Prop}[Decidable c]{x y z:α}(h:(if c then x else y)=z):(c/\x=z)\/(¬ c/\y=z):=by
 split at h
 ·exact .inl ⟨‹_›,h⟩
 ·exact .inr ⟨‹_›,h⟩
theorem y77(h:Rel P A0 w0 ρ s a w){t:TypeId}(ho:o.op=.makeMap t none)(hk:effK g s o K=some r):Eff P A0 w0 a w o K r:=by
 simp only[effK,ho]at hk;have fin:∀ ch:Chunk,ch.inn s.cH.length->ch.lpNo=none->(∀ A,yC P A (w.alloc (.map #[] 0)) ρ ⟨some w.heap.size,0,0,[],[],[]⟩ ch) ->
   K ({ s with cH:=s.cH++[some ch] }.put o.dst (.mO s.cH.length))=some r->Eff P A0 w0 a w o K r:=by
  intro ch hin hlp hr hk;have h1:=h.newChunk ch ⟨some w.heap.size,0,0,[],[],[]⟩ (y0T w (.map #[] 0)) (λ b hb=>by cases hb;exact le_refl _) hin
   (λ A hA _=>hr A) (λ q hq=>by rw[hlp]at hq;cases hq)
  refine Eff.val (v:=.map (some w.heap.size)) ?_ (h1.put o.dst (sv:=.mO s.cH.length) ?_ ?_) hk
  ·simp only[execOp,ho,Option.map_none,Instr.makeMap];rfl
  ·show s.cH.length < (s.cH++[_]).length
   simp
  ·show Value.map (some w.heap.size)=.map (Places.set ρ s.cH.length ⟨some w.heap.size,0,0,[],[],[]⟩ s.cH.length).blk
   rw[Places.set_self]
 split at hk
 ·split at hk
  ·rename_i u v hty;rcases yPD hk with ⟨_,hk⟩|⟨_,hk⟩
   ·split at hk
    ·exact fin (.mps u _ _ [] none) (λ q hq=>by cases hq) rfl (λ A=>⟨w.heap.size,#[],0,rfl,heap_alloc_new w _,⟨rfl,rfl⟩,⟨⟨λ i j n hi=>by simp at hi,λ i j x y hi=>by simp at hi⟩,λ q hq=>by cases hq⟩,λ i x hi=>by simp at hi⟩) hk
    ·cases hk
   ·exact fin (.mp u v []) trivial rfl (λ A=>⟨w.heap.size,#[],0,rfl,heap_alloc_new w _,rfl,λ i x hi=>by simp at hi⟩) hk
  ·cases hk
 ·cases hk
theorem y5t:∀ {u:Ty} (y:u.den) (n:Nat),u.keyF=true->∀ v∈u.flatV y,Instr.sameBits n v v=true
 |.unit,_,_,_,v,hv=>by simp[Ty.flatV]at hv
 |.pair a b,y,n,hk,v,hv=>by
  have hk':a.keyPart=true/\b.keyF=true:=by simpa[Ty.keyF]using hk
  simp only[Ty.flatV,mem_append]at hv;rcases hv with hv|hv
  ·cases a<;>first|(cases hk'.1;done)|skip
   all_goals
    simp only[Ty.flatV,mem_singleton]at hv;subst hv;cases n<;>simp[Instr.sameBits,y8B]
  ·exact y5t y.2 n hk'.2 v hv
theorem yBv{u:Ty}(hu:u.keyAll=true)(y:u.den):Instr.sameBits 10000 (yg u y) (yg u y)=true:=by
 rcases y71 hu with hk|hk
 ·cases u with
  |str=>simp[yg,Ty.wrap,Ty.agg,Ty.flatV,Instr.sameBits,y8B]
  |int j=>simp[yg,Ty.wrap,Ty.agg,Ty.flatV,Instr.sameBits]
  |_=>cases hk
 ·have hag:u.agg=true:=by cases u<;>first|rfl|(cases hk;done)
  have hf:=y5t (u:=u) y 9999 hk;unfold yg Ty.wrap;rw[if_pos hag];show (_ == _ && _)=true
  simp only[beq_self_eq_true,Bool.true_and,List.all_eq_true];intro q hq;obtain ⟨i,h1,h2⟩:=List.mem_iff_getElem.1 hq;simp only[List.getElem_zip]at h2;subst h2;exact hf _ (List.getElem_mem _)
theorem yH9(hT:yc P g.T)(h:Rel P A0 w0 ρ s a w){t:TypeId}{m key x:Operand}(ho:o.op=.insert t m key x\/o.op=.mapUpdate t m key x)(hk:putM g s o t m key x K=some r):Eff P A0 w0 a w o K r:=by
 unfold putM at hk;cases hk
theorem yAD(hE:∀ e∈g.E,FnOK P e)(hT:yc P g.T)(h:Rel P A0 w0 ρ s a w){t:TypeId}{m key x:Operand}(ho:o.op=.insert t m key x\/o.op=.mapUpdate t m key x)(hk:putK g s o t m key x K=some r):Eff P A0 w0 a w o K r:=by
 unfold putK at hk;split at hk
 ·exact yH9 hT h ho hk
 have hS:=h.settle (y8 g.T 0 s x);dsimp only at hk;generalize s.settle (y8 g.T 0 s x)=s1 at hk hS;split at hk
 ·rename_i i β hi hm;split at hk
  ·rename_i u v es hch;obtain ⟨⟨hty,hkey⟩,hk⟩:=yG hk;obtain ⟨y,hy,hk⟩:=bind_eq_some_iff.1 hk;obtain ⟨z,hz,hk⟩:=bind_eq_some_iff.1 hk;have hc:=getD_some hch;obtain ⟨kt,et,dk,h1,h2,h3,h4,h5⟩:=y8d (hT.shape hi) hty;obtain ⟨ly,hly,hiv⟩:=y04 (y6 (T:=g.T) hS 0 key).1 hy;rw[yAu hkey hly]at hiv;obtain ⟨lz,hlz,hxv⟩:=y8y hE (y6 (T:=g.T) hS 0 x).1 hz;have hmv:=(y6 (T:=g.T) hS t m).1;rw[hm]at hmv;obtain ⟨b,ms,c,hb,g1,g2,g3⟩:=(hS.cH β _ hc).1;simp only[yD]at hmv;rw[hb]at hmv;have hex:(execOp a.eval o).run P w=((Instr.mapUpdate t (a.eval m) (a.eval key) (a.eval x)).run P w).andThen λ _ w'=>.ok .skip w':=by
    rcases ho with ho|ho<;>(simp only[execOp,ho,Sem.run_bind];rfl)
   have hkeys:∀ (j:Nat) (e:MapEntry) (p:u.den×v.den),ms.toList[j]?=some e->es[j]?=some p->e.key=yg u p.1:=by
    intro j e p he hp;obtain ⟨m',lv,r1,r2,r3,r4⟩:=g3 j p hp;rw[Array.getElem?_toList,r1]at he;cases he;exact r2
   have hK:Keep (Av A0 ρ s1.cH) w w:=λ _ _ _=>rfl
   have hlt:=yJ g1;have hset:∀ ob:Obj,(setObj b ob).run P w=.ok () { w with heap:=w.heap.setIfInBounds b ob }:=λ ob=>by simp[setObj,Sem.run,g1]
   have fin:∀ (ms':Array MapEntry) (c':Nat),(Instr.mapUpdate t (a.eval m) (a.eval key) (a.eval x)).run P w=.ok () { w with heap:=w.heap.setIfInBounds b (.map ms' c') }->ms'.size=(y3g u v es y z).length ->
     (∀ (j:Nat) (p:u.den×v.den),(y3g u v es y z)[j]?=some p->∃ (e:MapEntry) (lv:List Value),ms'[j]?=some e/\e.key=yg u p.1/\Cells P v (Av A0 ρ s1.cH) w p.2 lv/\e.val=v.wrap lv) ->
     Eff P A0 w0 a w o K r:=by
    intro ms' c' hrun hlen hent;have hKw:Keep (Av A0 ρ s1.cH) w { w with heap:=w.heap.setIfInBounds b (.map ms' c') }:=λ n hn hnA=>by
     have:b≠n:=λ e=>hnA (.inr ⟨β,_,hc,e ▸ hb⟩)
     simp[Array.getElem?_setIfInBounds_ne this]
    have hW:=hS.write (w':={ w with heap:=w.heap.setIfInBounds b (.map ms' c') }) (ch':=.mp u v (y3g u v es y z)) hc hb (λ n hn=>by simp[Array.getElem?_setIfInBounds_ne (Ne.symm hn)]) (by simp) rfl rfl rfl trivial
     (λ A hA=>⟨b,ms',c',hb,by simp[hlt],hlen,λ j p hj=>by
      obtain ⟨e,lv,r1,r2,r3,r4⟩:=hent j p hj;exact ⟨e,lv,r1,r2,r3.mono hKw (λ n _ hn=>(hA n).1 hn),r4⟩⟩)
    refine Eff.skip ?_ (hW.put o.dst (sv:=.undef) (v:=undef) trivial trivial) hk;rw[hex,hrun];rfl
   rcases h5.find y ms.toList es (by simpa using g2) hkeys with ⟨r1,r2,r3⟩|⟨j,e,p,r1,r2,r3,r4,r5,r6⟩
   ·refine fin (ms.push { key:=yg u y,val:=a.eval x,born:=c }) (c+1) ?_ (by rw[r3];simp[g2]) (λ j p hj=>?_)
    ·rw[hmv,hiv];unfold Instr.mapUpdate;simp only[Sem.run_bind,run_underlying h1,Result.andThen_ok,y2J g1,h5.check,r1,hset]
    ·rw[r3]at hj;rcases Nat.lt_or_ge j es.length with hl|hl
     ·rw[List.getElem?_append_left hl]at hj;obtain ⟨e,lv,q1,q2,q3,q4⟩:=g3 j p hj;exact ⟨e,lv,by rw[Array.getElem?_push_lt (by omega)];rw[<- q1,Array.getElem?_eq_getElem (by omega)],q2,q3,q4⟩
     ·have hjl:j=es.length:=by
       have:=(List.getElem?_eq_some_iff.1 hj).1;simp at this;omega
      subst hjl;simp at hj;subst hj;exact ⟨{ key:=yg u y,val:=a.eval x,born:=c },lz,by rw[<- g2];simp,rfl,hlz,hxv⟩
   ·obtain ⟨e0,lv0,q1,q2,q3,q4⟩:=g3 j p r2;rw[Array.getElem?_toList]at r1;rw[q1,Option.some.injEq]at r1;subst r1;have hjs:j < ms.size:=(Array.getElem?_eq_some_iff.1 q1).1;have hek:e0.key=yg u y:=by rw[q2,r3]
    refine fin (ms.modify j λ e=>{ e with key:=yg u y,val:=a.eval x }) c ?_ (by rw[r6];simp[g2]) (λ i p' hi=>?_)
    ·rw[hmv,hiv];unfold Instr.mapUpdate;simp only[Sem.run_bind,run_underlying h1,Result.andThen_ok,y2J g1,h5.check,r4,Nat.zero_add,q1,Option.map_some,Option.getD_some,hek,Instr.keyThatStays,yBv hkey,if_true,Sem.run_pure,hset]
    ·rw[r6]at hi;by_cases hij:i=j
     ·subst hij;rw[List.getElem?_set_self (by omega)]at hi
      cases hi;refine ⟨_,lz,by rw[Array.getElem?_modify,if_pos rfl,q1];rfl,rfl,hlz,hxv⟩
     ·rw[getElem?_set_ne (Ne.symm hij)]at hi;obtain ⟨e1,lv1,n1,n2,n3,n4⟩:=g3 i p' hi;exact ⟨e1,lv1,by rw[Array.getElem?_modify,if_neg (Ne.symm hij),n1],n2,n3,n4⟩
  ·cases hk
 ·cases hk
end
end Go.Vx
end
