import Derived.Test.YtpcnkpbpcebokaaGreatDoorVB
import Derived.Laws.MakeOwn
import Derived.Laws.CopyRow
import Derived.Lib.AppendStr
import Derived.Lib.UnsafeStr
import Derived.Laws.AppendOwn
set_option linter.all false
open List (drop_append drop_take ext_getElem? getElem?_append_left getElem?_eq_getElem getElem?_map getElem?_set getElem?_set_ne getElem?_set_self length_append length_cons length_drop length_map length_singleton length_take map_cons map_nil mem_append mem_cons mem_cons_self mem_map mem_of_getElem? mem_singleton nil_append size_toArray take_take toList_toArray)
open Option (bind_eq_some_iff map_eq_some_iff)
open Nat (add_mul le_refl le_trans mul_le_mul mul_le_mul_right succ_mul)
open Bool (and_eq_true false_eq_true)
section
namespace Go.Vx
open Go.RowKit
variable [GT]
section
variable {P:Program} {A0:Nat->Prop} {w0:Base} {ρ:Places} {s:St} {a:Act} {w w':World} {g:G} {R:Type} {K:SV->Option R} {r:R} {o:Oper}
theorem y0m{b:Builtin}{args:Array Operand}{ts:Array TypeId}(ho:o.op=.call { callee:=.builtin b,args,argTypes:=ts }) :
  (execOp a.eval o).run P w=(builtin b ts o.type (args.map λ|.const _=>true|_=>false) (args.map a.eval)).run P w:=by
 unfold execOp;simp only[ho,resolve,invoke,Sem.run_bind,Sem.run_pure,Result.andThen_ok];rfl
theorem y1T{t:TypeId}{i:TyI}(h:y0a P t i=true)(hty:i.ty.isSlice=true):∃ e,P.underlying t=some (.slice e):=by
 cases hi:i.ty<;>rw[hi]at hty<;>simp[Ty.isSlice]at hty
 ·exact ⟨_,(yS h (.inl hi)).1⟩
 ·exact ⟨_,(yS h (.inr hi)).1⟩
theorem yIA(hT:yw P g.T)(h:Rel P A0 w0 ρ s a w){t:TypeId}{i:TyI}(hi:yV g.T t=some i){sv:SV}{v:Value}(hx:yF P (Av A0 ρ s.cH) w ρ sv v){ty:TypeId}
  (hk:lenK i.ty s.cH sv K=some r):∃ n:Nat,(Builtin.len_ #[t] ty #[v]).run P w=.ok (.int .i64 n) w/\K (.val (.int .i64) (n:Int))=some r:=by
 unfold lenK at hk;split at hk
 ·split at hk
  ·rename_i hs;obtain ⟨e,hu⟩:=y1T (hT.shape hi) hs;obtain ⟨l,hl,rfl⟩:=hx;simp only[y6]at hl;obtain ⟨p,c,rfl,_⟩:=hl;exact ⟨_,by simp[Builtin.len_,run_underlying hu,Ty.wrap,Ty.agg,goInt],hk⟩
  ·cases hk
 ·split at hk
  ·rename_i hs;obtain ⟨e,hu⟩:=y1T (hT.shape hi) hs;obtain ⟨l,hl,rfl⟩:=hx;simp only[y6]at hl;obtain ⟨p,c,rfl,_⟩:=hl;exact ⟨_,by simp[Builtin.len_,run_underlying hu,Ty.wrap,Ty.agg,goInt],hk⟩
  ·cases hk
 ·split at hk
  ·rename_i bs hs;have hu:=y2U (hT.shape hi) hs;rw[y3Q hx];have hs:(⟨(bs:List UInt8).toArray⟩:ByteArray).size=(bs:List UInt8).length:=by simp[ByteArray.size]
   exact ⟨_,by simp only[Builtin.len_];simp[run_underlying hu,goInt,hs],hk⟩
  ·cases hk
 ·split at hk
  ·rename_i hs;obtain ⟨e,hu⟩:=y1T (hT.shape hi) hs;simp only[yF]at hx;subst hx;exact ⟨0,by simp[Builtin.len_,run_underlying hu,goInt],hk⟩
  ·cases hk
 ·split at hk
  ·rename_i β hs;obtain ⟨e,hu⟩:=y1T (hT.shape hi) hs;split at hk
   ·rename_i e' u xs nn hch;obtain ⟨hlen,_⟩:=(h.cH β _ (getD_some hch)).1;simp only[yF]at hx;subst hx;exact ⟨xs.length,by simp[Builtin.len_,run_underlying hu,goInt,hlen],hk⟩
   ·rename_i e' u q e2 v xs hch;obtain ⟨⟨hlen,_⟩,_⟩:=(h.cH β _ (getD_some hch)).1;simp only[yF]at hx;subst hx;exact ⟨xs.length,by simp[Builtin.len_,run_underlying hu,goInt,hlen],hk⟩
   ·cases hk
  ·cases hk
 ·split at hk
  ·rename_i β m hs;obtain ⟨e,hu⟩:=y1T (hT.shape hi) hs;split at hk
   ·rename_i e' u q e2 v' xs hch;obtain ⟨x,hx1,hk2⟩:=bind_eq_some_iff.1 hk;obtain ⟨ys,hys,hk3⟩:=bind_eq_some_iff.1 hk2;obtain ⟨q',hq',rfl⟩:=hx;obtain ⟨b,q2,l,hb,h0,h6,h7⟩:=y62 (h.cH β _ (getD_some hch)).1 hx1;rw[hq']at h0;cases h0;obtain ⟨ys',hys',_,_,h8,h9⟩:=h7.comp;rw[hys]at hys';cases hys';exact ⟨List.length ys,by simp[Builtin.len_,run_underlying hu,goInt,h8],hk3⟩
   ·cases hk
  ·cases hk
 ·split at hk
  ·rename_i n u hty;obtain ⟨hu,_⟩:=y3H (hT.shape hi) hty;exact ⟨n,by cases v<;>simp[Builtin.len_,run_underlying hu,goInt],hk⟩
  ·cases hk
theorem yLC(hT:yw P g.T)(h:Rel P A0 w0 ρ s a w){args:Array Operand}{ts:Array TypeId}(ho:o.op=.call { callee:=.builtin .len,args,argTypes:=ts })(hk:yh g s o K=some r):Yld P A0 ρ s a w o K r:=by
 simp only[yh,ho]at hk;split at hk
 ·rename_i x t hxs hts;split at hk
  ·rename_i i hi;have hx:=(y3 (T:=g.T) h t x).1;obtain ⟨n,h1,h2⟩:=yIA (ty:=o.type) hT h hi hx hk;have e1:args.map a.eval=#[a.eval x]:=by apply Array.toList_inj.1;simp[hxs]
   have e2:ts=#[t]:=by apply Array.toList_inj.1;simp[hts]
   refine Yld.here (sv:=.val (.int .i64) (n:Int)) (v:=.int .i64 n) ?_ (y24 _ _) trivial h2;rw[y0m ho,e1,e2];simp only[builtin,Sem.run_bind,h1,Result.andThen_ok,Sem.run_pure]
  ·cases hk
 ·cases hk
theorem y6g(h:Rel P A0 w0 ρ s a w){k:IntKind}{T:List (TypeId×TyI)}{t:TypeId}:∀ {l:List Operand} {r:List Int},yGL k (l.map λ x=>y9 T t s x)=some r->l.map a.eval=r.map (Value.int k)
 |[],r,h=>by cases h;rfl
 |x::l,r,hr=>by
  rw[map_cons]at hr;have hx:=(y3 (T:=T) h t x).1;unfold yGL at hr;split at hr
  ·rename_i he;cases he
  ·rename_i j n l' he;simp only[List.cons.injEq]at he;obtain ⟨he,rfl⟩:=he;rw[he]at hx;obtain ⟨hk,hr⟩:=y2S hr;subst hk;obtain ⟨r',hr',rfl⟩:=map_eq_some_iff.1 hr;rw[map_cons,map_cons,yy hx,y6g h hr']
  ·cases hr
theorem y9p(h:Rel P A0 w0 ρ s a w){mx:Bool}{args:Array Operand}{T:List (TypeId×TyI)}{t:TypeId}(hk:maxK mx (args.toList.map λ x=>y9 T t s x) K=some r) :
  ∃ (k:IntKind) (x:Int) (l:List Int) (y:Int),(args.map a.eval).toList=Value.int k x::l.map (Value.int k)/\y=l.foldl (λ a b=>if mx then (if b > a then b else a)else (if b < a then b else a)) x/\K (.val (.int k) y)=some r:=by
 unfold maxK at hk;have hl:(args.map a.eval).toList=args.toList.map a.eval:=by simp
 rw[hl];split at hk
 ·rename_i k x j y heq;obtain ⟨hkj,hk⟩:=y2S hk;subst hkj;match hargs:args.toList,heq with
  |[p,q],heq =>
   simp only[map_cons,map_nil,List.cons.injEq,and_true]at heq;have h1:=(y3 (T:=T) h t p).1;have h2:=(y3 (T:=T) h t q).1;rw[heq.1]at h1;rw[heq.2]at h2;exact ⟨k,x,[y],_,by simp[yy h1,yy h2],rfl,hk⟩
  |[],heq=>simp at heq
  |[_],heq=>simp at heq
  |_::_::_::_,heq=>simp at heq
 ·rename_i k x l' _ heq;obtain ⟨rs,hrs,hk2⟩:=bind_eq_some_iff.1 hk;clear hk;match hargs:args.toList,heq with
  |[],heq=>cases heq
  |p::q,heq =>
   simp only[map_cons,List.cons.injEq]at heq;obtain ⟨h0,rfl⟩:=heq;have h1:=(y3 (T:=T) h t p).1;rw[h0]at h1;have h2:=y6g h hrs;split at hk2
   ·refine ⟨k,x,_,_,by rw[map_cons,yy h1,h2],?_,hk2⟩
    cases mx<;>rfl
   ·refine ⟨k,x,_,_,by rw[map_cons,yy h1,h2],?_,hk2⟩
    cases mx<;>rfl
   ·cases hk2
 ·cases hk
theorem yG9(k:IntKind)(w:World):∀ (l:List Int) (x:Int),((l.map (Value.int k)).foldlM Builtin.max2 (Value.int k x)).run P w=.ok (.int k (l.foldl (λ a b=>if b > a then b else a) x)) w
 |[],x=>rfl
 |y::l,x=>by
  rw[map_cons,List.foldlM_cons,List.foldl_cons];simp only[Builtin.max2,Sem.run_bind,Sem.run_pure,Result.andThen_ok];exact yG9 k w l _
theorem yGN(k:IntKind)(w:World):∀ (l:List Int) (x:Int),((l.map (Value.int k)).foldlM Builtin.min2 (Value.int k x)).run P w=.ok (.int k (l.foldl (λ a b=>if b < a then b else a) x)) w
 |[],x=>rfl
 |y::l,x=>by
  rw[map_cons,List.foldlM_cons,List.foldl_cons];simp only[Builtin.min2,Sem.run_bind,Sem.run_pure,Result.andThen_ok];exact yGN k w l _
theorem yJO(h:Rel P A0 w0 ρ s a w){args:Array Operand}{ts:Array TypeId}(ho:o.op=.call { callee:=.builtin .max,args,argTypes:=ts })(hk:yh g s o K=some r):Yld P A0 ρ s a w o K r:=by
 simp only[yh,ho]at hk;obtain ⟨k,x,l,y,h1,h3,h2⟩:=y9p h hk;refine Yld.here (sv:=.val (.int k) y) (v:=.int k y) ?_ (y24 _ _) trivial h2;rw[y0m ho];have hm:=yG9 (P:=P) k w l x;simp only[if_true]at h3;rw[<- h3]at hm;simp only[builtin,Builtin.max_,h1,Sem.run_bind,hm,Result.andThen_ok,Sem.run_pure]
theorem yJH(h:Rel P A0 w0 ρ s a w){args:Array Operand}{ts:Array TypeId}(ho:o.op=.call { callee:=.builtin .min,args,argTypes:=ts })(hk:yh g s o K=some r):Yld P A0 ρ s a w o K r:=by
 simp only[yh,ho]at hk;obtain ⟨k,x,l,y,h1,h3,h2⟩:=y9p h hk;refine Yld.here (sv:=.val (.int k) y) (v:=.int k y) ?_ (y24 _ _) trivial h2;rw[y0m ho];have hm:=yGN (P:=P) k w l x;simp only[false_eq_true,if_false]at h3;rw[<- h3]at hm;simp only[builtin,Builtin.min_,h1,Sem.run_bind,hm,Result.andThen_ok,Sem.run_pure]
theorem yL1(h:Rel P A0 w0 ρ s a w){args:Array Operand}{T:List (TypeId×TyI)}{t:TypeId}{sv:SV}(he:(args.toList.map λ x=>y9 T t s x)=[sv]):∃ v,args.map a.eval=#[v]/\yF P (Av A0 ρ s.cH) w ρ sv v:=by
 match hargs:args.toList,he with
 |[p],he =>
  simp only[map_cons,map_nil,List.cons.injEq,and_true]at he;have h1:=(y3 (T:=T) h t p).1;rw[he]at h1;exact ⟨_,by apply Array.toList_inj.1;simp[hargs],h1⟩
 |[],he=>simp at he
 |_::_::_,he=>simp at he
theorem yIV(h:Rel P A0 w0 ρ s a w){args:Array Operand}{ts:Array TypeId}(ho:o.op=.call { callee:=.builtin .complex,args,argTypes:=ts })(hk:yh g s o K=some r):Yld P A0 ρ s a w o K r:=by
 simp only[yh,ho]at hk;unfold yM0 at hk;split at hk
 ·rename_i k x j y heq;split at hk
  ·rename_i hkj;subst hkj;match hargs:args.toList,heq with
   |[p,q],heq =>
    simp only[map_cons,map_nil,List.cons.injEq,and_true]at heq;have h1:=(y3 (T:=g.T) h o.type p).1;have h2:=(y3 (T:=g.T) h o.type q).1;rw[heq.1]at h1;rw[heq.2]at h2;obtain ⟨x,hx,rfl⟩:=y4E h1;obtain ⟨y,hy,rfl⟩:=y4E h2;have ea:args.map a.eval=#[.float k x,.float k y]:=by apply Array.toList_inj.1;simp[hargs,hx,hy]
    refine Yld.here (sv:=.val (.cplx k) (fcan k x,fcan k y)) (v:=.complex k x y) ?_ (yQ2 _ _ _) trivial hk;rw[y0m ho,ea];have hr:(Builtin.complex_ ts o.type #[.float k x,.float k y]).run P w=.ok (.complex k x y) w:=by
     have hdef:Builtin.complex_ ts o.type #[.float k x,.float k y]=(if k=k then pure (.complex k x y)else stuck "complex: parts of different kinds"):=rfl
     rw[hdef,if_pos rfl];rfl
    simp only[builtin,Sem.run_bind,hr,Result.andThen_ok,Sem.run_pure]
   |[],heq=>simp at heq
   |[_],heq=>simp at heq
   |_::_::_::_,heq=>simp at heq
  ·cases hk
 ·cases hk
theorem yHO(h:Rel P A0 w0 ρ s a w){args:Array Operand}{ts:Array TypeId}(ho:o.op=.call { callee:=.builtin .real,args,argTypes:=ts })(hk:yh g s o K=some r):Yld P A0 ρ s a w o K r:=by
 simp only[yh,ho]at hk;unfold yKF at hk;split at hk
 ·rename_i k z heq;obtain ⟨v,h1,h2⟩:=yL1 h heq;obtain ⟨p,q,rfl,hp,hq⟩:=y60 h2;refine Yld.here (sv:=.val (.flt k) z.1) (v:=.float k p) ?_ (hp ▸ y5I _ _) trivial hk;rw[y0m ho,h1];have hr:(Builtin.real_ ts o.type #[.complex k p q]).run P w=.ok (.float k p) w:=rfl;simp only[builtin,Sem.run_bind,hr,Result.andThen_ok,Sem.run_pure]
 ·cases hk
theorem yHt(h:Rel P A0 w0 ρ s a w){args:Array Operand}{ts:Array TypeId}(ho:o.op=.call { callee:=.builtin .imag,args,argTypes:=ts })(hk:yh g s o K=some r):Yld P A0 ρ s a w o K r:=by
 simp only[yh,ho]at hk;unfold yKX at hk;split at hk
 ·rename_i k z heq;obtain ⟨v,h1,h2⟩:=yL1 h heq;obtain ⟨p,q,rfl,hp,hq⟩:=y60 h2;refine Yld.here (sv:=.val (.flt k) z.2) (v:=.float k q) ?_ (hq ▸ y5I _ _) trivial hk;rw[y0m ho,h1];have hr:(Builtin.imag_ ts o.type #[.complex k p q]).run P w=.ok (.float k q) w:=rfl;simp only[builtin,Sem.run_bind,hr,Result.andThen_ok,Sem.run_pure]
 ·cases hk
theorem yDc{α:Type}{c:Prop}[Decidable c]{x:Option α}{y:α}(h:(if c then x else none)=some y):c/\x=some y:=by
 split at h
 ·exact ⟨‹_›,h⟩
 ·cases h
theorem y6l{k:Ty}(hk:k.keyAll=true):k.keyOk=true\/k.keyF=true:=by
 unfold Ty.keyAll at hk;cases h:k.keyOk with
 |true=>exact .inl rfl
 |false=>rw[h]at hk;exact .inr hk
theorem yK1{k:Ty}(hk:k.keyOk=true):k.keyAll=true:=by simp[Ty.keyAll,hk]
theorem y4N{A:Nat->Prop}:∀ {k:Ty} {x:k.den} {l:List Value},k.keyF=true->(y6 P k A w x l ↔ l=k.flatV x)
 |.unit,_,_,_=>by simp[y6,Ty.flatV]
 |.pair a b,x,l,hk=>by
  have hk':a.keyPart=true/\b.keyF=true:=by simpa[Ty.keyF]using hk
  have hb:=λ {l:List Value}=>y4N (A:=A) (k:=b) (x:=x.2) (l:=l) hk'.2
  have ha:∀ {l:List Value},y6 P a A w x.1 l ↔ l=a.flatV x.1:=by
   intro l;cases a<;>first|(simp only[y6,Ty.flatV];done)|(cases hk'.1;done)|(simp[y6,Ty.flatV])
  simp only[y6,Ty.flatV];constructor
  ·rintro ⟨l1,l2,rfl,h1,h2⟩
   rw[ha.1 h1,hb.1 h2]
  ·intro h;exact ⟨_,_,h,ha.2 rfl,hb.2 rfl⟩
theorem yMs{A:Nat->Prop}{k:Ty}{x:k.den}{l:List Value}(hk:k.keyAll=true):y6 P k A w x l ↔ l=k.flatV x:=by
 rcases y6l hk with hk|hk
 ·cases k<;>first|(cases hk;done)|(simp[y6,Ty.flatV])
 ·exact y4N hk
theorem yBo{A:Nat->Prop}{k:Ty}{x:k.den}{l:List Value}(hk:k.keyAll=true)(h:y6 P k A w x l):k.wrap l=yq k x:=by
 rw[(yMs hk).1 h];rfl
theorem y92(a b:List UInt8):((⟨a.toArray⟩:ByteArray) == ⟨b.toArray⟩)=(a == b):=by
 show (a.toArray == b.toArray)=(a == b)
 simp
structure KeyD (P:Program) (kt:TypeId) (k:Ty):Prop where
 eqv:∀ x y:k.den,eqV k x y=true->x=y
 check:∀ (w:World) (e:Bool) (x:k.den),(Instr.checkKey e 10000 kt (yq k x)).run P w=.ok () w
 nil:∀ (w:World) (y:k.den),(Instr.findKey kt (yq k y) []).run P w=.ok none w
 find:∀ {v:Ty} (y:k.den) (ms:List MapEntry) (es:List (k.den×v.den)),ms.length=es.length ->
  (∀ (j:Nat) (e:MapEntry) (x:k.den×v.den),ms[j]?=some e->es[j]?=some x->e.key=yq k x.1) ->
  ((∀ w,(Instr.findKey kt (yq k y) ms).run P w=.ok none w)/\y0T k v es y=none/\∀ z,y1X k v es y z=es++[(y,z)]) \/
  ∃ (j:Nat) (e:MapEntry) (x:k.den×v.den),ms[j]?=some e/\es[j]?=some x/\x.1=y/\(∀ w,(Instr.findKey kt (yq k y) ms).run P w=.ok (some (j,e.val)) w)/\y0T k v es y=some x.2/\∀ z,y1X k v es y z=es.set j (y,z)
theorem yBF{k v:Ty}(F:List MapEntry->Nat->Option (Nat×Value)->Prop)(y:k.den)(hnil:∀ i,F [] i none)(heq:∀ x:k.den,eqV k y x=true->y=x)
  (hyes:∀ (e:MapEntry) (x:k.den) (ms:List MapEntry) (i:Nat),e.key=yq k x->eqV k y x=true->F (e::ms) i (some (i,e.val)))
  (hno:∀ (e:MapEntry) (x:k.den) (ms:List MapEntry) (i:Nat) (o:Option (Nat×Value)),e.key=yq k x->eqV k y x=false->F ms (i+1) o->F (e::ms) i o) :
  ∀ (ms:List MapEntry) (es:List (k.den×v.den)) (i:Nat),ms.length=es.length ->
  (∀ (j:Nat) (e:MapEntry) (x:k.den×v.den),ms[j]?=some e->es[j]?=some x->e.key=yq k x.1) ->
  (F ms i none/\y0T k v es y=none/\∀ z,y1X k v es y z=es++[(y,z)]) \/
  ∃ (j:Nat) (e:MapEntry) (x:k.den×v.den),ms[j]?=some e/\es[j]?=some x/\x.1=y/\F ms i (some (i+j,e.val))/\y0T k v es y=some x.2/\∀ z,y1X k v es y z=es.set j (y,z)
 |[],[],i,_,_=>.inl ⟨hnil i,rfl,λ _=>rfl⟩
 |[],_::_,_,h,_=>by simp at h
 |_::_,[],_,h,_=>by simp at h
 |e::ms,x::es,i,h,hm=>by
  have h0:e.key=yq k x.1:=hm 0 e x rfl rfl;have ih:=yBF F y hnil heq hyes hno ms es (i+1) (by simpa using h) (λ j e' x' h1 h2=>hm (j+1) e' x' (by simpa using h1) (by simpa using h2))
  cases hq:eqV k y x.1 with
  |true =>
   refine .inr ⟨0,e,x,rfl,rfl,(heq _ hq).symm,?_,?_,λ z=>?_⟩
   ·simpa using hyes e x.1 ms i h0 hq
   ·simp[y0T,hq]
   ·simp[y1X,hq]
  |false =>
   rcases ih with ⟨h1,h2,h3⟩|⟨j,e',x',h1,h2,h3,h4,h5,h6⟩
   ·exact .inl ⟨hno e x.1 ms i _ h0 hq h1,by simp[y0T,hq,h2],λ z=>by simp[y1X,hq,h3]⟩
   ·refine .inr ⟨j+1,e',x',by simpa using h1,by simpa using h2,h3,?_,by simp[y0T,hq,h5],λ z=>by simp[y1X,hq,h6]⟩
    have:=hno e x.1 ms i _ h0 hq h4;rwa[show i+1+j=i+(j+1) by omega]at this
theorem yGh{kt:TypeId}{k:Ty}{d:TypeDesc}(hu:P.underlying kt=some d)(hv:∀ x y:k.den,eqV k x y=true->x=y)(hs:∀ x y:k.den,Instr.sameNow d (yq k x) (yq k y)=some (eqV k x y))
  (hc:∀ (w:World) (e:Bool) (x:k.den),(Instr.checkKey e 10000 kt (yq k x)).run P w=.ok () w):KeyD P kt k where
 eqv:=hv
 check:=hc
 nil w y:=by simp[Instr.findKey,run_underlying hu,Instr.findNow]
 find {v} y ms es hl hm:=by
  have run:∀ {r:Option (Nat×Value)},Instr.findNow d (yq k y) ms 0=some r->∀ w,(Instr.findKey kt (yq k y) ms).run P w=.ok r w:=by
   intro r h w;simp[Instr.findKey,run_underlying hu,h]
  rcases yBF (v:=v) (λ ms i o=>Instr.findNow d (yq k y) ms i=some o) y (λ _=>rfl) (hv y)
   (λ e x ms i h0 hq=>by simp[Instr.findNow,h0,hs,hq]) (λ e x ms i o h0 hq h=>by simp[Instr.findNow,h0,hs,hq,h]) ms es 0 hl hm with ⟨h1,h2,h3⟩|⟨j,e,x,h1,h2,h3,h4,h5,h6⟩
  ·exact .inl ⟨run h1,h2,h3⟩
  ·exact .inr ⟨j,e,x,h1,h2,h3,by simpa using run h4,h5,h6⟩
theorem yBM:∀ {k:Ty} (x y:k.den),k.keyF=true->eqV k x y=true->x=y
 |.unit,_,_,_,_=>rfl
 |.pair a b,x,y,hk,h=>by
  have hk':a.keyPart=true/\b.keyF=true:=by simpa[Ty.keyF]using hk
  have h':eqV a x.1 y.1=true/\eqV b x.2 y.2=true:=by simpa[eqV]using h
  have h2:=yBM x.2 y.2 hk'.2 h'.2;have h1:x.1=y.1:=by
   have h3:=h'.1;cases a<;>first|(cases hk'.1;done)|(simp only[eqV]at h3;exact eq_of_beq h3)
  exact Prod.ext h1 h2
theorem yIg{m:Nat}{e:Bool}{d:Nat}{t:TypeId}{a:Ty}(hp:a.keyPart=true)(hc:cmpB P m t a=true)(v:Value)(w:World):(Instr.checkKey e (d+1) t v).run P w=.ok () w:=by
 have hd:∃ q,P.underlying t=some q/\(q=.bool\/q=.string\/∃ j,q=.int j):=by
  cases m with
  |zero=>cases hc
  |succ m =>
   cases hu:P.underlying t with
   |none=>cases a<;>first|(cases hp;done)|(simp[cmpB,hu]at hc)
   |some q =>
    refine ⟨q,rfl,?_⟩;cases a<;>first|(cases hp;done)|skip
    all_goals
     simp only[cmpB,hu]at hc;cases q<;>first|(cases hc;done)|simp
 obtain ⟨q,hu,hq⟩:=hd;unfold Instr.checkKey;simp only[Sem.run_bind,run_underlying hu,Result.andThen_ok];rcases hq with rfl|rfl|⟨j,rfl⟩<;>rfl
theorem y6i{m:Nat}{e:Bool}{d:Nat}:∀ (fs:List Field) (off:Nat) (k:Ty) (cs:Array Value),k.keyF=true->cmpF P (cmpB P m) fs off k=true->off+k.size<=cs.size ->
  ∀ w,(forIn fs PUnit.unit λ (f:Field) (_:PUnit)=>(do
   if f.name ≠ "_" then Instr.checkKey e (d+1) f.type (<- part f.type cs f.offset)
   pure (ForInStep.yield PUnit.unit):Sem (ForInStep PUnit))).run P w=.ok PUnit.unit w
 |[],_,_,_,_,_,_,w=>by simp
 |f::fs,off,k,cs,hk,hc,hl,w=>by
  cases k;case pair a b =>
   have hk':a.keyPart=true/\b.keyF=true:=by simpa[Ty.keyF]using hk
   simp only[cmpF,and_eq_true,Bool.not_eq_true',beq_eq_false_iff_ne,beq_iff_eq]at hc;obtain ⟨⟨⟨⟨c1,c2⟩,c3⟩,c4⟩,c5⟩:=hc;simp only[Ty.size]at hl;have p1:=y2f (w:=w) (y0j c3) (cs:=cs) (off:=f.offset) (by omega)
   have p2:(Instr.checkKey e (d+1) f.type (a.wrap ((cs.toList.drop f.offset).take a.size))).run P w=.ok () w:=by
    exact yIg hk'.1 c4 _ w
   have ih:=y6i (m:=m) (e:=e) (d:=d) fs (off+a.size) b cs hk'.2 c5 (by omega) w
   simp only[List.forIn_cons,Sem.run_bind,c1,ne_eq,not_false_eq_true,if_true,Result.andThen_ok,p1,p2,Sem.run_pure];exact ih
  all_goals simp[cmpF]at hc
theorem yE8{kt:TypeId}{k:Ty}{fs:Array Field}(hu:P.underlying kt=some (.struct fs))(hF:k.keyF=true)(hc:cmpB P 30 kt k=true):KeyD P kt k:=by
 have hag:k.agg=true:=by cases k<;>first|rfl|(cases hF;done)
 have hfs:cmpF P (cmpB P 29) fs.toList 0 k=true:=by
  cases k<;>first|(cases hF;done)|skip
  all_goals
   simp only[cmpB,hu,and_eq_true]at hc;exact hc.2
 have hsz:∀ x:k.den,(k.flatV x).length=k.size:=λ x=>((y4N (P:=P) (w:=default) (A:=λ _=>False) (x:=x) hF).2 rfl).length
 have heq:∀ (w:World) (x y:k.den),(Op.equal kt (yq k x) (yq k y)).run P w=.ok (eqV k x y) w:=λ w x y =>
  y4H (w:=w) 9970 30 hc ((y4N (A:=λ _=>False) hF).2 rfl) ((y4N hF).2 rfl)
 refine ⟨λ x y=>yBM x y hF,λ w e x=>?_,λ w y=>?_,λ {v} y ms es hl hm=>?_⟩
 ·show (Instr.checkKey e (9998+1+1) kt (yq k x)).run P w=.ok () w
  unfold Instr.checkKey yq Ty.wrap;rw[if_pos hag];simp only[Sem.run_bind,run_underlying hu,Result.andThen_ok];rw[<- Array.forIn_toList];have:=y6i (e:=e) (d:=9998) fs.toList 0 k (k.flatV x).toArray hF hfs (by simp[hsz]) w
  simp at this ⊢;rw[this];rfl
 ·simp[Instr.findKey,run_underlying hu,Instr.findNow]
 ·have run:∀ {r:Option (Nat×Value)},(∀ w,(Instr.findAsking kt (yq k y) ms 0).run P w=.ok r w)->ms≠[]->∀ w,(Instr.findKey kt (yq k y) ms).run P w=.ok r w:=by
   intro r h hne w;cases ms with
   |nil=>exact absurd rfl hne
   |cons e ms =>
    have hn:Instr.findNow (.struct fs) (yq k y) (e::ms) 0=none:=by
     simp[Instr.findNow,Instr.sameNow]
    simp only[Instr.findKey,Sem.run_bind,run_underlying hu,Result.andThen_ok,hn,h w]
  rcases yBF (v:=v) (λ ms i o=>∀ w,(Instr.findAsking kt (yq k y) ms i).run P w=.ok o w) y (λ _ w=>by simp[Instr.findAsking]) (λ x=>yBM y x hF)
   (λ e x ms i h0 hq w=>by simp[Instr.findAsking,h0,heq,hq]) (λ e x ms i o h0 hq h w=>by simp[Instr.findAsking,h0,heq,hq,h w]) ms es 0 hl hm with ⟨h1,h2,h3⟩|⟨j,e,x,h1,h2,h3,h4,h5,h6⟩
  ·refine .inl ⟨?_,h2,h3⟩;by_cases hne:ms=[]
   ·subst hne;intro w;simp[Instr.findKey,run_underlying hu,Instr.findNow]
   ·exact run h1 hne
  ·refine .inr ⟨j,e,x,h1,h2,h3,?_,h5,h6⟩;simpa using run h4 (by rintro rfl;simp at h1)
theorem y87{t:TypeId}{i:TyI}{k v:Ty}(h:y0a P t i=true)(hi:i.ty=.map k v) :
  ∃ kt et dk,P.underlying t=some (.map kt et)/\Fits P kt k/\Fits P et v/\P.underlying kt=some dk/\KeyD P kt k:=by
 unfold y0a at h;rw[hi]at h;split at h<;>first|(cases h;done)|skip
 all_goals rename_i e1 e2
 all_goals first|(cases e1;done)|skip
 all_goals try (simp at e1;done)
 case _ => 
  cases e1;simp only[and_eq_true]at h;obtain ⟨⟨h1,h2⟩,h3⟩:=h;have chk:∀ {kt:TypeId} {d:TypeDesc} {k:Ty},P.underlying kt=some d->(d=.string\/∃ j,d=.int j)->∀ (w:World) (e:Bool) (x:k.den),(Instr.checkKey e 10000 kt (yq k x)).run P w=.ok () w:=by
   intro kt d k hu hd w e x;show (Instr.checkKey e (9999+1) kt _).run P w=.ok () w
   unfold Instr.checkKey;simp only[Sem.run_bind,run_underlying hu,Result.andThen_ok];rcases hd with rfl|⟨j,rfl⟩<;>rfl
  split at h3
  ·rename_i hu;refine ⟨_,_,_,e2,y0j h1,y0j h2,hu,yGh hu (λ x y hq=>?_) (λ x y=>?_) (chk hu (.inl rfl))⟩
   ·simp only[eqV]at hq;exact eq_of_beq hq
   ·simp only[yq,Ty.wrap,Ty.agg,Ty.flatV,List.headD,Instr.sameNow,eqV,y92,false_eq_true,if_false]
  ·rename_i j l hu;have hj:j=l:=by simpa using h3
   subst hj;refine ⟨_,_,_,e2,y0j h1,y0j h2,hu,yGh hu (λ x y hq=>?_) (λ x y=>?_) (chk hu (.inr ⟨_,rfl⟩))⟩
   ·simp only[eqV]at hq;exact eq_of_beq hq
   ·simp only[yq,Ty.wrap,Ty.agg,Ty.flatV,List.headD,Instr.sameNow,eqV,if_true,false_eq_true,if_false]
  ·rename_i fs hu;simp only[and_eq_true]at h3;exact ⟨_,_,_,e2,y0j h1,y0j h2,hu,yE8 hu h3.1 h3.2⟩
  ·cases h3
theorem y2A{b:Nat}{ms:Array MapEntry}{c:Nat}(h:w.heap[b]?=some (.map ms c)):(getObj b).run P w=.ok (.map ms c) w:=by
 simp[getObj,Sem.run,h]
theorem yFE(h:Rel P A0 w0 ρ s a w){sv:SV}{v:Value}{u e:Ty}{es:List (u.den×e.den)}(hs:yF P (Av A0 ρ s.cH) w ρ sv v)(hm:yBO s.cH sv=some ⟨.map u e,es⟩) :
  (v=.map none/\es=[])\/∃ (b:Nat) (ms:Array MapEntry) (c:Nat),v=.map (some b)/\w.heap[b]?=some (.map ms c)/\ms.size=es.length /\
   ∀ (i:Nat) (x:u.den×e.den),es[i]?=some x->∃ (m:MapEntry) (lv:List Value),ms[i]?=some m/\m.key=yq u x.1/\y6 P e (Av A0 ρ s.cH) w x.2 lv/\m.val=e.wrap lv:=by
 unfold yBO at hm;split at hm
 ·cases hm;obtain ⟨l,hl,rfl⟩:=hs;simp only[y6]at hl;rcases hl with ⟨rfl,rfl⟩|⟨b,ms,c,rfl,_,h1,h2,h3⟩
  ·exact .inl ⟨rfl,rfl⟩
  ·exact .inr ⟨b,ms,c,rfl,h1,h2,h3⟩
 ·rename_i β;unfold y5v at hm;split at hm
  ·rename_i hch;cases hm;obtain ⟨b,ms,c,hb,h1,h2,h3⟩:=(h.cH β _ (getD_some hch)).1;simp only[yF]at hs;exact .inr ⟨b,ms,c,by rw[hs,hb],h1,h2,h3⟩
  ·cases hm
 ·cases hm
theorem y3J{A:Nat->Prop}{n:Nat}{k v:Ty}{es:List (k.den×v.den)}{y:k.den}{ok:Bool}{b:Bool}{x:v.den}{lx:List Value}(hx:y6 P v A w x lx)(h1:(y0T k v es y).getD v.dflt=x)(h2:(y0T k v es y).isSome=b)
  (hk:yBK k v es y ok K=some r):∃ sv,yF P A w ρ sv (if ok then .tuple #[v.wrap lx,.bool b]else v.wrap lx)/\sv.inn n/\K sv=some r:=by
 unfold yBK at hk;rw[h1,h2]at hk;cases ok with
 |true =>
  refine ⟨.tup (.pair v (.pair .bool .unit)) (x,b,()),⟨lx++([.bool b]++[]),⟨lx,_,rfl,hx,[.bool b],[],rfl,rfl,rfl⟩,?_⟩,trivial,hk⟩;have e1:(lx++([Value.bool b]++[])).take v.size=lx:=by rw[<- hx.length,List.take_left]
  have e2:(lx++([Value.bool b]++[])).drop v.size=[Value.bool b]++[]:=by rw[<- hx.length,List.drop_left]
  simp only[Ty.group,e1,e2];rfl
 |false=>exact ⟨.val v x,⟨lx,hx,rfl⟩,trivial,hk⟩
omit [GT] in
theorem yCX{k:Ty}(hk:k.keyOk=true)(x y:k.den):yIC k x y=eqV k x y:=by
 cases k<;>first|rfl|cases hk
omit [GT] in
theorem y94{k v:Ty}{y:k.den}:∀ {es:List (k.den×v.den)},y0T k v es y=none->∀ x∈es,eqV k y x.1=false
 |[],_,_,h=>by cases h
 |p::l,h,x,hx=>by
  simp only[y0T]at h;cases hq:eqV k y p.1 with
  |true=>rw[hq]at h;cases h
  |false =>
   rw[hq]at h;rcases mem_cons.1 hx with rfl|hx
   ·exact hq
   ·exact y94 h x hx
theorem y81{cs:List (Option Chunk)}{sv:SV}{hv:HoleV}(h:y8x cs sv=some hv):∃ β e es,sv=.mO β/\cs[β]?=some (some (.mps hv.k e hv.u es (some (hv.x,hv.γ)))):=by
 unfold y8x at h;split at h
 ·rename_i β;split at h
  ·rename_i hch;cases h;exact ⟨β,_,_,rfl,getD_some hch⟩
  ·cases h
 ·cases h
theorem yDm(hT:yw P g.T)(h:Rel P A0 w0 ρ s a w){t:TypeId}{x ix:Operand}{ok:Bool}(ho:o.op=.lookup t x ix ok)(hk:yh g s o K=some r):Yld P A0 ρ s a w o K r:=by
 simp only[yh,ho]at hk;have hex:execOp a.eval o=(do pure (.value (<- Instr.lookup t (a.eval x) (a.eval ix) ok))):=by simp only[execOp,ho]
 split at hk
 ·rename_i i k v es hi hm;obtain ⟨⟨hty,hkey,hz⟩,hk⟩:=yDc hk;obtain ⟨y,hy,hk⟩:=bind_eq_some_iff.1 hk;obtain ⟨kt,et,dk,h1,h2,h3,h4,h5⟩:=y87 (hT.shape hi) hty;obtain ⟨inf,z,f1,f2,f3,f4,f5⟩:=y1F h3 hz;obtain ⟨ly,hly,hiv⟩:=y01 (y3 (T:=g.T) h 0 ix).1 hy;rw[yBo hkey hly]at hiv;have hzero:(zeroValue et).run P w=.ok (v.wrap v.zeroV) w:=by rw[y3N f1 f2,f5]
  have hzc:y6 P v (Av A0 ρ s.cH) w v.dflt v.zeroV:=y3I v hz;rcases yFE h (y3 (T:=g.T) h t x).1 hm with ⟨hv,rfl⟩|⟨b,ms,c,hv,g1,g2,g3⟩
  ·obtain ⟨sv,q1,q2,q3⟩:=y3J (ρ:=ρ) (n:=s.cH.length) (b:=false) hzc rfl rfl hk;refine Yld.of_run hex ?_ q1 q2 q3;have hf:=h5.nil w y;rw[hv,hiv];unfold Instr.lookup;simp only[Sem.run_bind,run_underlying h1,Result.andThen_ok,Sem.run_pure,h5.check,hf,hzero]
  ·have hkeys:∀ (j:Nat) (e:MapEntry) (p:k.den×v.den),ms.toList[j]?=some e->es[j]?=some p->e.key=yq k p.1:=by
    intro j e p he hp;obtain ⟨m,lv,r1,r2,r3,r4⟩:=g3 j p hp;rw[Array.getElem?_toList,r1]at he;cases he;exact r2
   rcases h5.find y ms.toList es (by simpa using g2) hkeys with ⟨r1,r2,_⟩|⟨j,e,p,r1,r2,r3,r4,r5,_⟩
   ·obtain ⟨sv,q1,q2,q3⟩:=y3J (ρ:=ρ) (n:=s.cH.length) (b:=false) hzc (by rw[r2];rfl) (by rw[r2];rfl) hk
    refine Yld.of_run hex ?_ q1 q2 q3;rw[hv,hiv];unfold Instr.lookup;simp only[Sem.run_bind,run_underlying h1,Result.andThen_ok,Sem.run_pure,y2A g1,h5.check,r1,hzero]
   ·obtain ⟨m,lv,n1,n2,n3,n4⟩:=g3 j p r2;rw[Array.getElem?_toList,n1]at r1;cases r1;obtain ⟨sv,q1,q2,q3⟩:=y3J (ρ:=ρ) (n:=s.cH.length) (b:=true) n3 (by rw[r5];rfl) (by rw[r5];rfl) hk
    refine Yld.of_run hex ?_ q1 q2 q3;rw[hv,hiv];unfold Instr.lookup;simp only[Sem.run_bind,run_underlying h1,Result.andThen_ok,Sem.run_pure,y2A g1,h5.check,r4,n4]
 ·rename_i i hi hm;split at hk
  ·rename_i hv hh;obtain ⟨⟨hok,hty,hkey⟩,hk1⟩:=yDc hk;clear hk;subst hok;obtain ⟨y,hy,hk⟩:=bind_eq_some_iff.1 hk1;cases hq:yIC hv.k hv.x y with
   |false=>rw[hq]at hk;cases hk
   |true =>
   rw[hq]at hk;simp only[cond_true]at hk;obtain ⟨kt,et,dk,h1,h2,h3,h4,h5⟩:=y87 (hT.shape hi) hty;obtain ⟨inf,z,f1,f2,f3,f4,f5⟩:=y1F h3 (by rfl)
   obtain ⟨ly,hly,hiv⟩:=y01 (y3 (T:=g.T) h 0 ix).1 hy;rw[yBo (yK1 hkey) hly]at hiv;have hzero:(zeroValue et).run P w=.ok (Value.slice none 0 0) w:=by rw[y3N f1 f2,f5];rfl
   obtain ⟨β,e,es,hsv,hc⟩:=y81 hh;have hmv:=(y3 (T:=g.T) h t x).1;rw[hsv]at hmv;obtain ⟨b,ms,c,hb,g1,g2,⟨_,g3⟩,g4⟩:=(h.cH β _ hc).1;simp only[yF]at hmv;rw[hb]at hmv;have hkeys:∀ (j:Nat) (e:MapEntry) (p:hv.k.den×List hv.u.den),ms.toList[j]?=some e->es[j]?=some p->e.key=yq hv.k p.1:=by
    intro j e p he hp;obtain ⟨m,o',r1,_,r2,_⟩:=g4 j p hp;rw[Array.getElem?_toList,r1]at he;cases he;exact r2
   have hxy:hv.x=y:=h5.eqv _ _ (by rw[<- yCX hkey];exact hq)
   have hin:(SV.own hv.γ).inn s.cH.length:=h.cN β _ hc _ rfl;rcases h5.find (v:=.slice hv.u) y ms.toList es (by simpa using g2.1) hkeys with ⟨r1,r2,_⟩|⟨j,e',p,r1,r2,r3,r4,r5,_⟩
   ·refine Yld.of_run (sv:=.own hv.γ) (v:=.slice none 0 0) hex ?_ ?_ hin hk
    ·rw[hmv,hiv];unfold Instr.lookup;simp only[Sem.run_bind,run_underlying h1,Result.andThen_ok,Sem.run_pure,y2A g1,h5.check,r1,hzero];rfl
    ·obtain ⟨e1,e2,e3⟩:=g3 (hv.x,hv.γ) rfl (λ p hp=>by
      have:=y94 r2 p hp;simp only[yIb,hxy];rw[yCX hkey];exact this)
     simp only[yF];rw[e1,e2,e3];rfl
   ·obtain ⟨m,o',n1,n2,n3,n4⟩:=g4 j p r2;rw[Array.getElem?_toList,n1]at r1;cases r1;have hhole:yIb hv.k (some (hv.x,hv.γ)) p.1=true:=by
     simp only[yIb,r3];exact hq
    rcases n4 with ⟨q,hq1,_,_,n5⟩|⟨n5,_⟩
    ·cases hq1;refine Yld.of_run (sv:=.own hv.γ) (v:=e'.val) hex ?_ n5 hin hk;rw[hmv,hiv];unfold Instr.lookup;simp only[Sem.run_bind,run_underlying h1,Result.andThen_ok,Sem.run_pure,y2A g1,h5.check,r4];rfl
    ·rw[hhole]at n5;cases n5
  ·cases hk
 ·cases hk
theorem y8n(h:Rel P A0 w0 ρ s a w){args:Array Operand}{ts:Array TypeId}(ho:o.op=.call { callee:=.builtin .unsafeSliceData,args,argTypes:=ts })(hk:yh g s o K=some r):Yld P A0 ρ s a w o K r:=by
 simp only[yh,ho]at hk;split at hk
 ·rename_i x hxs;have hx:=y3 (T:=g.T) h 0 x;have e1:args.map a.eval=#[a.eval x]:=by apply Array.toList_inj.1;simp[hxs]
  unfold y9L at hk;split at hk
  ·rename_i β he;rw[he]at hx;split at hk
   ·rename_i e xs nn hch;obtain ⟨hlen,_,h3⟩:=(h.cH β _ (getD_some hch)).1;cases hd:decide (0 < List.length xs)with
    |false=>rw[hd]at hk;cases hk
    |true =>
    rw[hd]at hk;simp only[cond_true]at hk;have hd:=of_decide_eq_true hd;rcases h3 with ⟨_,h4,_⟩|⟨b,vs,hb,h4,h5,h6,h7,h8⟩
    ·omega
    ·have hv:a.eval x=.slice (some ⟨b,0,none⟩) (ρ β).len (ρ β).cap:=by
      have:=hx.1;simp only[yF,hb]at this;exact this
     refine Yld.here (sv:=.eP β 0 1 0) (v:=.pointer (some ⟨b,0,none⟩)) ?_ ⟨b,hb,rfl⟩ hx.2 hk;rw[y0m ho,e1,hv];have hc:(ρ β).cap≠0:=by omega
     have hr:(Builtin.unsafeSliceData_ ts o.type #[.slice (some ⟨b,0,none⟩) (ρ β).len (ρ β).cap]).run P w=.ok (.pointer (some ⟨b,0,none⟩)) w:=by
      have hdef:Builtin.unsafeSliceData_ ts o.type #[.slice (some ⟨b,0,none⟩) (ρ β).len (ρ β).cap]=(if (ρ β).cap≠0 then pure (.pointer (some ⟨b,0,none⟩))else do
       if (<- viewAt b).isSome then pure (.pointer (some ⟨b,0,none⟩))else pure (.pointer (some ⟨<- newObj (.view ⟨b,0,none⟩ (<- elemOf o.type)),0,none⟩))):=rfl
      rw[hdef,if_pos hc];rfl
     simp only[builtin,Sem.run_bind,hr,Result.andThen_ok,Sem.run_pure]
   ·cases hk
  ·cases hk
 ·cases hk
theorem y8P(hE:∀ e∈g.E,FnOK P e)(hT:yw P g.T)(h:Rel P A0 w0 ρ s a w)(hk:yh g s o K=some r):Yld P A0 ρ s a w o K r:=by
 cases ho:o.op with
 |move x=>exact yIa (g:=g) h (.inl ho) (by simpa only[yh,ho]using hk)
 |assign x=>exact yDR (g:=g) h ho (by simpa only[yh,ho]using hk)
 |pick c x y=>exact yIh h ho hk
 |load t x=>exact yHI hT h ho hk
 |binOp op t x y yt=>exact yEp hT h ho hk
 |unOp op t x=>exact yIq h ho hk
 |convert sr d x=>exact yAk hT h ho hk
 |field t x f=>exact yED hT h ho hk
 |fieldAddr t x f=>exact y8o hT h ho hk
 |indexAddr t x ix=>exact y88 hT h ho hk
 |index t x ix=>exact yEv hT h ho hk
 |lookup t x ix ok=>exact yDm hT h ho hk
 |extract x n=>exact yAn h ho hk
 |box e x=>exact yM3 h ho hk
 |build t ps=>exact yEU hE hT h ho hk
 |buildSlice t n ps=>exact y71 hE hT h ho hk
 |makeFunc fn first caps=>exact y9J hE h ho hk
 |slice t x lo hi mx=>exact yBN hT h ho hk
 |nilCheck x=>exact y9H h ho hk
 |call c =>
  obtain ⟨callee,args,ts⟩:=c;cases callee with
  |builtin b =>
   cases b with
   |len=>exact yLC hT h ho hk
   |max=>exact yJO h ho hk
   |min=>exact yJH h ho hk
   |complex=>exact yIV h ho hk
   |real=>exact yHO h ho hk
   |imag=>exact yHt h ho hk
   |unsafeSliceData=>exact y8n h ho hk
   |_=>simp[yh,ho]at hk
  |_=>simp[yh,ho]at hk
 |_=>simp[yh,ho]at hk
end
end Go.Vx
end
section
namespace Go.Vx
open Go.RowKit
variable [GT]
section
variable {P:Program} {A0:Nat->Prop} {w0:Base} {ρ:Places} {s:St} {a:Act} {w w':World} {g:G}
theorem yz{cs:List (Option Chunk)}{β γ:Nat}{f:SV->SV}{ch':Chunk}(h:((cs.set β none).map (Option.map (Chunk.map f)))[γ]?=some (some ch')) :
  γ≠β/\∃ ch,cs[γ]?=some (some ch)/\ch'=ch.map f:=by
 rw[getElem?_map,map_eq_some_iff]at h;obtain ⟨o,h1,h2⟩:=h;rw[map_eq_some_iff]at h2;obtain ⟨ch,rfl,rfl⟩:=h2;by_cases hb:β=γ
 ·subst hb;rw[getElem?_set]at h1;simp at h1
 ·rw[getElem?_set_ne hb]at h1;exact ⟨λ e=>hb e.symm,ch,h1,rfl⟩
theorem y0f{β:Nat}{f:SV->SV}{n:Nat}(h:Av A0 ρ ((s.cH.set β none).map (Option.map (Chunk.map f))) n):Av A0 ρ s.cH n:=by
 rcases h with (h|⟨γ,c,hc,hb⟩)|⟨γ,c,hc,hb⟩
 ·exact .inl (.inl h)
 ·obtain ⟨_,ch,h1,_⟩:=yz hc;exact .inl (.inr ⟨γ,ch,h1,hb⟩)
 ·obtain ⟨_,ch,h1,_⟩:=yz hc;exact .inr ⟨γ,ch,h1,hb⟩
theorem Rel.free(h:Rel P A0 w0 ρ s a w){β:Nat}{ch:Chunk}(hc:s.cH[β]?=some (some ch)){f:SV->SV}{b:Nat}(hb:(ρ β).blk=some b):¬ Av A0 ρ ((s.cH.set β none).map (Option.map (Chunk.map f))) b:=by
 rintro ((h0|⟨γ,c,hg,hbg⟩)|⟨γ,c,hg,hbg⟩)
 ·have:=h.dom b h0;have:=(h.cH β ch hc).2 b hb;omega
 ·obtain ⟨_,c',h1,_⟩:=yz hg;exact h.subs.apart γ β c' ch b h1 hc hbg hb
 ·obtain ⟨hne,c',h1,_⟩:=yz hg;exact hne (h.inj γ β c' ch h1 hc (hbg.trans hb.symm) (by rw[hbg];simp))
theorem Rel.freeS(h:Rel P A0 w0 ρ s a w){β:Nat}{ch:Chunk}(hc:s.cH[β]?=some (some ch)){f:SV->SV}{b:Nat}(hb:some b∈(ρ β).subs):¬ Av A0 ρ ((s.cH.set β none).map (Option.map (Chunk.map f))) b:=by
 rintro ((h0|⟨γ,c,hg,hbg⟩)|⟨γ,c,hg,hbg⟩)
 ·have:=h.dom b h0;have:=h.subs.base β ch b hc hb;omega
 ·obtain ⟨hne,c',h1,_⟩:=yz hg;exact hne (h.subs.one γ β c' ch b h1 hc hbg hb)
 ·obtain ⟨_,c',h1,_⟩:=yz hg;exact h.subs.apart β γ ch c' b hc h1 hb hbg
theorem Rel.sub(h:Rel P A0 w0 ρ s a w)(β:Nat)(f:SV->SV)
  (hf:∀ sv v,sv.inn s.cH.length->yF P (Av A0 ρ s.cH) w ρ sv v->yF P (Av A0 ρ ((s.cH.set β none).map (Option.map (Chunk.map f)))) w ρ (f sv) v)
  (hn:∀ sv,sv.inn s.cH.length->(f sv).inn s.cH.length):Rel P A0 w0 ρ (s.sub β f) a w:=by
 have hlen:((s.cH.set β none).map (Option.map (Chunk.map f))).length=s.cH.length:=by simp
 have hsl:(s.sub β f).slots=s.slots.map f:=Slots.toList_map _ _;refine ⟨by rw[hsl,length_map];exact h.size,λ i sv hi=>?_,λ γ c hg=>?_,λ γ δ c d hg hd hbg hne=>?_,λ i sv hi=>?_,λ γ c hg=>?_,h.below,h.dom,h.defers,h.dep,(λ γ c q hg hq=>?_),h.round,h.glob,by simpa[St.sub]using h.kZ,λ i sv hi=>?_,λ i sv hi=>?_,h.subs.sub λ γ c hg=>by obtain ⟨_,ch,h1,rfl⟩:=yz hg;exact ⟨ch,h1,by cases ch<;>exact id⟩⟩
 ·rw[hsl]at hi;simp only[getElem?_map,map_eq_some_iff]at hi;obtain ⟨sv',h1,rfl⟩:=hi;exact hf _ _ (h.names i sv' h1) (h.slots i sv' h1)
 ·obtain ⟨_,ch,h1,rfl⟩:=yz hg;refine ⟨?_,(h.cH γ ch h1).2⟩;have hr:=(h.cH γ ch h1).1;have hi:=h.cN γ ch h1;cases ch with
  |box t cells =>
   obtain ⟨b,vs,e,hb,h2,h3,h4⟩:=hr;refine ⟨b,vs,e,hb,h2,by simpa[Chunk.map]using h3,λ i sv hs=>?_⟩
   simp only[getElem?_map,map_eq_some_iff]at hs;obtain ⟨sv',h5,rfl⟩:=hs;obtain ⟨v,h6,h7⟩:=h4 i sv' h5;exact ⟨v,h6,hf _ _ (hi sv' (mem_of_getElem? h5)) h7⟩
  |lp i info cells st =>
   obtain ⟨b,r,hb,h2,h3,h4,h5⟩:=hr;refine ⟨b,r,hb,h2,h3,by simpa using h4,λ i sv hs=>?_⟩
   simp only[getElem?_map,map_eq_some_iff]at hs;obtain ⟨sv',h6,rfl⟩:=hs;obtain ⟨v,h7,h8⟩:=h5 i sv' h6;exact ⟨v,h7,hf _ _ (hi sv' (mem_of_getElem? h6)) h8⟩
  |arr e t xs nn=>exact hr.keep (λ _ _=>rfl) (λ n _ hn=>y0f hn)
  |mp k v es=>exact hr.keep (λ _ _=>rfl) (λ n _ hn=>y0f hn)
  |it bs q=>exact hr.keep (λ _ _=>rfl) (λ n _ hn=>y0f hn)
  |mps k e u es hole=>exact hr.keep (λ _ _=>rfl) (λ n _ hn=>y0f hn)
  |nst e t o e' u xs=>exact hr.keep (λ _ _=>rfl) (λ n _ hn=>y0f hn)
  |rcd t cells =>
   obtain ⟨h2,h3,h4,h5⟩:=hr;refine ⟨h2,h3,by simpa using h4,λ i sv hs=>?_⟩
   simp only[getElem?_map,map_eq_some_iff]at hs;obtain ⟨sv',h6,rfl⟩:=hs;obtain ⟨v,h7,h8⟩:=h5 i sv' h6;exact ⟨v,h7,hf _ _ (hi sv' (mem_of_getElem? h6)) h8⟩
 ·obtain ⟨_,c1,h1,_⟩:=yz hg;obtain ⟨_,c2,h2,_⟩:=yz hd;exact h.inj γ δ c1 c2 h1 h2 hbg hne
 ·rw[hsl]at hi;simp only[getElem?_map,map_eq_some_iff]at hi;obtain ⟨sv',h1,rfl⟩:=hi;show (f sv').inn ((s.cH.set β none).map (Option.map (Chunk.map f))).length
  rw[hlen];exact hn _ (h.names i sv' h1)
 ·obtain ⟨_,ch,h1,rfl⟩:=yz hg;show (ch.map f).inn ((s.cH.set β none).map (Option.map (Chunk.map f))).length
  rw[hlen];have hi:=h.cN γ ch h1;cases ch with
  |box t cells =>
   intro sv hs;obtain ⟨sv',h2,rfl⟩:=mem_map.1 hs;exact hn _ (hi sv' h2)
  |lp i info cells st =>
   intro sv hs;obtain ⟨sv',h2,rfl⟩:=mem_map.1 hs;exact hn _ (hi sv' h2)
  |arr e t xs nn=>trivial
  |mp k v es=>trivial
  |it bs q=>trivial
  |mps k e u es hole=>exact hi
  |nst e t o e' u xs=>trivial
  |rcd t cells =>
   intro sv hs;obtain ⟨sv',h2,rfl⟩:=mem_map.1 hs;exact hn _ (hi sv' h2)
 ·obtain ⟨_,ch,h1,rfl⟩:=yz hg;exact h.lpi γ ch q h1 (by cases ch<;>exact hq)
 ·simp only[St.sub,getElem?_map,map_eq_some_iff]at hi;obtain ⟨sv',h1,rfl⟩:=hi;exact hf _ _ (h.kN i sv' h1) (h.kS i sv' h1)
 ·simp only[St.sub,getElem?_map,map_eq_some_iff]at hi;obtain ⟨sv',h1,rfl⟩:=hi;show (f sv').inn ((s.cH.set β none).map (Option.map (Chunk.map f))).length
  rw[hlen];exact hn _ (h.kN i sv' h1)
theorem yg.sub{A A':Nat->Prop}{β:Nat}{t:Ty}{x:t.den}(hA:∀ n,n < w.heap.size->A' n->A n)(hx:∀ b,(ρ β).blk=some b->yF P A' w ρ (.val (.ref t) x) (.pointer (some ⟨b,0,none⟩))) :
  ∀ {cs:List Cap} {vs:List Value},yg P A w ρ cs vs->yg P A' w ρ (cs.map (yDk β t x)) vs
 |[],[],_=>trivial
 |[],_::_,h=>h
 |_::_,[],h=>h
 |.box γ::cs,v::vs,h=>by
  refine ⟨?_,yg.sub hA hx h.2⟩;have h1:=h.1;simp only[yDk];split
  ·rename_i e;subst e;obtain ⟨b,hb,rfl⟩:=h1;exact hx b hb
  ·exact h1
 |.val u y::cs,v::vs,h=>by
  refine ⟨?_,yg.sub hA hx h.2⟩;obtain ⟨l,hl,e⟩:=h.1;exact ⟨l,hl.mono (λ _ _ _=>rfl) hA,e⟩
theorem y0K.sub{β:Nat}{u:Ty}{x:u.den}{n:Nat}:∀ {cs:List Cap},y0K n cs->y0K n (cs.map (yDk β u x))
 |[],_=>trivial
 |.box γ::cs,h=>by
  simp only[map_cons,yDk];split
  ·exact y0K.sub h.2
  ·exact ⟨h.1,y0K.sub h.2⟩
 |.val _ _::cs,h=>y0K.sub (cs:=cs) h
theorem y20.arr{A:Nat->Prop}{e:TypeId}{u:Ty}{xs:List u.den}{o:Option Nat}{v:Value}(h:y20 P A w e u xs o v):∃ cap,v=.slice (o.map λ b=>⟨b,0,none⟩) xs.length cap/\yB P A w ρ ⟨o,xs.length,cap,[],[],[]⟩ (.arr e u xs false):=by
 obtain ⟨cap,h1,h2⟩:=h;exact ⟨cap,h1,rfl,(λ h=>by cases h),h2⟩
theorem y20.of_arr{A:Nat->Prop}{p:Place}{e:TypeId}{u:Ty}{xs:List u.den}{nn:Bool}(h:yB P A w ρ p (.arr e u xs nn)):y20 P A w e u xs p.blk (.slice (p.blk.map λ b=>⟨b,0,none⟩) p.len p.cap):=by
 obtain ⟨h1,_,h2⟩:=h;refine ⟨p.cap,by rw[h1],?_⟩
 rcases h2 with ⟨h2,h3,h4⟩|⟨b,vs,h2,h3,h4,h5,h6,h7⟩
 ·exact .inl ⟨h2,by omega,h4⟩
 ·exact .inr ⟨b,vs,h2,h3,by omega,h5,h6,h7⟩
theorem yLe{A A':Nat->Prop}{p:Place}{k u:Ty}{e:TypeId}{es:List (k.den×List u.den)}(h:yB P A w ρ p (.mps k e u es none))(hA:∀ n,n < w.heap.size->A' n->A n)(hb:∀ b,p.blk=some b->¬ A' b)(hs:∀ b,some b∈p.subs->¬ A' b) :
  ∃ b,p.blk=some b/\y6 P (.map k (.slice u)) A' w es [.map (some b)]:=by
 obtain ⟨b,ms,c,h1,h2,h3,_,h4⟩:=h;refine ⟨b,h1,.inr ⟨b,ms,c,rfl,hb b h1,h2,h3.1,λ i x hi=>?_⟩⟩
 obtain ⟨en,o,h5,h6,h7,h8⟩:=h4 i x hi;rcases h8 with ⟨q,hq,_⟩|⟨_,h8⟩
 ·cases hq
 ·obtain ⟨cap,h9,h10⟩:=y20.arr (ρ:=ρ) h8;exact ⟨en,_,h5,h7,(y5Z h10 hA (λ b hb=>hs b (hb ▸ mem_of_getElem? h6))).2.2,h9⟩
theorem Rel.freeze(h:Rel P A0 w0 ρ s a w)(β:Nat):Rel P A0 w0 ρ (s.freeze β) a w:=by
 unfold St.freeze;split
 ·rename_i e t xs nn hch;have hc:=getD_some hch;obtain ⟨h1,h2,h3⟩:=y5Z (A':=Av A0 ρ ((s.cH.set β none).map (Option.map (Chunk.map (y1S β (if nn then .val (.nS t) (some xs)else .val (.slice t) xs)))))) (h.cH β _ hc).1 (λ n _ hn=>y0f hn) (λ b hb=>h.free hc hb)
  have hval:yF P (Av A0 ρ ((s.cH.set β none).map (Option.map (Chunk.map (y1S β (if nn then .val (.nS t) (some xs)else .val (.slice t) xs)))))) w ρ (if nn then .val (.nS t) (some xs)else .val (.slice t) xs) (.slice ((ρ β).blk.map λ b=>⟨b,0,none⟩) (ρ β).len (ρ β).cap):=by
   cases nn with
   |true=>exact ⟨_,h2 rfl,rfl⟩
   |false=>exact ⟨_,h1 rfl,rfl⟩
  have hin:(if nn then SV.val (.nS t) (some xs)else .val (.slice t) xs).inn s.cH.length:=by cases nn<;>trivial
  clear h1 h2 h3;generalize (if nn then SV.val (.nS t) (some xs)else .val (.slice t) xs)=V at *
  refine h.sub β _ (λ sv v hi hs=>?_) (λ sv hi=>?_)
  ·cases sv with
   |own γ =>
    simp only[y1S];split
    ·rename_i e';subst e';simp only[yF]at hs;subst hs;exact hval
    ·exact hs
   |_=>exact hs.mono (λ _ _ _=>rfl) (λ n _ hn=>y0f hn)
  ·cases sv with
   |own γ =>
    simp only[y1S];split
    ·exact hin
    ·exact hi
   |_=>exact hi
 ·rename_i t cells hch;split
  ·rename_i x hx;have hc:=getD_some hch;have hval:∀ b,(ρ β).blk=some b->yF P (Av A0 ρ ((s.cH.set β none).map (Option.map (Chunk.map (yGq β t x))))) w ρ (.val (.ref t) x) (.pointer (some ⟨b,0,none⟩)):=by
    intro b hb;obtain ⟨b',vs,hb',h1,h2⟩:=yGt (h.cH β _ hc).1;rw[hb]at hb';cases hb';have h3:=y1s _ _ _ _ h2 hx;obtain ⟨b'',vs',e,hb'',h4,_⟩:=(h.cH β _ hc).1;rw[hb]at hb'';cases hb'';exact yCy (h.free hc hb) (yN h4) h1 (h3.mono (λ _ _ _=>rfl) (λ n _ hn=>y0f hn))
   refine h.sub β _ (λ sv v hi hs=>?_) (λ sv hi=>?_)
   ·cases sv with
    |bP γ off =>
     simp only[yGq];split
     ·rename_i e;subst e;split
      ·rename_i e0;subst e0;obtain ⟨b,hb,rfl⟩:=hs;exact hval b hb
      ·trivial
     ·exact hs
    |clo f caps =>
     obtain ⟨vs,h1,h2⟩:=hs;exact ⟨vs,h1,yg.sub (λ n _ hn=>y0f hn) hval h2⟩
    |_=>exact hs.mono (λ _ _ _=>rfl) (λ n _ hn=>y0f hn)
   ·cases sv with
    |bP γ off =>
     simp only[yGq];split
     ·split<;>trivial
     ·exact hi
    |clo f caps=>exact y0K.sub hi
    |_=>exact hi
  ·exact h
 ·rename_i k u es hch;have hc:=getD_some hch;obtain ⟨b,hb,hm⟩:=yCE (A':=Av A0 ρ ((s.cH.set β none).map (Option.map (Chunk.map (y6f β (.val (.map k u) es)))))) (h.cH β _ hc).1 (λ n _ hn=>y0f hn) (λ b hb=>h.free hc hb)
  refine h.sub β _ (λ sv v hi hs=>?_) (λ sv hi=>?_)
  ·cases sv with
   |mO γ =>
    simp only[y6f];split
    ·rename_i e';subst e';simp only[yF]at hs;subst hs;exact ⟨_,hm,by rw[hb];rfl⟩
    ·exact hs
   |_=>exact hs.mono (λ _ _ _=>rfl) (λ n _ hn=>y0f hn)
  ·cases sv with
   |mO γ =>
    simp only[y6f];split
    ·trivial
    ·exact hi
   |_=>exact hi
 ·rename_i k e u es hch;have hc:=getD_some hch;obtain ⟨b,hb,hm⟩:=yLe (A':=Av A0 ρ ((s.cH.set β none).map (Option.map (Chunk.map (y6f β (.val (.map k (.slice u)) es)))))) (h.cH β _ hc).1 (λ n _ hn=>y0f hn) (λ b hb=>h.free hc hb) (λ b hb=>h.freeS hc hb)
  refine h.sub β _ (λ sv v hi hs=>?_) (λ sv hi=>?_)
  ·cases sv with
   |mO γ =>
    simp only[y6f];split
    ·rename_i e';subst e';simp only[yF]at hs;subst hs;exact ⟨_,hm,by rw[hb];rfl⟩
    ·exact hs
   |_=>exact hs.mono (λ _ _ _=>rfl) (λ n _ hn=>y0f hn)
  ·cases sv with
   |mO γ =>
    simp only[y6f];split
    ·trivial
    ·exact hi
   |_=>exact hi
 ·rename_i e t o e' u xs hch;have hc:=getD_some hch;have hst:=(h.cH β _ hc).1;have hA:∀ n,n < w.heap.size->Av A0 ρ ((s.cH.set β none).map (Option.map (Chunk.map (y95 β t o u xs)))) n->Av A0 ρ s.cH n:=λ n _ hn=>y0f hn
  have hm:=nst_cells (A':=Av A0 ρ ((s.cH.set β none).map (Option.map (Chunk.map (y95 β t o u xs))))) hst hA (λ b hb=>h.free hc hb) (λ b hb=>h.freeS hc hb)
  refine h.sub β _ (λ sv v hi hs=>?_) (λ sv hi=>?_)
  ·cases sv with
   |own γ =>
    simp only[y95];split
    ·rename_i e';subst e';simp only[yF]at hs;subst hs;exact ⟨_,hm,rfl⟩
    ·exact hs
   |nO γ i =>
    simp only[y95];split
    ·rename_i e2;subst e2;obtain ⟨q,hq,rfl⟩:=hs;split
     ·rename_i ys hys;obtain ⟨x,hx,hys⟩:=bind_eq_some_iff.1 hys;obtain ⟨b,q2,l,hb,h0,h6,h7⟩:=y62 hst hx;rw[hq]at h0;cases h0;obtain ⟨ys',hys',_,_,h8,h9⟩:=h7.comp;rw[hys]at hys';cases hys';refine ⟨_,h9.cells h8 hA (λ b hb=>h.freeS hc ?_),rfl⟩
      rw[hst.1.2.1,<- hb];exact mem_map.2 ⟨q,mem_of_getElem? hq,rfl⟩
     ·trivial
    ·exact hs
   |_=>exact hs.mono (λ _ _ _=>rfl) (λ n _ hn=>y0f hn)
  ·cases sv with
   |own γ =>
    simp only[y95];split
    ·trivial
    ·exact hi
   |nO γ i =>
    simp only[y95];split
    ·split<;>trivial
    ·exact hi
   |_=>exact hi
 ·rename_i t cells hch;split
  ·rename_i x hx;have hc:=getD_some hch;obtain ⟨_,hag,h2,h3⟩:=(h.cH β _ hc).1;have h4:=y1s _ _ _ _ (show yD P (Av A0 ρ s.cH) w ρ cells (ρ β).vals from ⟨h2,h3⟩) hx
   refine h.sub β _ (λ sv v hi hs=>?_) (λ sv hi=>?_)
   ·cases sv with
    |sR γ =>
     simp only[yLc];split
     ·rename_i e';subst e';simp only[yF]at hs;subst hs;exact ⟨_,h4.mono (λ _ _ _=>rfl) (λ n _ hn=>y0f hn),by simp[Ty.wrap,hag]⟩
     ·exact hs
    |_=>exact hs.mono (λ _ _ _=>rfl) (λ n _ hn=>y0f hn)
   ·cases sv with
    |sR γ =>
     simp only[yLc];split
     ·trivial
     ·exact hi
    |_=>exact hi
  ·exact h
 ·exact h
theorem Rel.freezeCaps:∀ (cs:List Cap) {s:St},Rel P A0 w0 ρ s a w->Rel P A0 w0 ρ (Vx.freezeCaps cs s) a w
 |[],_,h=>h
 |.box β::cs,_,h=>Rel.freezeCaps cs (h.freeze β)
 |.val _ _::cs,_,h=>Rel.freezeCaps cs h
theorem Rel.settle1(h:Rel P A0 w0 ρ s a w)(sv:SV):Rel P A0 w0 ρ (s.settle1 sv) a w:=by
 unfold St.settle1;split
 ·exact h.freeze _
 ·exact h.freeze _
 ·exact h.freezeCaps _
 ·exact h
theorem Rel.settleCells1:∀ (l:List SV) {s:St},Rel P A0 w0 ρ s a w->Rel P A0 w0 ρ (Vx.settleCells1 l s) a w
 |[],_,h=>h
 |sv::l,_,h=>Rel.settleCells1 l (h.settle1 sv)
theorem Rel.settle(h:Rel P A0 w0 ρ s a w)(sv:SV):Rel P A0 w0 ρ (s.settle sv) a w:=by
 unfold St.settle;split
 ·split
  ·exact (Rel.settleCells1 _ h).freeze _
  ·exact h.freeze _
 ·exact h.freeze _
 ·exact h.settle1 _
theorem Rel.settleAll:∀ (xs:List Operand) {s:St},Rel P A0 w0 ρ s a w->Rel P A0 w0 ρ (Vx.settleAll xs s) a w
 |[],_,h=>h
 |.tmp t::l,_,h=>Rel.settleAll l (h.settle _)
 |.const _::l,_,h=>Rel.settleAll l h
 |.global _::l,_,h=>Rel.settleAll l h
 |.func _::l,_,h=>Rel.settleAll l h
structure Weak (P:Program) (A0:Nat->Prop) (w:World) (ρ ρ':Places) (s s':St):Prop where
 len:s'.slots.length=s.slots.length
 slots:∀ (i:Nat) (sv sv':SV) (v:Value),s.slots[i]?=some sv->s'.slots[i]?=some sv'->yF P (Av A0 ρ s.cH) w ρ sv v->yF P (Av A0 ρ' s'.cH) w ρ' sv' v
 cH:∀ (β:Nat) (ch':Chunk),s'.cH[β]?=some (some ch')->∃ γ ch,s.cH[γ]?=some (some ch)/\ρ' β=ρ γ/\(yB P (Av A0 ρ s.cH) w ρ (ρ γ) ch->yB P (Av A0 ρ' s'.cH) w ρ' (ρ γ) ch')/\ch'.isM=ch.isM
 inj:∀ (β δ:Nat) (c d:Chunk),s'.cH[β]?=some (some c)->s'.cH[δ]?=some (some d)->(ρ' β).blk=(ρ' δ).blk->(ρ' β).blk≠none->β=δ
 names:∀ (i:Nat) (sv:SV),s'.slots[i]?=some sv->sv.inn s'.cH.length
 cN:∀ (β:Nat) (ch:Chunk),s'.cH[β]?=some (some ch)->ch.inn s'.cH.length
 klen:s'.kept.length=s.kept.length
 kS:∀ (i:Nat) (sv sv':SV) (v:Value),s.kept[i]?=some sv->s'.kept[i]?=some sv'->yF P (Av A0 ρ s.cH) w ρ sv v->yF P (Av A0 ρ' s'.cH) w ρ' sv' v
 kN:∀ (i:Nat) (sv:SV),s'.kept[i]?=some sv->sv.inn s'.cH.length
 dep:s'.dep=s.dep
 nmk:s'.nmk=0->s.nmk=0
 rnd:s'.rnd=s.rnd
theorem Rel.weak(h:Rel P A0 w0 ρ s a w){ρ':Places}{s':St}(hw:Weak P A0 w ρ ρ' s s')(hl:∀ (β:Nat) (ch:Chunk) (q:Nat×LpInfo),s'.cH[β]?=some (some ch)->ch.lpNo=some q->w0.infos[q.1]?=some q.2):Rel P A0 w0 ρ' s' a w:=by
 refine ⟨hw.len.trans h.size,λ i sv' hi=>?_,λ β ch' hb=>?_,hw.inj,hw.names,hw.cN,h.below,h.dom,(let ⟨ms,⟨q1,q2,q3⟩,q4⟩:=h.defers;⟨ms,⟨q1,λ h0=>q2 (hw.nmk h0),q3⟩,q4⟩),⟨hw.dep.trans h.dep.1,hw.rnd.trans h.dep.2⟩,hl,h.round,h.glob,hw.klen.trans h.kZ,λ i sv' hi=>?_,hw.kN,⟨λ β c hb hm=>?_,λ β c n hb hn=>?_,λ β γ c d n hb hg hn=>?_,λ β γ c d n hb hg hn hm=>?_⟩⟩
 ·have hlt:i < s.slots.length:=hw.len ▸ (List.getElem?_eq_some_iff.1 hi).1;exact hw.slots i _ sv' _ (getElem?_eq_getElem hlt) hi (h.slots i _ (getElem?_eq_getElem hlt))
 ·obtain ⟨γ,ch,h1,h2,h3,_⟩:=hw.cH β ch' hb;rw[h2];exact ⟨h3 (h.cH γ ch h1).1,(h.cH γ ch h1).2⟩
 ·have hlt:i < s.kept.length:=hw.klen ▸ (List.getElem?_eq_some_iff.1 hi).1;exact hw.kS i _ sv' _ (getElem?_eq_getElem hlt) hi (h.kS i _ (getElem?_eq_getElem hlt))
 ·obtain ⟨γ,ch,h1,h2,_,h4⟩:=hw.cH β c hb;rw[h2];exact h.subs.plain γ ch h1 (h4 ▸ hm)
 ·obtain ⟨γ,ch,h1,h2,_,h4⟩:=hw.cH β c hb;rw[h2]at hn;exact h.subs.base γ ch n h1 hn
 ·obtain ⟨β',ch,h1,h2,_,h4⟩:=hw.cH β c hb;obtain ⟨γ',dh,h5,h6,_,h7⟩:=hw.cH γ d hg;rw[h2]at hn;rw[h6];exact h.subs.apart β' γ' ch dh n h1 h5 hn
 ·obtain ⟨β',ch,h1,h2,_,h4⟩:=hw.cH β c hb;obtain ⟨γ',dh,h5,h6,_,h7⟩:=hw.cH γ d hg;have hn':=hn;rw[h2]at hn';rw[h6]at hm;have he:=h.subs.one β' γ' ch dh n h1 h5 hn' hm;subst he;refine hw.inj β γ c d hb hg (by rw[h2,h6]) ?_
  rw[h2];cases hq:ch.isM with
  |false=>rw[h.subs.plain β' ch h1 hq]at hn';cases hn'
  |true =>
   cases ch with
   |mps k e u es hole =>
    obtain ⟨b,ms,c,hb',_⟩:=(h.cH β' _ h1).1;rw[hb'];simp
   |nst e t o e' u xs =>
    obtain ⟨⟨a1,a2,a3⟩,_,⟨_,a4,_⟩|⟨b,_,hb',_⟩⟩:=(h.cH β' _ h1).1
    ·have:(ρ β').ns=[]:=List.eq_nil_of_length_eq_zero (by omega)
     rw[a2,this]at hn';cases hn'
    ·rw[hb'];simp
   |_=>cases hq
end
end Go.Vx
end
section
namespace Go.Vx
open Go.RowKit
variable [GT]
section
variable {P:Program} {A0:Nat->Prop} {w0:Base} {ρ:Places} {s:St} {a:Act} {w w':World} {g:G}
theorem yG{α:Type}{c:Prop}[Decidable c]{x:Option α}{y:α}(h:(if c then x else none)=some y):c/\x=some y:=by
 split at h
 ·exact ⟨‹_›,h⟩
 ·cases h
theorem y1w{α β γ:Type}{o:Option α}{p:Option β}{f:α->β->γ}{y:γ}(h:(o.bind λ a=>p.map λ b=>f a b)=some y):∃ a b,o=some a/\p=some b/\f a b=y:=by
 cases o with
 |none=>cases h
 |some a=>cases p with
  |none=>cases h
  |some b=>exact ⟨a,b,rfl,rfl,Option.some.inj h⟩
theorem y03{l:List Nat}{β:Nat}(h:l.contains β=true):y0V l β < l.length/\l.getD (y0V l β) 0=β:=by
 have hm:β∈l:=by simpa using h
 have hlt:l.idxOf β < l.length:=List.idxOf_lt_length_of_mem hm;refine ⟨hlt,?_⟩;unfold y0V;rw[List.getD_eq_getElem?_getD,getElem?_eq_getElem hlt];simp
def y3T(ρ:Places)(l:List Nat):Places:=λ i=>ρ (l.getD i 0)
theorem y0D{l:List Nat}{β:Nat}(h:l.contains β=true):y3T ρ l (y0V l β)=ρ β:=by
 unfold y3T;rw[(y03 h).2]
theorem y3k{A A':Nat->Prop}{l:List Nat}(hA:∀ n,n < w.heap.size->A' n->A n):∀ {cs ds:List Cap} {vs:List Value},y1B l cs=some ds->yg P A w ρ cs vs->yg P A' w (y3T ρ l) ds vs/\y0K l.length ds
 |[],ds,vs,h,hr=>by
  simp[y1B]at h;subst h;cases vs with
  |nil=>exact ⟨trivial,trivial⟩
  |cons v vs=>exact hr.elim
 |c::cs,ds,vs,h,hr=>by
  simp only[y1B,bind_eq_some_iff,map_eq_some_iff]at h;obtain ⟨d,hd,ds',hds,rfl⟩:=h;cases vs with
  |nil=>exact hr.elim
  |cons v vs =>
   obtain ⟨h1,h2⟩:=y3k hA hds hr.2;have h0:=hr.1;cases c with
   |box β =>
    simp only[Cap.rename]at hd;split at hd
    ·rename_i hc;cases hd;refine ⟨⟨?_,h1⟩,(y03 hc).1,h2⟩;simp only[yC9,y0D hc];exact h0
    ·cases hd
   |val t x =>
    simp only[Cap.rename,Option.some.injEq]at hd;subst hd;obtain ⟨m,hm,e⟩:=h0;exact ⟨⟨⟨m,hm.mono (λ _ _ _=>rfl) hA,e⟩,h1⟩,h2⟩
theorem y1r{A A':Nat->Prop}{l:List Nat}(hA:∀ n,n < w.heap.size->A' n->A n){sv:SV}{v:Value}(h:yF P A w ρ sv v):yF P A' w (y3T ρ l) (sv.rename l) v:=by
 cases sv with
 |undef=>trivial
 |val t x=>obtain ⟨m,hm,e⟩:=h;exact ⟨m,hm.mono (λ _ _ _=>rfl) hA,e⟩
 |tup t x=>obtain ⟨m,hm,e⟩:=h;exact ⟨m,hm.mono (λ _ _ _=>rfl) hA,e⟩
 |xV t x=>obtain ⟨m,hm,e⟩:=h;exact ⟨m,hm.mono (λ _ _ _=>rfl) hA,e⟩
 |nils=>exact h
 |gone=>exact h
 |bP β off =>
  simp only[SV.rename];split
  ·rename_i hc;simp only[yF,y0D hc];exact h
  ·trivial
 |own β =>
  simp only[SV.rename];split
  ·rename_i hc;simp only[yF,y0D hc];exact h
  ·trivial
 |eP β i sz off =>
  simp only[SV.rename];split
  ·rename_i hc;simp only[yF,y0D hc];exact h
  ·trivial
 |oS β i sz =>
  simp only[SV.rename];split
  ·rename_i hc;simp only[yF,y0D hc];exact h
  ·trivial
 |mO β =>
  simp only[SV.rename];split
  ·rename_i hc;simp only[yF,y0D hc];exact h
  ·trivial
 |yld β =>
  simp only[SV.rename];split
  ·rename_i hc;simp only[yF,y0D hc];exact h
  ·trivial
 |mP β e =>
  simp only[SV.rename];split
  ·rename_i hc;simp only[yF,y0D hc];exact h
  ·trivial
 |sR β =>
  simp only[SV.rename];split
  ·rename_i hc;simp only[yF,y0D hc];exact h
  ·trivial
 |nO β i =>
  simp only[SV.rename];split
  ·rename_i hc;simp only[yF,y0D hc];exact h
  ·trivial
 |nP β i j sz off =>
  simp only[SV.rename];split
  ·rename_i hc;simp only[yF,y0D hc];exact h
  ·trivial
 |clo f caps =>
  simp only[SV.rename];split
  ·rename_i cs hcs;obtain ⟨vs,e,hr⟩:=h;exact ⟨vs,e,(y3k hA hcs hr).1⟩
  ·trivial
theorem y5T{l:List Nat}:∀ {cs ds:List Cap},y1B l cs=some ds->y0K l.length ds
 |[],ds,h=>by simp[y1B]at h;subst h;trivial
 |c::cs,ds,h=>by
  simp only[y1B,bind_eq_some_iff,map_eq_some_iff]at h;obtain ⟨d,hd,ds',hds,rfl⟩:=h;have h2:=y5T hds;cases c with
  |box β =>
   simp only[Cap.rename]at hd;split at hd
   ·rename_i hc;cases hd;exact ⟨(y03 hc).1,h2⟩
   ·cases hd
  |val t x=>simp only[Cap.rename,Option.some.injEq]at hd;subst hd;exact h2
theorem y46{l:List Nat}(sv:SV):(sv.rename l).inn l.length:=by
 cases sv with
 |bP β off=>simp only[SV.rename];split;exact (y03 ‹_›).1;trivial
 |own β=>simp only[SV.rename];split;exact (y03 ‹_›).1;trivial
 |eP β i sz off=>simp only[SV.rename];split;exact (y03 ‹_›).1;trivial
 |oS β i sz=>simp only[SV.rename];split;exact (y03 ‹_›).1;trivial
 |mO β=>simp only[SV.rename];split;exact (y03 ‹_›).1;trivial
 |yld β=>simp only[SV.rename];split;exact (y03 ‹_›).1;trivial
 |mP β e=>simp only[SV.rename];split;exact (y03 ‹_›).1;trivial
 |sR β=>simp only[SV.rename];split;exact (y03 ‹_›).1;trivial
 |nO β i=>simp only[SV.rename];split;exact (y03 ‹_›).1;trivial
 |nP β i j sz off=>simp only[SV.rename];split;exact (y03 ‹_›).1;trivial
 |clo f caps =>
  simp only[SV.rename];split
  ·exact y5T ‹_›
  ·trivial
 |_=>trivial
theorem yFC{A:Nat->Prop}{sv:SV}{v:Value}(h:yF P A w ρ sv v):yF P A w ρ (yMi sv) v:=by
 unfold yMi;split
 ·obtain ⟨m,hm,e⟩:=h;exact ⟨m,y6X hm,e⟩
 ·exact h
theorem yGf(keep:List Nat):∀ (l:List SV) (k i:Nat) (sv':SV),(kL keep k l)[i]?=some sv'->∃ sv,l[i]?=some sv/\(sv'=yMi sv\/sv'=.undef)
 |[],_,i,_,h=>by simp[kL]at h
 |sv::l,k,i,sv',h=>by
  simp only[kL]at h;cases i with
  |zero =>
   simp at h;subst h;refine ⟨sv,rfl,?_⟩;split
   ·exact .inl rfl
   ·exact .inr rfl
  |succ i=>simpa using yGf keep l (k+1) i sv' (by simpa using h)
theorem y7r(keep:List Nat):∀ (l:List SV) (k:Nat),(kL keep k l).length=l.length
 |[],_=>rfl
 |sv::l,k=>by simp[kL,y7r keep l (k+1)]
omit [GT] in
theorem Chunk.rename_some{l:List Nat}{c c':Chunk}(h:c.rename l=some c'):c'=c.map (SV.rename l)/\∀ k e u es q,c≠.mps k e u es (some q):=by
 unfold Chunk.rename at h;split at h
 ·cases h
 ·rename_i hn;cases h;exact ⟨rfl,λ k e u es q hc=>hn k e u es q hc⟩
theorem y9E(h:Rel P A0 w0 ρ s a w)(l keep:List Nat):Weak P A0 w ρ (y3T ρ l) s (y5q l keep s):=by
 unfold y5q;have hch:∀ (i:Nat) (ch':Chunk),(l.zipIdx.map λ p=>if y0V l p.1=p.2 then (s.cH.getD p.1 none).bind (Chunk.rename l)else none)[i]?=some (some ch') ->
   ∃ γ ch,s.cH[γ]?=some (some ch)/\y3T ρ l i=ρ γ/\(ch'=ch.map (SV.rename l)/\∀ k e u es q,ch≠.mps k e u es (some q))/\y0V l γ=i:=by
  intro i ch' hi;rw[getElem?_map,map_eq_some_iff]at hi;obtain ⟨⟨γ,j⟩,h1,h2⟩:=hi;rw[List.getElem?_zipIdx]at h1;simp only[map_eq_some_iff,Nat.zero_add,Prod.mk.injEq]at h1;obtain ⟨γ',h3,rfl,rfl⟩:=h1;simp only at h2;split at h2
  ·rename_i hn;rw[bind_eq_some_iff]at h2;obtain ⟨ch,h4,h5⟩:=h2;exact ⟨γ',ch,getD_some h4,by unfold y3T;rw[List.getD_eq_getElem?_getD,h3];rfl,Chunk.rename_some h5,hn⟩
  ·cases h2
 have hA:∀ n,Av A0 (y3T ρ l) (l.zipIdx.map λ p=>if y0V l p.1=p.2 then (s.cH.getD p.1 none).bind (Chunk.rename l)else none) n->Av A0 ρ s.cH n:=by
  rintro n ((h0|⟨i,c,hc,hb⟩)|⟨i,c,hc,hb⟩)
  ·exact .inl (.inl h0)
  ·obtain ⟨γ,ch,h1,h2,_⟩:=hch i c hc;rw[h2]at hb;exact .inl (.inr ⟨γ,ch,h1,hb⟩)
  ·obtain ⟨γ,ch,h1,h2,_⟩:=hch i c hc;rw[h2]at hb;exact .inr ⟨γ,ch,h1,hb⟩
 refine ⟨by rw[St.slots_of];simp[y7r],λ i sv sv' v hs hs' hr=>?_,λ i ch' hi=>?_,λ i j c d hi hj hij hne=>?_,λ i sv hs=>?_,λ i ch hi=>?_,by simp,λ i sv sv' v hs hs' hr=>?_,λ i sv hs=>?_,rfl,id,rfl⟩
 ·rw[St.slots_of]at hs';simp only[getElem?_map,map_eq_some_iff]at hs';obtain ⟨sv1,h1,rfl⟩:=hs';obtain ⟨sv2,h2,h3⟩:=yGf keep _ _ _ _ h1;rw[hs]at h2;cases h2;rcases h3 with rfl|rfl
  ·exact y1r (λ n _ hn=>hA n hn) (yFC hr)
  ·trivial
 ·obtain ⟨γ,ch,h1,h2,⟨rfl,hnh⟩,_⟩:=hch i ch' hi;refine ⟨γ,ch,h1,h2,λ hr=>?_,by cases ch<;>rfl⟩
  cases ch with
  |box t cells =>
   obtain ⟨b,vs,e,hb,h3,h4,h5⟩:=hr;refine ⟨b,vs,e,hb,h3,by simpa[Chunk.map]using h4,λ j sv hj=>?_⟩
   simp only[getElem?_map,map_eq_some_iff]at hj;obtain ⟨sv',h6,rfl⟩:=hj;obtain ⟨v,h7,h8⟩:=h5 j sv' h6;exact ⟨v,h7,y1r (λ n _ hn=>hA n hn) h8⟩
  |lp j info cells st =>
   obtain ⟨b,r,hb,h3,h4,h5,h6⟩:=hr;refine ⟨b,r,hb,h3,h4,by simpa using h5,λ j sv hj=>?_⟩
   simp only[getElem?_map,map_eq_some_iff]at hj;obtain ⟨sv',h7,rfl⟩:=hj;obtain ⟨v,h8,h9⟩:=h6 j sv' h7;exact ⟨v,h8,y1r (λ n _ hn=>hA n hn) h9⟩
  |arr e t xs nn=>exact (yB.keep hr (λ _ _=>rfl) (λ n _ hn=>hA n hn))
  |mp k v es=>exact (yB.keep hr (λ _ _=>rfl) (λ n _ hn=>hA n hn))
  |it bs q=>exact (yB.keep hr (λ _ _=>rfl) (λ n _ hn=>hA n hn))
  |mps k e u es hole =>
   cases hole with
   |some q=>exact absurd rfl (hnh k e u es q)
   |none =>
    have h1:=yB.keep (A':=Av A0 (y3T ρ l) (l.zipIdx.map λ p=>if y0V l p.1=p.2 then (s.cH.getD p.1 none).bind (Chunk.rename l)else none)) hr (λ _ _=>rfl) (λ n _ hn=>hA n hn)
    exact h1.noHole
  |nst e t o e' u xs=>exact (yB.keep hr (λ _ _=>rfl) (λ n _ hn=>hA n hn))
  |rcd t cells =>
   obtain ⟨h3,h4,h5,h6⟩:=hr;refine ⟨h3,h4,by simpa using h5,λ j sv hj=>?_⟩
   simp only[getElem?_map,map_eq_some_iff]at hj;obtain ⟨sv',h7,rfl⟩:=hj;obtain ⟨v,h8,h9⟩:=h6 j sv' h7;exact ⟨v,h8,y1r (λ n _ hn=>hA n hn) h9⟩
 ·obtain ⟨γ,ch,h1,h2,_,h3⟩:=hch i c hi;obtain ⟨δ,dh,h4,h5,_,h6⟩:=hch j d hj;rw[h2,h5]at hij;rw[h2]at hne;have:=h.inj γ δ ch dh h1 h4 hij hne;rw[<- h3,<- h6,this]
 ·rw[St.slots_of]at hs;simp only[getElem?_map,map_eq_some_iff]at hs;obtain ⟨sv1,_,rfl⟩:=hs;simpa using y46 (l:=l) sv1
 ·obtain ⟨γ,ch',_,_,⟨rfl,hnh⟩,_⟩:=hch i ch hi;cases ch' with
  |box t cells =>
   intro sv hs;obtain ⟨sv',_,rfl⟩:=mem_map.1 hs;simpa using y46 (l:=l) sv'
  |lp j info cells st =>
   intro sv hs;obtain ⟨sv',_,rfl⟩:=mem_map.1 hs;simpa using y46 (l:=l) sv'
  |arr e t xs nn=>trivial
  |mp k v es=>trivial
  |it bs q=>trivial
  |mps k e u es hole =>
   cases hole with
   |some q=>exact absurd rfl (hnh k e u es q)
   |none=>intro q hq;cases hq
  |nst e t o e' u xs=>trivial
  |rcd t cells =>
   intro sv hs;obtain ⟨sv',_,rfl⟩:=mem_map.1 hs;simpa using y46 (l:=l) sv'
 ·simp only[getElem?_map,map_eq_some_iff]at hs';obtain ⟨sv1,h1,rfl⟩:=hs';rw[hs]at h1;cases h1;exact y1r (λ n _ hn=>hA n hn) hr
 ·simp only[getElem?_map,map_eq_some_iff]at hs;obtain ⟨sv1,_,rfl⟩:=hs;simpa using y46 (l:=l) sv1
theorem y9b(h:Rel P A0 w0 ρ s a w)(keep:List Nat):∃ ρ',Weak P A0 w ρ ρ' s (canon keep s):=⟨_,y9E h _ keep⟩
def LpI(I:List LpInfo)(s:St):Prop:=∀ (β:Nat) (ch:Chunk) (q:Nat×LpInfo),s.cH[β]?=some (some ch)->ch.lpNo=some q->I[q.1]?=some q.2
theorem yGC{I:List LpInfo}(h:LpI I s)(keep:List Nat):LpI I (canon keep s):=by
 intro β ch q hb hq;unfold canon y5q at hb;simp only[getElem?_map,map_eq_some_iff]at hb;obtain ⟨⟨γ,j⟩,_,h2⟩:=hb;split at h2
 ·rw[bind_eq_some_iff]at h2;obtain ⟨c,h4,h5⟩:=h2;obtain ⟨rfl,_⟩:=Chunk.rename_some h5;exact h γ c q (getD_some h4) (by cases c<;>exact hq)
 ·cases h2
theorem Rel.canon(h:Rel P A0 w0 ρ s a w)(keep:List Nat):∃ ρ',Rel P A0 w0 ρ' (Vx.canon keep s) a w:=by
 obtain ⟨ρ',hw⟩:=y9b h keep;exact ⟨ρ',h.weak hw (yGC h.lpi keep)⟩
theorem y40{A A':Nat->Prop}(hA:∀ n,n < w.heap.size->A' n->A n):∀ {l l':List Cap} {y:(y4C l).den} {vs:List Value},y3C l l'=some y->yg P A w ρ l' vs->yg P A' w ρ (y5U l y) vs
 |[],[],_,vs,_,h=>by cases vs with|nil=>trivial|cons v vs=>exact h.elim
 |[],_::_,_,_,h,_=>by simp[y3C]at h
 |.val t x::l,[],_,_,h,_=>by simp[y3C]at h
 |.box β::l,[],_,_,h,_=>by simp[y3C]at h
 |.val t x::l,.box γ::l',_,_,h,_=>by simp[y3C]at h
 |.box β::l,.val u z::l',_,_,h,_=>by simp[y3C]at h
 |.val t x::l,.val u z::l',y,vs,h,hr=>by
  obtain ⟨p,q,hp,hq,rfl⟩:=y1w (γ:=(y4C (.val t x::l)).den) (f:=λ a b=>(a,b)) h
  cases vs with
  |nil=>exact hr.elim
  |cons v vs =>
   refine ⟨?_,y40 hA hq hr.2⟩;obtain ⟨m,hm,e⟩:=hr.1;obtain ⟨h1,h2⟩:=y58 hp hm;exact ⟨m,h1.mono (λ _ _ _=>rfl) hA,by rw[h2];exact e⟩
 |.box β::l,.box γ::l',y,vs,h,hr=>by
  obtain ⟨e,h'⟩:=yG (α:=(y4C l).den) h;subst e;cases vs with
  |nil=>exact hr.elim
  |cons v vs=>exact ⟨hr.1,y40 hA h' hr.2⟩
theorem y1O{A A':Nat->Prop}(hA:∀ n,n < w.heap.size->A' n->A n):∀ (l l':List SV) (y:(y06 l).den),yY l l'=some y ->
  (yR l y).length=l'.length/\∀ (i:Nat) (sv sv':SV) (v:Value),l'[i]?=some sv->(yR l y)[i]?=some sv'->yF P A w ρ sv v->yF P A' w ρ sv' v:=by
 intro l;induction l with
 |nil =>
  intro l' y h;cases l' with
  |nil=>exact ⟨rfl,λ i sv sv' v hi=>by simp at hi⟩
  |cons x l'=>simp[yY]at h
 |cons x l ih =>
  intro l' y h;have step:∀ (x':SV) (l'':List SV) (z:(y06 l).den) (fx:SV) (fl:List SV),yY l l''=some z->fl=fx::yR l z->(∀ v,yF P A w ρ x' v->yF P A' w ρ fx v) ->
    fl.length=(x'::l'').length/\∀ (i:Nat) (sv sv':SV) (v:Value),(x'::l'')[i]?=some sv->fl[i]?=some sv'->yF P A w ρ sv v->yF P A' w ρ sv' v:=by
   intro x' l'' z fx fl hz hfl hx;obtain ⟨h1,h2⟩:=ih l'' z hz;subst hfl;refine ⟨by simp[h1],λ i sv sv' v hi hi' hr=>?_⟩
   cases i with
   |zero=>simp at hi hi';subst hi;subst hi';exact hx v hr
   |succ i=>exact h2 i sv sv' v (by simpa using hi) (by simpa using hi') hr
  have mono:∀ (sv:SV) (v:Value),yF P A w ρ sv v->yF P A' w ρ sv v:=λ sv v h=>h.mono (λ _ _ _=>rfl) hA
  cases l' with
  |nil=>cases x<;>simp only[yY,reduceCtorEq]at h
  |cons x' l'' =>
   cases x with
   |undef=>exact step x' l'' y .undef _ h rfl (λ _ _=>trivial)
   |eP β i sz off=>exact step x' l'' y .undef _ h rfl (λ _ _=>trivial)
   |oS β i sz=>exact step x' l'' y .undef _ h rfl (λ _ _=>trivial)
   |tup t z=>exact step x' l'' y .undef _ h rfl (λ _ _=>trivial)
   |xV t z=>exact step x' l'' y .undef _ h rfl (λ _ _=>trivial)
   |gone=>exact step x' l'' y .undef _ h rfl (λ _ _=>trivial)
   |nO β i=>exact step x' l'' y .undef _ h rfl (λ _ _=>trivial)
   |nP β i j sz off=>exact step x' l'' y .undef _ h rfl (λ _ _=>trivial)
   |sR β =>
    obtain ⟨e,h'⟩:=yG (α:=(y06 l).den) h;have e':x'=.sR β:=by
     cases x'<;>simp[ySG]at e
     rw[e]
    subst e';exact step _ l'' y _ _ h' rfl (λ v=>mono _ v)
   |nils =>
    obtain ⟨e,h'⟩:=yG (α:=(y06 l).den) h;have e':x'=.nils:=by cases x'<;>simp[yNi]at e;rfl
    subst e';exact step .nils l'' y .nils _ h' rfl (λ v=>mono .nils v)
   |bP β off =>
    obtain ⟨e,h'⟩:=yG (α:=(y06 l).den) h;have e':x'=.bP β off:=by
     cases x'<;>simp[yNk]at e
     rw[e.1,e.2]
    subst e';exact step _ l'' y _ _ h' rfl (λ v=>mono _ v)
   |own β =>
    obtain ⟨e,h'⟩:=yG (α:=(y06 l).den) h;have e':x'=.own β:=by
     cases x'<;>simp[yOj]at e
     rw[e]
    subst e';exact step _ l'' y _ _ h' rfl (λ v=>mono _ v)
   |mO β =>
    obtain ⟨e,h'⟩:=yG (α:=(y06 l).den) h;have e':x'=.mO β:=by
     cases x'<;>simp[yO2]at e
     rw[e]
    subst e';exact step _ l'' y _ _ h' rfl (λ v=>mono _ v)
   |yld β =>
    obtain ⟨e,h'⟩:=yG (α:=(y06 l).den) h;have e':x'=.yld β:=by
     cases x'<;>simp[ySF]at e
     rw[e]
    subst e';exact step _ l'' y _ _ h' rfl (λ v=>mono _ v)
   |mP β d =>
    obtain ⟨e,h'⟩:=yG (α:=(y06 l).den) h;have e':x'=.mP β d:=by
     cases x'<;>simp[yNo]at e
     rw[e.1,e.2]
    subst e';exact step _ l'' y _ _ h' rfl (λ v=>mono _ v)
   |clo f cs =>
    obtain ⟨p,q,hp,hq,rfl⟩:=y1w (γ:=(y06 (.clo f cs::l)).den) (f:=λ a b=>(a,b)) h
    unfold ySa at hp;split at hp
    ·rename_i f' ds;split at hp
     ·rename_i e;subst e;refine step _ l'' q _ _ hq rfl (λ v hv=>?_)
      obtain ⟨vs,e,hr⟩:=hv;exact ⟨vs,e,y40 hA hp hr⟩
     ·cases hp
    ·cases hp
   |val t z =>
    obtain ⟨p,q,hp,hq,rfl⟩:=y1w (γ:=(y06 (.val t z::l)).den) (f:=λ a b=>(a,b)) h
    refine step _ l'' q (.val t p) _ hq rfl (λ v hv=>?_)
    unfold yRj at hp;split at hp
    ·obtain ⟨m,hm,e⟩:=hv;obtain ⟨h1,h2⟩:=y2F hp hm;exact ⟨m,h1.mono (λ _ _ _=>rfl) hA,by rw[y4j h2];exact e⟩
    ·simp only[yF]at hv;subst hv;split at hp
     ·cases hp;exact ⟨_,y3E _,rfl⟩
     ·cases hp;exact ⟨_,y4c _,rfl⟩
     ·cases hp
    ·cases hp
theorem y9D{A A':Nat->Prop}{I:List LpInfo}(hA:∀ n,n < w.heap.size->A' n->A n):∀ (l l':List (Option Chunk)) (y:(y07 l).den),ye l l'=some y ->
  (∀ (β:Nat) (ch:Chunk) (q:Nat×LpInfo),l[β]?=some (some ch)->ch.lpNo=some q->I[q.1]?=some q.2)->(∀ (β:Nat) (ch:Chunk) (q:Nat×LpInfo),l'[β]?=some (some ch)->ch.lpNo=some q->I[q.1]?=some q.2) ->
  ∀ (i:Nat) (ch':Chunk),(yI l y)[i]?=some (some ch')->∃ ch,l'[i]?=some (some ch)/\(∀ p,yB P A w ρ p ch->yB P A' w ρ p ch')/\ch'.isM=ch.isM:=by
 intro l;induction l with
 |nil=>intro l' y h hI hI' i ch' hi;simp[yI]at hi
 |cons x l ih =>
  intro l' y h hI hI' i ch' hi;cases l' with
  |nil=>rcases x with _|(⟨t,cells⟩|⟨e,t,xs,nn⟩|⟨k,v,es⟩|⟨bs,q⟩|⟨i,info,cells,st⟩|⟨k,e,u,es,_|q⟩|⟨t,cells⟩|⟨e,t,o,e',u,xs⟩)<;>cases h
  |cons x' l'' =>
  have ih:=λ (l':List (Option Chunk)) (y:(y07 l).den) (h:ye l l'=some y) (e:l'=l'')=>ih l' y h (λ β ch q hb=>hI (β+1) ch q (by simpa using hb)) (by subst e;exact λ β ch q hb=>hI' (β+1) ch q (by simpa using hb))
  cases x with
  |none =>
   cases i with
   |zero=>simp[yI]at hi
   |succ i=>exact ih l'' y h rfl i ch' hi
  |some c =>
   cases c with
   |box t cells =>
    obtain ⟨p,hp,h2⟩:=bind_eq_some_iff.1 (show ((yPF t cells x').bind λ y=>(ye l l'').map λ z=>(y,z))=some y from h)
    obtain ⟨q,hq,rfl⟩:=map_eq_some_iff.1 h2;cases i with
    |succ i=>exact ih l'' q hq rfl i ch' hi
    |zero =>
     have hi':some (Chunk.box t (yR cells p))=some ch':=by simpa[yI]using hi
     cases hi';unfold yPF at hp;split at hp
     ·rename_i u cells';obtain ⟨rfl,hp2⟩:=yG hp;refine ⟨_,rfl,λ pl hr=>?_,rfl⟩
      obtain ⟨b,vs,e,hb,h3,h4,h5⟩:=hr;obtain ⟨h6,h7⟩:=y1O (P:=P) (ρ:=ρ) (A:=A) (A':=A') hA cells cells' p hp2;refine ⟨b,vs,e,hb,h3,by rw[h6];exact h4,λ j sv hj=>?_⟩
      have hlt:j < cells'.length:=h6 ▸ (List.getElem?_eq_some_iff.1 hj).1;obtain ⟨v,h8,h9⟩:=h5 j _ (getElem?_eq_getElem hlt);exact ⟨v,h8,h7 j _ sv v (getElem?_eq_getElem hlt) hj h9⟩
     ·cases hp
   |arr e t xs nn =>
    obtain ⟨p,hp,h2⟩:=bind_eq_some_iff.1 (show ((yQL e t nn x').bind λ y=>(ye l l'').map λ z=>(y,z))=some y from h)
    obtain ⟨q,hq,rfl⟩:=map_eq_some_iff.1 h2;cases i with
    |succ i=>exact ih l'' q hq rfl i ch' hi
    |zero =>
     have hi':some (Chunk.arr e t p nn)=some ch':=by simpa[yI]using hi
     cases hi';unfold yQL at hp;split at hp
     ·rename_i e' u xs' nn';obtain ⟨⟨rfl,hnn⟩,hp2⟩:=yG hp;refine ⟨_,rfl,λ pl hr=>?_,rfl⟩
      obtain ⟨e2,he2⟩:=y4W hp2;cases e2;simp only at he2;subst he2;have hr':=hr.keep (w':=w) (A':=A') (λ _ _=>rfl) hA
      obtain ⟨h1,h2,h3⟩:=hr';exact ⟨h1,λ hn=>h2 (hnn hn),h3⟩
     ·cases hp
   |mp k v es =>
    obtain ⟨p,hp,h2⟩:=bind_eq_some_iff.1 (show ((asMp k v x').bind λ y=>(ye l l'').map λ z=>(y,z))=some y from h)
    obtain ⟨q,hq,rfl⟩:=map_eq_some_iff.1 h2;cases i with
    |succ i=>exact ih l'' q hq rfl i ch' hi
    |zero =>
     have hi':some (Chunk.mp k v p)=some ch':=by simpa[yI]using hi
     cases hi';unfold asMp at hp;split at hp
     ·rename_i k' v' es';refine ⟨_,rfl,λ pl hr=>?_,rfl⟩
      obtain ⟨e2,he2⟩:=y4W hp;cases e2;simp only at he2;subst he2;exact hr.keep (w':=w) (A':=A') (λ _ _=>rfl) hA
     ·cases hp
   |it bs q =>
    obtain ⟨p,hp,h2⟩:=bind_eq_some_iff.1 (show ((asIt x').bind λ y=>(ye l l'').map λ z=>(y,z))=some y from h)
    obtain ⟨q,hq,rfl⟩:=map_eq_some_iff.1 h2;cases i with
    |succ i=>exact ih l'' q hq rfl i ch' hi
    |zero =>
     have hi':some (Chunk.it p.1 p.2)=some ch':=by simpa[yI]using hi
     cases hi';unfold asIt at hp;split at hp
     ·cases hp;exact ⟨_,rfl,λ pl hr=>hr.keep (w':=w) (A':=A') (λ _ _=>rfl) hA,rfl⟩
     ·cases hp
   |lp j info cells st =>
    obtain ⟨p,hp,h2⟩:=bind_eq_some_iff.1 (show ((asLp j cells st x').bind λ y=>(ye l l'').map λ z=>(y,z))=some y from h)
    obtain ⟨q,hq,rfl⟩:=map_eq_some_iff.1 h2;cases i with
    |succ i=>exact ih l'' q hq rfl i ch' hi
    |zero =>
     have hi':some (Chunk.lp j info (yR cells p) st)=some ch':=by simpa[yI]using hi
     cases hi';unfold asLp at hp;split at hp
     ·rename_i j' info' cells' st';obtain ⟨⟨rfl,rfl⟩,hp2⟩:=yG hp;have e1:=hI 0 _ (j,info) rfl rfl;have e2:=hI' 0 _ (j,info') rfl rfl;simp only at e1 e2;rw[e1]at e2;cases e2;refine ⟨_,rfl,λ pl hr=>?_,rfl⟩
      obtain ⟨b,r,hb,h3,h4,h5,h6⟩:=hr;obtain ⟨h7,h8⟩:=y1O (P:=P) (ρ:=ρ) (A:=A) (A':=A') hA cells cells' p hp2;refine ⟨b,r,hb,h3,h4,by rw[h7];exact h5,λ j sv hj=>?_⟩
      have hlt:j < cells'.length:=h7 ▸ (List.getElem?_eq_some_iff.1 hj).1;obtain ⟨v,h9,h10⟩:=h6 j _ (getElem?_eq_getElem hlt);exact ⟨v,h9,h8 j _ sv v (getElem?_eq_getElem hlt) hj h10⟩
     ·cases hp
   |mps k e u es hole =>
    cases hole with
    |some q =>
     cases i with
     |zero=>simp[yI]at hi
     |succ i=>exact ih l'' y h rfl i ch' hi
    |none =>
    obtain ⟨p,hp,h2⟩:=bind_eq_some_iff.1 (show ((yP1 k e u x').bind λ y=>(ye l l'').map λ z=>(y,z))=some y from h)
    obtain ⟨q,hq,rfl⟩:=map_eq_some_iff.1 h2;cases i with
    |succ i=>exact ih l'' q hq rfl i ch' hi
    |zero =>
     have hi':some (Chunk.mps k e u p none)=some ch':=by simpa[yI]using hi
     cases hi';unfold yP1 at hp;split at hp
     ·rename_i k' e' u' es';obtain ⟨rfl,hp2⟩:=yG hp;refine ⟨_,rfl,λ pl hr=>?_,rfl⟩
      obtain ⟨e2,he2⟩:=y4W hp2;cases e2;simp only at he2;subst he2;exact hr.keep (w':=w) (A':=A') (λ _ _=>rfl) hA
     ·cases hp
   |rcd t cells =>
    obtain ⟨p,hp,h2⟩:=bind_eq_some_iff.1 (show ((yQc t cells x').bind λ y=>(ye l l'').map λ z=>(y,z))=some y from h)
    obtain ⟨q,hq,rfl⟩:=map_eq_some_iff.1 h2;cases i with
    |succ i=>exact ih l'' q hq rfl i ch' hi
    |zero =>
     have hi':some (Chunk.rcd t (yR cells p))=some ch':=by simpa[yI]using hi
     cases hi';unfold yQc at hp;split at hp
     ·rename_i u cells';obtain ⟨rfl,hp2⟩:=yG hp;refine ⟨_,rfl,λ pl hr=>?_,rfl⟩
      obtain ⟨h3,h4,h5,h8⟩:=hr;obtain ⟨h6,h7⟩:=y1O (P:=P) (ρ:=ρ) (A:=A) (A':=A') hA cells cells' p hp2;refine ⟨h3,h4,by rw[h6];exact h5,λ j sv hj=>?_⟩
      have hlt:j < cells'.length:=h6 ▸ (List.getElem?_eq_some_iff.1 hj).1;obtain ⟨v,h9,h10⟩:=h8 j _ (getElem?_eq_getElem hlt);exact ⟨v,h9,h7 j _ sv v (getElem?_eq_getElem hlt) hj h10⟩
     ·cases hp
   |nst e t o e' u xs =>
    obtain ⟨p,hp,h2⟩:=bind_eq_some_iff.1 (show ((yQR e t o e' u x').bind λ y=>(ye l l'').map λ z=>(y,z))=some y from h)
    obtain ⟨q,hq,rfl⟩:=map_eq_some_iff.1 h2;cases i with
    |succ i=>exact ih l'' q hq rfl i ch' hi
    |zero =>
     have hi':some (Chunk.nst e t o e' u p)=some ch':=by simpa[yI]using hi
     cases hi';unfold yQR at hp;split at hp
     ·rename_i d t' o' d' u' xs';obtain ⟨⟨rfl,rfl,rfl,rfl⟩,hp2⟩:=yG hp;refine ⟨_,rfl,λ pl hr=>?_,rfl⟩
      obtain ⟨e2,he2⟩:=y4W hp2;cases e2;simp only at he2;subst he2;exact hr.keep (w':=w) (A':=A') (λ _ _=>rfl) hA
     ·cases hp
structure St.Ok (s:St):Prop where
 names:∀ (i:Nat) (sv:SV),s.slots[i]?=some sv->sv.inn s.cH.length
 cN:∀ (β:Nat) (ch:Chunk),s.cH[β]?=some (some ch)->ch.inn s.cH.length
 kN:∀ (i:Nat) (sv:SV),s.kept[i]?=some sv->sv.inn s.cH.length
theorem Rel.ok(h:Rel P A0 w0 ρ s a w):s.Ok:=⟨h.names,h.cN,h.kN⟩
theorem y52{n:Nat}:∀ {l:List Cap} (y:(y4C l).den),y0K n l->y0K n (y5U l y)
 |[],_,_=>trivial
 |.val t x::l,y,h=>y52 (l:=l) y.2 h
 |.box β::l,y,h=>⟨h.1,y52 (l:=l) y h.2⟩
theorem y1G{n:Nat}:∀ {l:List SV} (y:(y06 l).den),(∀ sv∈l,sv.inn n)->∀ sv∈yR l y,sv.inn n
 |[],_,_=>λ sv h=>by simp[yR]at h
 |x::l,y,hl=>by
  have ih:∀ z,∀ sv∈yR l z,sv.inn n:=λ z=>y1G (l:=l) z (λ sv hs=>hl sv (List.mem_cons_of_mem _ hs))
  have h0:=hl x (mem_cons_self ..);intro sv hs;cases x<;>rcases mem_cons.1 hs with rfl|hs<;>first|exact ih _ sv hs|trivial|exact h0|exact y52 _ h0
theorem yW:∀ (l:List (Option Chunk)) (y:(y07 l).den),(yI l y).length=l.length
 |[],_=>rfl
 |some (.box _ _)::l,y=>congrArg (·+1) (yW l y.2)
 |some (.arr _ _ _ _)::l,y=>congrArg (·+1) (yW l y.2)
 |some (.mp _ _ _)::l,y=>congrArg (·+1) (yW l y.2)
 |some (.it _ _)::l,y=>congrArg (·+1) (yW l y.2)
 |some (.lp _ _ _ _)::l,y=>congrArg (·+1) (yW l y.2)
 |some (.mps _ _ _ _ none)::l,y=>congrArg (·+1) (yW l y.2)
 |some (.rcd _ _)::l,y=>congrArg (·+1) (yW l y.2)
 |some (.nst _ _ _ _ _ _)::l,y=>congrArg (·+1) (yW l y.2)
 |some (.mps _ _ _ _ (some _))::l,y=>congrArg (·+1) (yW l y)
 |none::l,y=>congrArg (·+1) (yW l y)
theorem y5w{n:Nat}:∀ {l:List (Option Chunk)} (y:(y07 l).den),(∀ ch,some ch∈l->ch.inn n)->∀ ch,some ch∈yI l y->ch.inn n
 |[],_,_=>λ sv h=>by simp[yI]at h
 |x::l,y,hl=>by
  have ih:∀ z,∀ ch,some ch∈yI l z->ch.inn n:=λ z=>y5w (l:=l) z (λ sv hs=>hl sv (List.mem_cons_of_mem _ hs))
  intro ch hs;rcases x with _|(⟨t,cells⟩|⟨e,t,xs,nn⟩|⟨k,v,es⟩|⟨bs,q⟩|⟨i,info,cells,st⟩|⟨k,e,u,es,_|q⟩|⟨t,cells⟩|⟨e,t,o,e',u,xs⟩)
  ·rcases mem_cons.1 hs with hc|hs
   ·cases hc
   ·exact ih y ch hs
  ·rcases mem_cons.1 hs with hc|hs
   ·cases hc;exact y1G _ (hl _ (mem_cons_self ..))
   ·exact ih _ ch hs
  ·rcases mem_cons.1 hs with hc|hs
   ·cases hc;trivial
   ·exact ih _ ch hs
  ·rcases mem_cons.1 hs with hc|hs
   ·cases hc;trivial
   ·exact ih _ ch hs
  ·rcases mem_cons.1 hs with hc|hs
   ·cases hc;trivial
   ·exact ih _ ch hs
  ·rcases mem_cons.1 hs with hc|hs
   ·cases hc;exact y1G _ (hl _ (mem_cons_self ..))
   ·exact ih _ ch hs
  ·rcases mem_cons.1 hs with hc|hs
   ·cases hc;intro q hq;cases hq
   ·exact ih _ ch hs
  ·rcases mem_cons.1 hs with hc|hs
   ·cases hc
   ·exact ih y ch hs
  ·rcases mem_cons.1 hs with hc|hs
   ·cases hc;exact y1G _ (hl _ (mem_cons_self ..))
   ·exact ih _ ch hs
  ·rcases mem_cons.1 hs with hc|hs
   ·cases hc;trivial
   ·exact ih _ ch hs
theorem y5Y{I:List LpInfo}:∀ {l:List (Option Chunk)} (y:(y07 l).den),(∀ (β:Nat) (ch:Chunk) (q:Nat×LpInfo),l[β]?=some (some ch)->ch.lpNo=some q->I[q.1]?=some q.2) ->
  ∀ (β:Nat) (ch:Chunk) (q:Nat×LpInfo),(yI l y)[β]?=some (some ch)->ch.lpNo=some q->I[q.1]?=some q.2
 |[],_,_=>λ β ch q hb=>by simp[yI]at hb
 |x::l,y,hI=>by
  have ih:∀ (z:(y07 l).den) (β:Nat) (ch:Chunk) (q:Nat×LpInfo),(yI l z)[β]?=some (some ch)->ch.lpNo=some q->I[q.1]?=some q.2:=
   λ z=>y5Y (l:=l) z (λ β ch q hb=>hI (β+1) ch q (by simpa using hb))
  intro β ch q hb hq;rcases x with _|(⟨t,cells⟩|⟨e,t,xs,nn⟩|⟨k,v,es⟩|⟨bs,q0⟩|⟨i,info,cells,st⟩|⟨k,e,u,es,_|q0⟩|⟨t,cells⟩|⟨e,t,o,e',u,xs⟩)<;>(cases β with
   |zero=>(first|(simp[yI]at hb;done)|(simp[yI]at hb;subst hb;first|(cases hq;done)|exact hI 0 _ q rfl hq))
   |succ β=>exact ih _ β ch q (by simpa[yI]using hb) hq)
theorem yCe{I:List LpInfo}(h:LpI I s)(y:(stTy s).den):LpI I (y4t s y):=y5Y (l:=s.cH) y.2.1 h
theorem y6h(y:(stTy s).den):(y4t s y).slots=yR s.slots y.1:=Slots.toList_ofList _
theorem yKq(h:s.Ok)(y:(stTy s).den):(y4t s y).Ok:=by
 have h1:(y4t s y).cH.length=s.cH.length:=yW _ _;refine ⟨λ i sv hi=>?_,λ β ch hb=>?_,λ i sv hi=>?_⟩
 ·rw[h1];rw[y6h]at hi;refine y1G (l:=s.slots) y.1 (λ sv hs=>?_) sv (mem_of_getElem? hi)
  obtain ⟨j,hj⟩:=List.getElem?_of_mem hs;exact h.names j sv hj
 ·rw[h1];refine y5w (l:=s.cH) y.2.1 (λ c hs=>?_) ch (mem_of_getElem? hb)
  obtain ⟨j,hj⟩:=List.getElem?_of_mem hs;exact h.cN j c hj
 ·rw[h1];refine y1G (l:=s.kept) y.2.2 (λ sv hs=>?_) sv (mem_of_getElem? hi)
  obtain ⟨j,hj⟩:=List.getElem?_of_mem hs;exact h.kN j sv hj
theorem yCj{s':St}(h:Rel P A0 w0 ρ s' a w)(hs:s.Ok)(hI:LpI w0.infos s)(hd:s.dep=s'.dep/\s.rnd=s'.rnd){y:(stTy s).den}(hy:stAs s s'=some y):Weak P A0 w ρ ρ s' (y4t s y):=by
 have hnm:¬ (s.nmk=0/\s'.nmk≠0):=by
  intro hc;unfold stAs at hy;rw[if_pos hc]at hy;cases hy
 unfold stAs at hy;rw[if_neg hnm]at hy;obtain ⟨p,hp,hy2⟩:=bind_eq_some_iff.1 (show ((yY s.slots s'.slots).bind λ y=>(ye s.cH s'.cH).bind λ z=>(yY s.kept s'.kept).map λ u=>(y,z,u))=some y from hy)
 obtain ⟨q,hq,hy3⟩:=bind_eq_some_iff.1 hy2;obtain ⟨u,hu,rfl⟩:=map_eq_some_iff.1 hy3;have hok:=yKq hs (p,q,u);have hch:∀ (A A':Nat->Prop),(∀ n,n < w.heap.size->A' n->A n)->∀ (i:Nat) (ch':Chunk),(yI s.cH q)[i]?=some (some ch')->∃ ch,s'.cH[i]?=some (some ch)/\(∀ p,yB P A w ρ p ch->yB P A' w ρ p ch')/\ch'.isM=ch.isM:=
  λ A A' hA=>y9D hA s.cH s'.cH q hq hI h.lpi
 have hsub:∀ (i:Nat) (ch':Chunk),(yI s.cH q)[i]?=some (some ch')->∃ ch,s'.cH[i]?=some (some ch):=by
  intro i ch' hi;obtain ⟨ch,h1,_⟩:=hch (λ _=>True) (λ _=>True) (λ _ _ h=>h) i ch' hi
  exact ⟨ch,h1⟩
 have hA:∀ n,n < w.heap.size->Av A0 ρ (yI s.cH q) n->Av A0 ρ s'.cH n:=by
  rintro n hn ((h0|⟨i,c,hc,hb⟩)|⟨i,c,hc,hb⟩)
  ·exact .inl (.inl h0)
  ·obtain ⟨ch,h1⟩:=hsub i c hc;exact .inl (.inr ⟨i,ch,h1,hb⟩)
  ·obtain ⟨ch,h1⟩:=hsub i c hc;exact .inr ⟨i,ch,h1,hb⟩
 have hsl:=λ (A A':Nat->Prop) (hA:∀ n,n < w.heap.size->A' n->A n)=>y1O (P:=P) (ρ:=ρ) hA s.slots s'.slots p hp
 have hkl:=λ (A A':Nat->Prop) (hA:∀ n,n < w.heap.size->A' n->A n)=>y1O (P:=P) (ρ:=ρ) hA s.kept s'.kept u hu
 have hfs:(y4t s (p,q,u)).slots=yR s.slots p:=y6h _;refine ⟨by rw[hfs];exact (hsl _ _ hA).1,λ i sv sv' v h1 h2 h3=>(hsl _ _ hA).2 i sv sv' v h1 (hfs ▸ h2) h3,λ i ch' hi=>?_,λ i j c d hi hj hij hne=>?_,hok.names,hok.cN,(hkl _ _ hA).1,λ i sv sv' v h1 h2 h3=>(hkl _ _ hA).2 i sv sv' v h1 h2 h3,hok.kN,hd.1,λ h0=>Classical.byContradiction λ hn=>hnm ⟨h0,hn⟩,hd.2⟩
 ·obtain ⟨ch,h1,h2⟩:=hch _ _ hA i ch' hi;exact ⟨i,ch,h1,rfl,h2.1 _,h2.2⟩
 ·obtain ⟨c',h1⟩:=hsub i c hi;obtain ⟨d',h2⟩:=hsub j d hj;exact h.inj i j c' d' h1 h2 hij hne
theorem y2I(t:Ty)(x:t.den):y3r t t x=some x:=by simp[y3r]
theorem yKu(t:Ty)(x:t.den):conv t t x=some x:=by
 cases t<;>exact y2I _ x
theorem y57:∀ l:List Cap,y3C l l=some (yKK l)
 |[]=>rfl
 |.val t x::l=>by
  show ((y3r t t x).bind λ y=>(y3C l l).map λ z=>(y,z))=_
  rw[y2I,y57 l];rfl
 |.box β::l=>by
  show (if β=β then y3C l l else none)=some (yKK l)
  rw[if_pos rfl,y57 l]
theorem yn:∀ l:List SV,yY l l=some (y2M l)
 |[]=>rfl
 |.val t x::l=>by
  show ((conv t t x).bind λ y=>(yY l l).map λ z=>(y,z))=_
  rw[yKu,yn l];rfl
 |.clo f cs::l=>by
  show ((if f=f then y3C cs cs else none).bind λ y=>(yY l l).map λ z=>(y,z))=_
  rw[if_pos rfl,y57,yn l];rfl
 |.undef::l|.eP _ _ _ _::l|.oS _ _ _::l|.tup _ _::l|.xV _ _::l|.gone::l|.nO _ _::l|.nP _ _ _ _ _::l=>yn l
 |.sR β::l=>by
  show (if (decide (β=β))=true then yY l l else none)=some (y2M l)
  rw[if_pos (by simp),yn l]
 |.nils::l=>yn l
 |.bP β o::l=>by
  show (if (decide (β=β) && decide (o=o))=true then yY l l else none)=some (y2M l)
  rw[if_pos (by simp),yn l]
 |.own β::l=>by
  show (if (decide (β=β))=true then yY l l else none)=some (y2M l)
  rw[if_pos (by simp),yn l]
 |.mO β::l=>by
  show (if (decide (β=β))=true then yY l l else none)=some (y2M l)
  rw[if_pos (by simp),yn l]
 |.yld β::l=>by
  show (if (decide (β=β))=true then yY l l else none)=some (y2M l)
  rw[if_pos (by simp),yn l]
 |.mP β e::l=>by
  show (if (decide (β=β) && decide (e=e))=true then yY l l else none)=some (y2M l)
  rw[if_pos (by simp),yn l]
theorem yx:∀ l:List (Option Chunk),ye l l=some (y21 l)
 |[]=>rfl
 |some (.box t cells)::l=>by
  show ((if t=t then yY cells cells else none).bind λ y=>(ye l l).map λ z=>(y,z))=_
  rw[if_pos rfl,yn,yx l];rfl
 |some (.arr e t xs nn)::l=>by
  show ((if e=e/\(nn=true->nn=true)then y3r (.slice t) (.slice t) xs else none).bind λ y=>(ye l l).map λ z=>(y,z))=_
  rw[if_pos ⟨rfl,λ h=>h⟩,y2I,yx l];rfl
 |some (.mp k v es)::l=>by
  show ((y3r (.map k v) (.map k v) es).bind λ y=>(ye l l).map λ z=>(y,z))=_
  rw[y2I,yx l];rfl
 |some (.it bs q)::l=>by
  show ((some (bs,q)).bind λ y=>(ye l l).map λ z=>(y,z))=_
  rw[yx l];rfl
 |some (.lp i info cells st)::l=>by
  show ((if i=i/\st=st then yY cells cells else none).bind λ y=>(ye l l).map λ z=>(y,z))=_
  rw[if_pos ⟨rfl,rfl⟩,yn,yx l];rfl
 |some (.mps k e u es none)::l=>by
  show ((if e=e then y3r (.map k (.slice u)) (.map k (.slice u)) es else none).bind λ y=>(ye l l).map λ z=>(y,z))=_
  rw[if_pos rfl,y2I,yx l];rfl
 |some (.rcd t cells)::l=>by
  show ((if t=t then yY cells cells else none).bind λ y=>(ye l l).map λ z=>(y,z))=_
  rw[if_pos rfl,yn,yx l];rfl
 |some (.nst e t o e' u xs)::l=>by
  show ((if e=e/\o=o/\e'=e'/\u=u then y3r (.slice t) (.slice t) xs else none).bind λ y=>(ye l l).map λ z=>(y,z))=_
  rw[if_pos ⟨rfl,rfl,rfl,rfl⟩,y2I,yx l];rfl
 |some (.mps _ _ _ _ (some _))::l=>yx l
 |none::l=>yx l
theorem yKe(s:St):stAs s s=some (stX s):=by
 unfold stAs;rw[if_neg (λ h=>h.2 h.1),yn,yx,yn];rfl
theorem Rel.freezeMs:∀ (n:Nat) {s:St},Rel P A0 w0 ρ s a w->Rel P A0 w0 ρ (Vx.freezeMs n s) a w
 |0,_,h=>h
 |n+1,s,h=>by
  unfold Vx.freezeMs;refine Rel.freezeMs n ?_
  split
  ·exact h.freeze n
  ·exact h
theorem Rel.frz(h:Rel P A0 w0 ρ s a w)(c:Code):Rel P A0 w0 ρ (frzS c s) a w:=by
 unfold frzS;split
 ·exact h
 ·exact h.freezeMs _
theorem Rel.frzK:∀ (keep:List Nat) {s:St},Rel P A0 w0 ρ s a w->Rel P A0 w0 ρ (Vx.frzK keep s) a w
 |[],_,h=>h
 |k::l,s,h=>by
  unfold Vx.frzK;refine Rel.frzK l ?_
  split
  ·exact h.settle _
  ·exact h
theorem yHF(h:Rel P A0 w0 ρ s a w)(c:Code)(keep:List Nat):∃ ρ',Rel P A0 w0 ρ' (y6v c keep s) a w:=by
 obtain ⟨ρ',h1⟩:=((h.frz c).frzK keep).canon keep;refine ⟨ρ',h1.size,h1.slots,h1.cH,h1.inj,h1.names,h1.cN,h1.below,h1.dom,?_,h1.dep,h1.lpi,h1.round,h1.glob,h1.kZ,h1.kS,h1.kN,h1.subs⟩;obtain ⟨ms,⟨q1,q2,q3⟩,q4⟩:=h1.defers;refine ⟨ms,⟨q1,λ h0=>?_,q3⟩,q4⟩
 unfold y6v at h0;dsimp only at h0;split at h0
 ·cases h0
 ·exact q2 h0
theorem yMo(h:Rel P A0 w0 ρ s a w)(keep:List Nat):(canon keep s).Ok:=by
 obtain ⟨ρ',h1⟩:=y9b h keep;exact ⟨h1.names,h1.cN,h1.kN⟩
end
end Go.Vx
end
section
namespace Go.Vx
open Go.RowKit
variable [GT]
section
variable {P:Program} {A0:Nat->Prop} {w0:Base} {ρ:Places} {s:St} {a:Act} {w w':World} {g:G}
omit [GT] in
theorem y2e:∀ (D:List Nat) (cs:List (Option Chunk)),(yCc D cs).length=cs.length
 |[],_=>rfl
 |β::D,cs=>(y2e D (cs.set β none)).trans (by simp)
omit [GT] in
theorem yDf:∀ (D:List Nat) (cs:List (Option Chunk)) {γ:Nat} {c:Chunk},(yCc D cs)[γ]?=some (some c)->γ ∉ D/\cs[γ]?=some (some c)
 |[],_,_,_,h=>⟨by simp,h⟩
 |β::D,cs,γ,c,h=>by
  obtain ⟨h1,h2⟩:=yDf D (cs.set β none) h;by_cases hb:β=γ
  ·subst hb;rw[getElem?_set]at h2;simp at h2
  ·rw[getElem?_set_ne hb]at h2;exact ⟨by simp only[mem_cons,not_or];exact ⟨λ e=>hb e.symm,h1⟩,h2⟩
theorem Rel.merge(h:Rel P A0 w0 ρ s a w)(D:List Nat){ch':Chunk}{p:Place}(ho:w'.os=w.os)(ht:w'.tape=w.tape)(hu:w'.output=w.output)(hsz:w.heap.size<=w'.heap.size)
  (hblk:∀ n,n < w.heap.size->(∀ β∈D,(ρ β).blk≠some n)->w'.heap[n]?=w.heap[n]?)
  (hD:∀ β∈D,∃ c,s.cH[β]?=some (some c)/\c.lpNo=none)
  (hp:∀ b,p.blk=some b->(∃ β∈D,(ρ β).blk=some b)\/w.heap.size<=b)
  (hps:∀ n,some n∈p.subs->∃ β∈D,(ρ β).blk=some n\/some n∈(ρ β).subs)
  (hpa:∀ n,some n∈p.subs->p.blk≠some n) (hpm:ch'.isM=false->p.subs=[])
  (hi:ch'.inn s.cH.length) (hlp:ch'.lpNo=none)
  (hc:∀ A,(∀ n,n < w.heap.size->A n->Av A0 ρ s.cH n)->yB P A w' ρ p ch') :
  Rel P A0 w0 (ρ.set s.cH.length p) { s with cH:=yCc D s.cH++[some ch'] } a w':=by
 have hlen:=y2e D s.cH;have he:∀ γ,γ < s.cH.length->ρ.set s.cH.length p γ=ρ γ:=λ γ hγ=>Places.set_lt ρ p hγ
 have hcs:∀ (γ:Nat) (c:Chunk),(yCc D s.cH++[some ch'])[γ]?=some (some c)->(γ ∉ D/\γ < s.cH.length/\s.cH[γ]?=some (some c))\/(γ=s.cH.length/\c=ch'):=by
  intro γ c hg;rcases yd hg with ⟨h1,h2⟩|⟨h1,h2⟩
  ·obtain ⟨h3,h4⟩:=yDf D _ h2;exact .inl ⟨h3,hlen ▸ h1,h4⟩
  ·exact .inr ⟨hlen ▸ h1,h2⟩
 have hnb:∀ (γ:Nat) (c:Chunk),γ ∉ D->s.cH[γ]?=some (some c)->∀ b,(ρ γ).blk=some b->∀ β∈D,(ρ β).blk≠some b:=by
  intro γ c hne hgc b hb β hβ hbb;obtain ⟨d,hd,_⟩:=hD β hβ;exact hne (h.inj γ β c d hgc hd (hb.trans hbb.symm) (by rw[hb];simp) ▸ hβ)
 have hnA:∀ n,¬ Av A0 ρ s.cH n->∀ β∈D,(ρ β).blk≠some n:=λ n hn β hβ hb=>by
  obtain ⟨d,hd,_⟩:=hD β hβ;exact hn (.inr ⟨β,d,hd,hb⟩)
 have hA:∀ n,n < w.heap.size->Av A0 (ρ.set s.cH.length p) (yCc D s.cH++[some ch']) n->Av A0 ρ s.cH n:=by
  rintro n hn ((h0|⟨γ,c,hb,hbn⟩)|⟨γ,c,hb,hbn⟩)
  ·exact .inl (.inl h0)
  ·rcases hcs γ c hb with ⟨h1,h2,h3⟩|⟨rfl,rfl⟩
   ·rw[he γ h2]at hbn;exact .inl (.inr ⟨γ,c,h3,hbn⟩)
   ·rw[Places.set_self]at hbn;obtain ⟨β,hβ,hb|hb⟩:=hps n hbn
    ·obtain ⟨d,hd,_⟩:=hD β hβ;exact .inr ⟨β,d,hd,hb⟩
    ·obtain ⟨d,hd,_⟩:=hD β hβ;exact .inl (.inr ⟨β,d,hd,hb⟩)
  ·rcases hcs γ c hb with ⟨h1,h2,h3⟩|⟨rfl,rfl⟩
   ·rw[he γ h2]at hbn;exact .inr ⟨γ,c,h3,hbn⟩
   ·rw[Places.set_self]at hbn;rcases hp n hbn with ⟨β,hβ,h1⟩|h1
    ·obtain ⟨d,hd,_⟩:=hD β hβ;exact .inr ⟨β,d,hd,h1⟩
    ·omega
 have hK:Keep (Av A0 ρ s.cH) w w':=λ n hn hnA'=>hblk n hn (hnA n hnA')
 have hbase:∀ β∈D,∀ b,(ρ β).blk=some b->w0.w.heap.size<=b:=λ β hβ b hb=>by
  obtain ⟨d,hd,_⟩:=hD β hβ;exact (h.cH β d hd).2 b hb
 have hmk:∀ r:Nat,w.heap[r]?=some (Obj.deferred (some []))->w'.heap[r]?=some (Obj.deferred (some [])):=λ r hr=>by
  refine (hblk r (yN hr) λ β hβ hb=>?_).trans hr
  obtain ⟨d,hd,_⟩:=hD β hβ;exact (h.cH β d hd).1.no_mark hb hr
 refine ⟨h.size,λ i sv hs=>((h.slots i sv hs).congr he (h.names i sv hs)).mono hK hA,λ γ c hgc=>?_,λ γ δ c d hgc hd hbg hne=>?_,λ i sv hs=>SV.inn_mono (by simp[hlen]) (h.names i sv hs),λ γ c hgc=>?_,
  ⟨ho.trans h.below.os,ht.trans h.below.tape,hu.trans h.below.output,le_trans h.below.size hsz,λ n hn=>(hblk n (Nat.lt_of_lt_of_le hn h.below.size) (λ β hβ e=>by have:=hbase β hβ n e;omega)).trans (h.below.block n hn)⟩,h.dom,(let ⟨_,hm⟩:=h.defers;y1h hm hmk),h.dep,(λ γ c q hc hq=>by
   rcases hcs γ c hc with ⟨_,_,h3⟩|⟨_,rfl⟩
   ·exact h.lpi γ c q h3 hq
   ·rw[hlp]at hq;cases hq),(λ l hl=>by
   obtain ⟨r,hr⟩:=h.round l hl;refine ⟨r,(hblk l (yN hr) λ β hβ hb=>?_).trans hr⟩
   obtain ⟨d,hd,hdl⟩:=hD β hβ;exact (h.cH β d hd).1.no_loop hdl hb hr),h.glob,h.kZ,λ i sv hs=>((h.kS i sv hs).congr he (h.kN i sv hs)).mono hK hA,λ i sv hs=>SV.inn_mono (by simp[hlen]) (h.kN i sv hs),⟨λ γ c hgc hm=>?_,λ γ c n hgc hn=>?_,λ γ δ c d n hgc hd hn=>?_,λ γ δ c d n hgc hd hn hn2=>?_⟩⟩
 ·rcases hcs γ c hgc with ⟨h1,h2,h3⟩|⟨rfl,rfl⟩
  ·rw[he γ h2];refine ⟨?_,(h.cH γ c h3).2⟩;have h4:=(h.cH γ c h3).1.congr he (h.cN γ c h3);refine h4.frame (λ n hn hl=>hblk n hl (hnb γ c h1 h3 n hn)) (λ n hn hl=>hblk n hl λ β hβ hb=>?_) hK hA
   obtain ⟨d,hd,_⟩:=hD β hβ;exact h.subs.apart γ β c d n h3 hd hn hb
  ·rw[Places.set_self];refine ⟨(hc _ hA).congr he hi,λ b hb=>?_⟩
   rcases hp b hb with ⟨β,hβ,h1⟩|h1
   ·exact hbase β hβ b h1
   ·exact le_trans h.below.size h1
 ·have new:∀ (γ:Nat) (c:Chunk),γ ∉ D->s.cH[γ]?=some (some c)->(ρ γ).blk=p.blk->(ρ γ).blk=none:=by
   intro γ c hne hgc hbp;cases hq:(ρ γ).blk with
   |none=>rfl
   |some b =>
    rcases hp b (hbp ▸ hq)with ⟨β,hβ,h1⟩|h1
    ·exact absurd h1 (hnb γ c hne hgc b hq β hβ)
    ·have:=(h.cH γ c hgc).1.lt hq;omega
  rcases hcs γ c hgc with ⟨h1,h2,h3⟩|⟨h1,_⟩<;>rcases hcs δ d hd with ⟨h4,h5,h6⟩|⟨h4,_⟩
  ·rw[he γ h2,he δ h5]at hbg;rw[he γ h2]at hne;exact h.inj γ δ c d h3 h6 hbg hne
  ·subst h4;rw[he γ h2,Places.set_self]at hbg;rw[he γ h2]at hne;exact absurd (new γ c h1 h3 hbg) hne
  ·subst h1;rw[he δ h5,Places.set_self]at hbg;rw[Places.set_self]at hne;exact absurd (hbg.trans (new δ d h4 h6 hbg.symm)) hne
  ·omega
 ·rcases hcs γ c hgc with ⟨h1,h2,h3⟩|⟨rfl,rfl⟩
  ·exact Chunk.inn_mono (by simp[hlen]) (h.cN γ c h3)
  ·exact Chunk.inn_mono (by simp[hlen]) hi
 ·rcases hcs γ c hgc with ⟨h1,h2,h3⟩|⟨rfl,rfl⟩
  ·rw[he γ h2];exact h.subs.plain γ c h3 hm
  ·rw[Places.set_self];exact hpm hm
 ·rcases hcs γ c hgc with ⟨h1,h2,h3⟩|⟨rfl,rfl⟩
  ·rw[he γ h2]at hn;exact h.subs.base γ c n h3 hn
  ·rw[Places.set_self]at hn;obtain ⟨β,hβ,hb|hb⟩:=hps n hn
   ·exact hbase β hβ n hb
   ·obtain ⟨d,hd,_⟩:=hD β hβ;exact h.subs.base β d n hd hb
 ·rcases hcs γ c hgc with ⟨h1,h2,h3⟩|⟨rfl,rfl⟩
  ·rw[he γ h2]at hn;rcases hcs δ d hd with ⟨h4,h5,h6⟩|⟨rfl,rfl⟩
   ·rw[he δ h5];exact h.subs.apart γ δ c d n h3 h6 hn
   ·rw[Places.set_self];intro hpn;rcases hp n hpn with ⟨β,hβ,h7⟩|h7
    ·obtain ⟨d',hd',_⟩:=hD β hβ;exact h.subs.apart γ β c d' n h3 hd' hn h7
    ·have:=h.sub_lt h3 hn;omega
  ·rw[Places.set_self]at hn;rcases hcs δ d hd with ⟨h4,h5,h6⟩|⟨rfl,rfl⟩
   ·rw[he δ h5];obtain ⟨β,hβ,hb|hb⟩:=hps n hn
    ·intro hq;exact hnb δ d h4 h6 n hq β hβ hb
    ·obtain ⟨d',hd',_⟩:=hD β hβ;exact h.subs.apart β δ d' d n hd' h6 hb
   ·rw[Places.set_self];exact hpa n hn
 ·have key:∀ (δ:Nat) (d:Chunk),δ ∉ D->s.cH[δ]?=some (some d)->some n∈(ρ δ).subs->some n∈p.subs->False:=by
   intro δ d h1 h2 h3 h4;obtain ⟨β,hβ,hb|hb⟩:=hps n h4
   ·obtain ⟨d',hd',_⟩:=hD β hβ;exact h.subs.apart δ β d d' n h2 hd' h3 hb
   ·obtain ⟨d',hd',_⟩:=hD β hβ;exact h1 (h.subs.one δ β d d' n h2 hd' h3 hb ▸ hβ)
  rcases hcs γ c hgc with ⟨h1,h2,h3⟩|⟨rfl,rfl⟩
  ·rw[he γ h2]at hn;rcases hcs δ d hd with ⟨h4,h5,h6⟩|⟨rfl,rfl⟩
   ·rw[he δ h5]at hn2;exact h.subs.one γ δ c d n h3 h6 hn hn2
   ·rw[Places.set_self]at hn2;exact (key γ c h1 h3 hn hn2).elim
  ·rw[Places.set_self]at hn;rcases hcs δ d hd with ⟨h4,h5,h6⟩|⟨rfl,rfl⟩
   ·rw[he δ h5]at hn2;exact (key δ d h4 h6 hn2 hn).elim
   ·rfl
theorem Rel.writeSub(h:Rel P A0 w0 ρ s a w){β b:Nat}{ch ch':Chunk}(hβ:s.cH[β]?=some (some ch))(hb:some b∈(ρ β).subs)
  (hk:∀ n,n≠b->w'.heap[n]?=w.heap[n]?) (hsz:w'.heap.size=w.heap.size) (ho:w'.os=w.os) (ht:w'.tape=w.tape) (hu:w'.output=w.output) (hi:ch'.inn s.cH.length)
  (hc:∀ A,(∀ n,A n ↔ Av A0 ρ s.cH n)->yB P A w' ρ (ρ β) ch') (hlp:ch'.lpNo=ch.lpNo:=by rfl) (him:ch'.isM=ch.isM:=by rfl):Rel P A0 w0 ρ { s with cH:=s.cH.set β (some ch') } a w':=by
 have hβl:β < s.cH.length:=(List.getElem?_eq_some_iff.1 hβ).1;obtain ⟨vs0,e0,hcell⟩:=h.sub_cells hβ hb;have hcs:∀ (γ:Nat) (c:Chunk),(s.cH.set β (some ch'))[γ]?=some (some c)->(γ=β/\c=ch')\/(γ≠β/\s.cH[γ]?=some (some c)):=by
  intro γ c hg;by_cases hbg:β=γ
  ·subst hbg;rw[getElem?_set_self hβl]at hg;cases hg;exact .inl ⟨rfl,rfl⟩
  ·rw[getElem?_set_ne hbg]at hg;exact .inr ⟨λ e=>hbg e.symm,hg⟩
 have old:∀ (γ:Nat) (c:Chunk),(s.cH.set β (some ch'))[γ]?=some (some c)->∃ c',s.cH[γ]?=some (some c')/\(c.isM=false->c'.isM=false):=by
  intro γ c hg;rcases hcs γ c hg with ⟨rfl,rfl⟩|⟨_,hg⟩
  ·exact ⟨ch,hβ,λ e=>him ▸ e⟩
  ·exact ⟨c,hg,id⟩
 have new:∀ (γ:Nat) (c:Chunk),s.cH[γ]?=some (some c)->∃ c',(s.cH.set β (some ch'))[γ]?=some (some c'):=by
  intro γ c hg;by_cases hbg:β=γ
  ·subst hbg;exact ⟨ch',getElem?_set_self hβl⟩
  ·exact ⟨c,by rw[getElem?_set_ne hbg];exact hg⟩
 have hA:∀ n,Av A0 ρ (s.cH.set β (some ch')) n ↔ Av A0 ρ s.cH n:=by
  intro n;constructor
  ·rintro ((h0|⟨γ,c,hg,hbn⟩)|⟨γ,c,hg,hbn⟩)
   ·exact .inl (.inl h0)
   ·obtain ⟨c',h1,_⟩:=old γ c hg;exact .inl (.inr ⟨γ,c',h1,hbn⟩)
   ·obtain ⟨c',h1,_⟩:=old γ c hg;exact .inr ⟨γ,c',h1,hbn⟩
  ·rintro ((h0|⟨γ,c,hg,hbn⟩)|⟨γ,c,hg,hbn⟩)
   ·exact .inl (.inl h0)
   ·obtain ⟨c',h1⟩:=new γ c hg;exact .inl (.inr ⟨γ,c',h1,hbn⟩)
   ·obtain ⟨c',h1⟩:=new γ c hg;exact .inr ⟨γ,c',h1,hbn⟩
 have hAb:Av A0 ρ s.cH b:=.inl (.inr ⟨β,ch,hβ,hb⟩);have hK:Keep (Av A0 ρ s.cH) w w':=λ n _ hn=>hk n (λ e=>hn (e ▸ hAb))
 have hA1:∀ n,n < w.heap.size->Av A0 ρ (s.cH.set β (some ch')) n->Av A0 ρ s.cH n:=λ n _ hn=>(hA n).1 hn
 have hbw:w0.w.heap.size<=b:=h.subs.base β ch b hβ hb;refine ⟨h.size,λ i sv hs=>(h.slots i sv hs).mono hK hA1,λ γ c hg=>?_,λ γ δ c d hg hd hbg hne=>?_,λ i sv hs=>by simpa using h.names i sv hs,λ γ c hg=>?_,⟨ho.trans h.below.os,ht.trans h.below.tape,hu.trans h.below.output,hsz ▸ h.below.size,λ n hn=>(hk n (by omega)).trans (h.below.block n hn)⟩,h.dom,
  (let ⟨_,hm⟩:=h.defers;y1h hm λ r hr=>(hk r λ e=>by subst e;rw[hcell]at hr;cases hr).trans hr),h.dep,(λ γ c q hg hq=>?_),(λ l hl=>by
  obtain ⟨r,hr⟩:=h.round l hl;exact ⟨r,(hk l λ e=>by subst e;rw[hcell]at hr;cases hr).trans hr⟩),h.glob,h.kZ,λ i sv hs=>(h.kS i sv hs).mono hK hA1,λ i sv hs=>by simpa using h.kN i sv hs,h.subs.sub old⟩
 ·rcases hcs γ c hg with ⟨rfl,rfl⟩|⟨hne,hg⟩
  ·exact ⟨hc _ hA,(h.cH γ ch hβ).2⟩
  ·refine ⟨(h.cH γ c hg).1.frame (λ n hn _=>hk n λ e=>?_) (λ n hn _=>hk n λ e=>?_) hK hA1,(h.cH γ c hg).2⟩
   ·subst e;exact h.subs.apart β γ ch c n hβ hg hb hn
   ·subst e;exact hne (h.subs.one γ β c ch n hg hβ hn hb)
 ·obtain ⟨c1,h1,_⟩:=old γ c hg;obtain ⟨c2,h2,_⟩:=old δ d hd;exact h.inj γ δ c1 c2 h1 h2 hbg hne
 ·rcases hcs γ c hg with ⟨rfl,rfl⟩|⟨_,hg⟩
  ·simpa using hi
  ·simpa using h.cN γ c hg
 ·rcases hcs γ c hg with ⟨rfl,rfl⟩|⟨_,hg⟩
  ·exact h.lpi γ ch q hβ (hlp ▸ hq)
  ·exact h.lpi γ c q hg hq
theorem yB.mapS{A A':Nat->Prop}{p:Place}{ch:Chunk}{f:SV->SV}(hA:∀ n,n < w.heap.size->A' n->A n)(hf:∀ sv v,yF P A w ρ sv v->yF P A w ρ (f sv) v)(h:yB P A w ρ p ch):yB P A' w ρ p (ch.map f):=by
 have hm:∀ sv v,yF P A w ρ sv v->yF P A' w ρ (f sv) v:=λ sv v h=>(hf sv v h).mono (λ _ _ _=>rfl) hA
 have same:∀ c:Chunk,yB P A w ρ p c->yB P A' w ρ p c:=λ c h=>h.frame (λ _ _ _=>rfl) (λ _ _ _=>rfl) (λ _ _ _=>rfl) hA
 have cells:∀ (l:List SV) (i:Nat) (sv:SV),(l.map f)[i]?=some sv->∃ sv',l[i]?=some sv'/\f sv'=sv:=λ l i sv hi=>by
  rw[getElem?_map,map_eq_some_iff]at hi;exact hi
 cases ch with
 |box t l =>
  obtain ⟨b,vs,e,hb,h1,⟨h2,h2'⟩,h3⟩:=h;refine ⟨b,vs,e,hb,h1,⟨by rw[length_map];exact h2,h2'⟩,λ i sv hi=>?_⟩
  obtain ⟨sv',h4,rfl⟩:=cells _ _ _ hi;obtain ⟨v,h5,h6⟩:=h3 i sv' h4;exact ⟨v,h5,hm _ _ h6⟩
 |rcd t l =>
  obtain ⟨h1,h2,h2',h3⟩:=h;refine ⟨h1,h2,by rw[length_map];exact h2',λ i sv hi=>?_⟩
  obtain ⟨sv',h4,rfl⟩:=cells _ _ _ hi;obtain ⟨v,h5,h6⟩:=h3 i sv' h4;exact ⟨v,h5,hm _ _ h6⟩
 |lp i info l st =>
  obtain ⟨b,r,hb,h1,h2,h2',h3⟩:=h;refine ⟨b,r,hb,h1,h2,by rw[length_map];exact h2',λ i sv hi=>?_⟩
  obtain ⟨sv',h4,rfl⟩:=cells _ _ _ hi;obtain ⟨v,h5,h6⟩:=h3 i sv' h4;exact ⟨v,h5,hm _ _ h6⟩
 |arr e t xs nn=>exact same (.arr e t xs nn) h
 |mp k v es=>exact same (.mp k v es) h
 |it bs q=>exact same (.it bs q) h
 |mps k e u es hole=>exact same (.mps k e u es hole) h
 |nst e t q e' u xs=>exact same (.nst e t q e' u xs) h
omit [GT] in
theorem St.mapS_slots(s:St)(f:SV->SV):(s.mapS f).slots=s.slots.map f:=Slots.toList_map _ _
omit [GT] in
theorem y3a{cs:List (Option Chunk)}{f:SV->SV}{β:Nat}{c:Chunk}(h:(cs.map (Option.map (Chunk.map f)))[β]?=some (some c)):∃ c',cs[β]?=some (some c')/\c=c'.map f:=by
 rw[getElem?_map,map_eq_some_iff]at h;obtain ⟨o,h1,h2⟩:=h;cases o with
 |none=>cases h2
 |some c'=>exact ⟨c',h1,by cases h2;rfl⟩
theorem Rel.mapS(h:Rel P A0 w0 ρ s a w)(f:SV->SV)(hf:∀ sv v,yF P (Av A0 ρ s.cH) w ρ sv v->yF P (Av A0 ρ s.cH) w ρ (f sv) v)(hin:∀ sv:SV,sv.inn s.cH.length->(f sv).inn s.cH.length):Rel P A0 w0 ρ (s.mapS f) a w:=by
 have hlen:(s.mapS f).cH.length=s.cH.length:=by simp[St.mapS]
 have hA:∀ n,Av A0 ρ (s.mapS f).cH n->Av A0 ρ s.cH n:=by
  rintro n ((h0|⟨β,c,hb,hn⟩)|⟨β,c,hb,hn⟩)
  ·exact .inl (.inl h0)
  ·obtain ⟨c',h1,_⟩:=y3a hb;exact .inl (.inr ⟨β,c',h1,hn⟩)
  ·obtain ⟨c',h1,_⟩:=y3a hb;exact .inr ⟨β,c',h1,hn⟩
 have hm:∀ sv v,yF P (Av A0 ρ s.cH) w ρ sv v->yF P (Av A0 ρ (s.mapS f).cH) w ρ (f sv) v:=λ sv v h=>(hf sv v h).mono (λ _ _ _=>rfl) λ n _ hn=>hA n hn
 have hlp:∀ c:Chunk,(c.map f).lpNo=c.lpNo:=λ c=>by cases c<;>rfl
 have hisM:∀ c:Chunk,(c.map f).isM=c.isM:=λ c=>by cases c<;>rfl
 have hci:∀ c:Chunk,c.inn s.cH.length->(c.map f).inn s.cH.length:=λ c hc=>by
  cases c<;>first|exact hc|(intro sv hs;obtain ⟨sv',h1,rfl⟩:=mem_map.1 hs;exact hin _ (hc _ h1))
 refine h.weak (ρ':=ρ) ⟨?_,λ i sv sv' v h1 h2 h3=>?_,λ β ch' hb=>?_,λ β δ c d hb hd=>?_,λ i sv hi=>?_,λ β ch hb=>?_,?_,λ i sv sv' v h1 h2 h3=>?_,λ i sv hi=>?_,rfl,λ h=>h,rfl⟩ (λ β ch q hb hq=>?_)
 ·rw[St.mapS_slots,length_map]
 ·rw[St.mapS_slots,getElem?_map,h1]at h2;cases h2;exact hm _ _ h3
 ·obtain ⟨c',h1,rfl⟩:=y3a hb;exact ⟨β,c',h1,rfl,λ hr=>hr.mapS (λ n _ hn=>hA n hn) hf,hisM c'⟩
 ·obtain ⟨c',h1,rfl⟩:=y3a hb;obtain ⟨d',h2,rfl⟩:=y3a hd;exact h.inj β δ c' d' h1 h2
 ·rw[St.mapS_slots,getElem?_map,map_eq_some_iff]at hi;obtain ⟨sv',h1,rfl⟩:=hi;rw[hlen];exact hin _ (h.names i sv' h1)
 ·obtain ⟨c',h1,rfl⟩:=y3a hb;rw[hlen];exact hci _ (h.cN β c' h1)
 ·show (s.kept.map f).length=_
  rw[length_map]
 ·rw[show (s.mapS f).kept=s.kept.map f from rfl,getElem?_map,h1]at h2
  cases h2;exact hm _ _ h3
 ·rw[show (s.mapS f).kept=s.kept.map f from rfl,getElem?_map,map_eq_some_iff]at hi
  obtain ⟨sv',h1,rfl⟩:=hi;rw[hlen];exact hin _ (h.kN i sv' h1)
 ·obtain ⟨c',h1,rfl⟩:=y3a hb;rw[hlp]at hq;exact h.lpi β c' q h1 hq
end
end Go.Vx
end
section
namespace Go.Vx
open Go.RowKit
variable [GT]
section
variable {P:Program} {A0:Nat->Prop} {w0:Base} {ρ ρ':Places} {s:St} {a:Act} {w w':World} {g:G}
def Same(p q:Place):Prop:=p.blk=q.blk/\p.len=q.len/\p.cap=q.cap/\p.vals=q.vals/\p.ns=q.ns
theorem yg.same{A:Nat->Prop}{n:Nat}(he:∀ β,β < n->Same (ρ' β) (ρ β)):∀ {cs:List Cap} {vs:List Value},y0K n cs->yg P A w ρ cs vs->yg P A w ρ' cs vs
 |[],[],_,_=>trivial
 |[],_::_,_,h=>h
 |_::_,[],_,h=>h
 |.box β::cs,v::vs,hi,h=>⟨by have:=h.1;simp only[yC9]at this ⊢;rw[(he β hi.1).1];exact this,yg.same he hi.2 h.2⟩
 |.val t x::cs,v::vs,hi,h=>⟨h.1,yg.same he hi h.2⟩
theorem yF.same{A:Nat->Prop}{n:Nat}(he:∀ β,β < n->Same (ρ' β) (ρ β)){sv:SV}{v:Value}(hi:sv.inn n)(h:yF P A w ρ sv v):yF P A w ρ' sv v:=by
 cases sv with
 |bP β off=>obtain ⟨e1,e2,e3,e4,e5⟩:=he β hi;simp only[yF]at h ⊢;rw[e1];exact h
 |own β=>obtain ⟨e1,e2,e3,e4,e5⟩:=he β hi;simp only[yF]at h ⊢;rw[e1,e2,e3];exact h
 |mO β=>obtain ⟨e1,e2,e3,e4,e5⟩:=he β hi;simp only[yF]at h ⊢;rw[e1];exact h
 |yld β=>obtain ⟨e1,e2,e3,e4,e5⟩:=he β hi;simp only[yF]at h ⊢;rw[e1];exact h
 |mP β e=>obtain ⟨e1,e2,e3,e4,e5⟩:=he β hi;simp only[yF]at h ⊢;rw[e1,e2];exact h
 |eP β i sz off=>obtain ⟨e1,e2,e3,e4,e5⟩:=he β hi;simp only[yF]at h ⊢;rw[e1];exact h
 |oS β n sz=>obtain ⟨e1,e2,e3,e4,e5⟩:=he β hi;simp only[yF]at h ⊢;rw[e1,e2,e3];exact h
 |sR β=>obtain ⟨e1,e2,e3,e4,e5⟩:=he β hi;simp only[yF]at h ⊢;rw[e4];exact h
 |nO β i=>obtain ⟨e1,e2,e3,e4,e5⟩:=he β hi;simp only[yF]at h ⊢;rw[e5];exact h
 |nP β i j sz off=>obtain ⟨e1,e2,e3,e4,e5⟩:=he β hi;simp only[yF]at h ⊢;rw[e5];exact h
 |clo f caps=>obtain ⟨vs,h2,h3⟩:=h;exact ⟨vs,h2,h3.same he hi⟩
 |_=>exact h
theorem yB.same{A:Nat->Prop}{n:Nat}(he:∀ β,β < n->Same (ρ' β) (ρ β)){p:Place}{ch:Chunk}(hi:ch.inn n)(h:yB P A w ρ p ch):yB P A w ρ' p ch:=by
 cases ch with
 |box t cells =>
  obtain ⟨b,vs,e,hb,h1,h2,h3⟩:=h;exact ⟨b,vs,e,hb,h1,h2,λ i sv hs=>let ⟨v,hv,hr⟩:=h3 i sv hs;⟨v,hv,hr.same he (hi sv (mem_of_getElem? hs))⟩⟩
 |lp i info cells st =>
  obtain ⟨b,r,hb,h1,h2,h3,h4⟩:=h;exact ⟨b,r,hb,h1,h2,h3,λ i sv hs=>let ⟨v,hv,hr⟩:=h4 i sv hs;⟨v,hv,hr.same he (hi sv (mem_of_getElem? hs))⟩⟩
 |arr e t xs nn=>simpa only[yB]using h
 |mp k v es=>simpa only[yB]using h
 |it bs q=>simpa only[yB]using h
 |mps k e u es hole =>
  obtain ⟨b,ms,c,hb,h1,h2,⟨h3,h4⟩,h5⟩:=h;refine ⟨b,ms,c,hb,h1,h2,⟨h3,λ q hq hx=>?_⟩,λ i x hx=>?_⟩
  ·obtain ⟨e1,e2,e3,e4,e5⟩:=he _ (hi q hq);rw[e1,e2,e3];exact h4 q hq hx
  ·obtain ⟨en,o,h6,h7,h8,h9⟩:=h5 i x hx;refine ⟨en,o,h6,h7,h8,?_⟩;rcases h9 with ⟨q,hq,h9,h10,h11⟩|h9
   ·obtain ⟨e1,e2,e3,e4,e5⟩:=he _ (hi q hq);exact .inl ⟨q,hq,h9,h10,by rw[e1,e2,e3];exact h11⟩
   ·exact .inr h9
 |rcd t cells =>
  obtain ⟨h1,h2,h3,h4⟩:=h;exact ⟨h1,h2,h3,λ i sv hs=>let ⟨v,hv,hr⟩:=h4 i sv hs;⟨v,hv,hr.same he (hi sv (mem_of_getElem? hs))⟩⟩
 |nst e t o e' u xs=>simpa only[yB]using h
theorem Rel.split(h:Rel P A0 w0 ρ s a w)(β:Nat)(x:SV):∃ ρ',Rel P A0 w0 ρ' (s.split β x) a w:=⟨ρ,h⟩
theorem Rel.splitAt(h:Rel P A0 w0 ρ s a w)(ops:List Oper):∃ ρ',Rel P A0 w0 ρ' (Vx.splitAt g ops s) a w:=by
 unfold Vx.splitAt;split
 ·exact h.split _ _
 ·exact ⟨ρ,h⟩
end
end Go.Vx
end
section
namespace Go.Vx
open Go.RowKit
variable [GT]
section
variable {P:Program} {A0:Nat->Prop} {w0:Base} {ρ:Places} {s:St} {a:Act} {w w':World} {g:G} {R:Type} {K:St->Option R} {r:R} {o:Oper}
def Eff(P:Program)(A0:Nat->Prop)(w0:Base)(a:Act)(w:World)(o:Oper)(K:St->Option R)(r:R):Prop:=
 ∃ a' w' ρ' s',((∃ v,(execOp a.eval o).run P w=.ok (.value v) w'/\a'=a.put o.dst v)\/((execOp a.eval o).run P w=.ok .skip w'/\a'=a.put o.dst undef))/\Rel P A0 w0 ρ' s' a' w'/\K s'=some r
theorem Eff.val{v:Value}{ρ':Places}{s':St}(h1:(execOp a.eval o).run P w=.ok (.value v) w')(h2:Rel P A0 w0 ρ' s' (a.put o.dst v) w')(h3:K s'=some r):Eff P A0 w0 a w o K r:=
 ⟨_,w',ρ',s',.inl ⟨v,h1,rfl⟩,h2,h3⟩
theorem Eff.skip{ρ':Places}{s':St}(h1:(execOp a.eval o).run P w=.ok .skip w')(h2:Rel P A0 w0 ρ' s' (a.put o.dst undef) w')(h3:K s'=some r):Eff P A0 w0 a w o K r:=
 ⟨_,w',ρ',s',.inr ⟨h1,rfl⟩,h2,h3⟩
theorem Yld.eff{F:SV->Option R}(h:Rel P A0 w0 ρ s a w)(hy:Yld P A0 ρ s a w o F r)(hF:∀ sv,F sv=K (s.put o.dst sv)):Eff P A0 w0 a w o K r:=by
 obtain ⟨sv,v,w',h1,h2,h3,h4,h5⟩:=hy;exact Eff.val h1 ((h.step h2).put o.dst h4 h3) ((hF sv).symm.trans h5)
theorem y3A(n:Nat):∀ (t:Ty) (x:t.den),∀ sv∈y0Y t x,sv.inn n:=by
 intro t;induction t with
 |pair a b iha ihb =>
  intro x sv hs;rcases mem_append.1 hs with hs|hs
  ·exact iha _ sv hs
  ·exact ihb _ sv hs
 |arr m t ih =>
  intro x sv hs;obtain ⟨i,_,hi⟩:=List.mem_flatMap.1 hs;exact ih _ sv hi
 |unit=>intro x sv hs;cases hs
 |_=>intro x sv hs;simp only[y0Y,mem_singleton]at hs;subst hs;trivial
theorem y8L(n:Nat):∀ (t:Ty),∀ sv∈y0y t,sv.inn n:=by
 intro t;induction t with
 |pair a b iha ihb =>
  intro sv hs;rcases mem_append.1 hs with hs|hs
  ·exact iha sv hs
  ·exact ihb sv hs
 |arr m t ih =>
  intro sv hs;obtain ⟨l,hl,hi⟩:=List.mem_flatten.1 hs;rw[List.mem_replicate]at hl;rw[hl.2]at hi;exact ih sv hi
 |unit=>intro sv hs;cases hs
 |_=>intro sv hs;simp only[y0y,mem_singleton]at hs;subst hs;trivial
theorem Rel.newBox(h:Rel P A0 w0 ρ s a w){t:Ty}{cells:List SV}{l:List Value}{e:TypeId}(d:Option Nat)(hin:∀ sv∈cells,sv.inn s.cH.length)
  (hc:∀ A,(∀ n,n < w.heap.size->A n->Av A0 ρ s.cH n)->yD P A (w.alloc (.cells l.toArray e)) ρ cells l) :
  ∃ ρ',Rel P A0 w0 ρ' ({ s with cH:=s.cH++[some (Chunk.box t cells)] }.put d (.bP s.cH.length 0)) (a.put d (.pointer (some ⟨w.heap.size,0,none⟩))) (w.alloc (.cells l.toArray e)):=by
 have h1:=h.newChunk (.box t cells) ⟨some w.heap.size,e,0,[],[],[]⟩ (y0L w (.cells l.toArray e)) (λ b hb=>by cases hb;exact le_refl _) hin
  (λ A hA _=>⟨w.heap.size,l.toArray,e,rfl,heap_alloc_new w _,⟨by simpa using (hc A hA).1,rfl⟩,λ i sv hi=>by simpa using (hc A hA).2 i sv hi⟩)
 refine ⟨_,h1.put d (sv:=.bP s.cH.length 0) ?_ ?_⟩
 ·show s.cH.length < (s.cH++[_]).length
  simp
 ·exact ⟨w.heap.size,by rw[Places.set_self],rfl⟩
theorem Rel.newSelf(h:Rel P A0 w0 ρ s a w){t:Ty}{cells:List SV}{l:List Value}{e:TypeId}(d:Option Nat)(hin:∀ sv∈cells,sv.inn s.cH.length)
  (hc:∀ A,(∀ n,n < w.heap.size->A n->Av A0 ρ s.cH n)->yD P A (w.alloc (.cells l.toArray e)) ρ cells l) (h0:∀ u,t=.pair (.ref .unit) u->l[0]?=some (.pointer none)) :
  ∃ ρ',Rel P A0 w0 ρ' ({ s with cH:=s.cH++[some (Chunk.box t (y14 t s.cH.length e cells))] }.put d (.bP s.cH.length 0)) (a.put d (.pointer (some ⟨w.heap.size,0,none⟩))) (w.alloc (.cells l.toArray e)):=by
 by_cases ht:∃ u,t=.pair (.ref .unit) u
 ·obtain ⟨u,rfl⟩:=ht;have h1:=h.newChunk (.box (.pair (.ref .unit) u) cells) ⟨some w.heap.size,e,0,[],[],[]⟩ (y0L w (.cells l.toArray e)) (λ b hb=>by cases hb;exact le_refl _) hin
   (λ A hA _=>⟨w.heap.size,l.toArray,e,rfl,heap_alloc_new w _,⟨by simpa using (hc A hA).1,rfl⟩,λ i sv hi=>by simpa using (hc A hA).2 i sv hi⟩)
  have hβ:(s.cH++[some (Chunk.box (.pair (.ref .unit) u) cells)])[s.cH.length]?=some (some (Chunk.box (.pair (.ref .unit) u) cells)):=by simp
  have h2:=h1.write (w':=w.alloc (.cells l.toArray e)) (ch':=.box (.pair (.ref .unit) u) (y14 (.pair (.ref .unit) u) s.cH.length e cells)) hβ (b:=w.heap.size) (by rw[Places.set_self]) (λ _ _=>rfl) rfl rfl rfl rfl
   (λ sv hs=>by
    simp only[y14]at hs;rcases List.mem_or_eq_of_mem_set hs with hs|rfl
    ·exact SV.inn_mono (by simp) (hin sv hs)
    ·show s.cH.length < (s.cH++[_]).length
     simp)
   (λ A hA=>by
    obtain ⟨b,vs,e',hb,hg,⟨hlen,he⟩,hcr⟩:=(h1.cH _ _ hβ).1.keep (w':=w.alloc (.cells l.toArray e)) (A':=A) (λ _ _=>rfl) (λ n _ hn=>(hA n).1 hn)
    refine ⟨b,vs,e',hb,hg,⟨by simp[y14,hlen],he⟩,λ i sv hi=>?_⟩
    simp only[y14,getElem?_set]at hi;split at hi
    ·rename_i hi0;subst hi0;split at hi
     ·cases hi;rw[Places.set_self]at hb he;cases hb;rw[heap_alloc_new]at hg;cases hg;refine ⟨.pointer none,by simpa using h0 u rfl,?_⟩
      show ((ρ.set s.cH.length ⟨some w.heap.size,e,0,[],[],[]⟩) s.cH.length).len=e/\_
      rw[Places.set_self];exact ⟨rfl,w.heap.size,rfl,.inl rfl⟩
     ·cases hi
    ·exact hcr i sv hi)
  have e1:(s.cH++[some (Chunk.box (.pair (.ref .unit) u) cells)]).set s.cH.length (some (Chunk.box (.pair (.ref .unit) u) (y14 (.pair (.ref .unit) u) s.cH.length e cells)))=s.cH++[some (Chunk.box (.pair (.ref .unit) u) (y14 (.pair (.ref .unit) u) s.cH.length e cells))]:=by
   simp
  simp only at h2;rw[e1]at h2;refine ⟨_,h2.put d (sv:=.bP s.cH.length 0) ?_ ?_⟩
  ·show s.cH.length < (s.cH++[_]).length
   simp
  ·exact ⟨w.heap.size,by rw[Places.set_self],rfl⟩
 ·have e1:y14 t s.cH.length e cells=cells:=by
   unfold y14;split
   ·exact absurd ⟨_,rfl⟩ ht
   ·rfl
  rw[e1];exact h.newBox d hin hc
theorem y1m{t:Ty}{l:List Value}(h:l.length=t.size)(hp:∀ v∈l,Value.plain1 v=true):(t.wrap l).cells=l.toArray:=by
 unfold Ty.wrap;split
 ·rfl
 ·rename_i ha;have h1:t.size=1:=y28 (by simpa using ha)
  rw[h1]at h;obtain ⟨v,rfl⟩:=List.length_eq_one_iff.1 h;have:=hp v (by simp)
  cases v<;>first|rfl|(simp[Value.plain1]at this)
theorem y3c:∀ (t:Ty),∀ v∈t.zeroV,Value.plain1 v=true:=by
 intro t;induction t with
 |pair a b iha ihb =>
  intro v hs;rcases mem_append.1 hs with hs|hs
  ·exact iha v hs
  ·exact ihb v hs
 |arr m t ih =>
  intro v hs;obtain ⟨l,hl,hi⟩:=List.mem_flatten.1 hs;rw[List.mem_replicate]at hl;rw[hl.2]at hi;exact ih v hi
 |unit=>intro v hs;cases hs
 |_=>intro v hs;simp only[Ty.zeroV,mem_singleton]at hs;subst hs;rfl
theorem Rel.addNone(T:List (TypeId×TyI)):∀ (l:List TypeId) {ρ:Places} {s:St},Rel P A0 w0 ρ s a w->∃ ρ',Rel P A0 w0 ρ' { s with cH:=s.cH++ya T l } a w /\
  (∀ β,β < s.cH.length->ρ' β=ρ β)/\∀ β,s.cH.length<=β->β < s.cH.length+(ya T l).length->ρ' β=⟨none,0,0,[],[],[]⟩
 |[],ρ,s,h=>⟨ρ,by simpa[ya]using h,λ _ _=>rfl,λ β h1 h2=>by simp[ya]at h2;omega⟩
 |t::l,ρ,s,h=>by
  unfold ya;split
  ·exact ⟨ρ,by simpa using h,λ _ _=>rfl,λ β h1 h2=>by simp at h2;omega⟩
  ·rename_i i _;split
   ·rename_i u _;have h1:=h.newChunk (w':=w) (.arr i.elem u [] false) ⟨none,0,0,[],[],[]⟩ (Below.refl _ _) (λ b hb=>by cases hb) trivial
     (λ A hA _=>⟨rfl,λ h=>by simp at h,.inl ⟨rfl,rfl,rfl⟩⟩)
    obtain ⟨ρ',h2,h3,h4⟩:=Rel.addNone T l h1;simp only[length_append,length_singleton]at h3 h4;refine ⟨ρ',by simpa using h2,λ β hβ=>?_,λ β hβ hβ'=>?_⟩
    ·rw[h3 β (by omega)]
     exact Places.set_lt ρ _ hβ
    ·by_cases he:β=s.cH.length
     ·subst he;rw[h3 _ (by omega)]
      exact Places.set_self ρ _ _
     ·refine h4 β (by omega) ?_
      simp only[length_cons]at hβ';omega
   ·exact Rel.addNone T l h
theorem y0c{T:List (TypeId×TyI)}{A:Nat->Prop}:∀ (l:List TypeId) (m:Nat) (u:Ty),y3j T l=some u->(∀ β,m<=β->β < m+(ya T l).length->ρ β=⟨none,0,0,[],[],[]⟩) ->
  yD P A w ρ (y0O T l m) u.zeroV/\∀ sv∈y0O T l m,sv.inn (m+(ya T l).length)
 |[],m,u,h,_=>by
  simp only[y3j,Option.some.injEq]at h;subst h;exact ⟨⟨rfl,λ i sv hi=>by simp[y0O]at hi⟩,λ sv hs=>by simp[y0O]at hs⟩
 |t::l,m,u,h,hρ=>by
  simp only[y3j,bind_eq_some_iff,map_eq_some_iff]at h;obtain ⟨i,hi,b,hb,rfl⟩:=h;by_cases hsl:∃ v,i.ty=.slice v
  ·obtain ⟨v,hv⟩:=hsl;have hch:ya T (t::l)=some (.arr i.elem v [] false)::ya T l:=by simp only[ya,hi,hv]
   have hce:y0O T (t::l) m=.own m::y0O T l (m+1):=by simp only[y0O,hi,hv]
   rw[hch]at hρ ⊢;rw[hce];simp only[length_cons]at hρ ⊢;obtain ⟨h1,h2⟩:=y0c l (m+1) b hb (λ β h3 h4=>hρ β (by omega) (by omega))
   refine ⟨?_,λ sv hs=>?_⟩
   ·rw[show (Ty.pair i.ty b).zeroV=i.ty.zeroV++b.zeroV from rfl,hv]
    refine yD.append (s1:=[.own m]) (yD.one ?_) h1;show _=Value.slice _ _ _
    rw[hρ m (by omega) (by omega)]
    rfl
   ·rcases mem_cons.1 hs with rfl|hs
    ·show m < _
     omega
    ·exact SV.inn_mono (by omega) (h2 sv hs)
  ·have hch:ya T (t::l)=ya T l:=by
    simp only[ya,hi];split
    ·rename_i v hv;exact absurd ⟨v,hv⟩ hsl
    ·rfl
   have hce:y0O T (t::l) m=y0y i.ty++y0O T l m:=by
    simp only[y0O,hi];split
    ·rename_i v hv;exact absurd ⟨v,hv⟩ hsl
    ·rfl
   rw[hch]at hρ ⊢;rw[hce];obtain ⟨h1,h2⟩:=y0c l m b hb hρ;refine ⟨yD.append (y6I _) h1,λ sv hs=>?_⟩
   rcases mem_append.1 hs with hs|hs
   ·exact y8L _ _ sv hs
   ·exact h2 sv hs
theorem y4v(h:Rel P A0 w0 ρ s a w){e:TypeId}{i:TyI}(hi:yV g.T e=some i)(hrun:(execOp a.eval o).run P w=.ok (.value (.pointer (some ⟨w.heap.size,0,none⟩))) (w.alloc (.cells i.ty.zeroV.toArray e)))(hk:y3U g s e i o.dst K=some r):Eff P A0 w0 a w o K r:=by
 unfold y3U at hk;split at hk
 ·rename_i u hu;obtain ⟨ρ',g1,g2,g3⟩:=Rel.addNone g.T [e] h;have hpr:y3j g.T [e]=some (.pair i.ty .unit):=by simp[y3j,hi]
  obtain ⟨ρ2,hR⟩:=g1.newBox (t:=i.ty) (cells:=y0O g.T [e] s.cH.length) (l:=i.ty.zeroV) (e:=e) o.dst
   (by have:=(y0c (P:=P) (A:=λ _=>False) (w:=w) (ρ:=ρ') [e] s.cH.length _ hpr g3).2;simpa using this)
   (λ A hA=>by rw[show i.ty.zeroV=(Ty.pair i.ty .unit).zeroV by simp[Ty.zeroV]];exact (y0c [e] s.cH.length _ hpr g3).1)
  exact Eff.val hrun hR hk
 ·obtain ⟨hp,hk'⟩:=yG hk;obtain ⟨ρ',g1,g2,g3⟩:=Rel.addNone g.T (i.fields.map (·.2)) h;obtain ⟨ρ2,hR⟩:=g1.newSelf (t:=i.ty) (cells:=y0O g.T (i.fields.map (·.2)) s.cH.length) (l:=i.ty.zeroV) (e:=e) o.dst
   (by have:=(y0c (P:=P) (A:=λ _=>False) (w:=w) (ρ:=ρ') (i.fields.map (·.2)) s.cH.length _ hp g3).2;simpa using this)
   (λ A hA=>(y0c (i.fields.map (·.2)) s.cH.length _ hp g3).1)
   (λ u hu=>by rw[hu];rfl)
  exact Eff.val hrun hR hk'
theorem y9C(hT:yw P g.T)(h:Rel P A0 w0 ρ s a w){e:TypeId}(ho:o.op=.alloc e)(hk:effK g s o K=some r):Eff P A0 w0 a w o K r:=by
 simp only[effK,ho]at hk;split at hk
 ·rename_i i hi;obtain ⟨inf,d,h1,h2,h3,h4,h5,h6⟩:=(hT.fits hi).ex;have hc:(i.ty.wrap i.ty.zeroV).cells=i.ty.zeroV.toArray:=y1m (yZ _) (y3c _);have hrun:(execOp a.eval o).run P w=.ok (.value (.pointer (some ⟨w.heap.size,0,none⟩))) (w.alloc (.cells i.ty.zeroV.toArray e)):=by
   simp only[execOp,ho,Sem.run_bind,Instr.alloc,y3N h1 h6,newVar,newRow,hc,Result.andThen_ok,Sem.run_pure];simp
  split at hk
  ·exact y4v h hi hrun hk
  ·obtain ⟨ρ',hR⟩:=h.newBox (t:=i.ty) (cells:=y0y i.ty) (l:=i.ty.zeroV) (e:=e) o.dst (y8L _ _) (λ A hA=>y6I _)
   exact Eff.val hrun hR hk
 ·cases hk
theorem yD4(hT:yw P g.T)(h:Rel P A0 w0 ρ s a w){e:TypeId}{x:Operand}(ho:o.op=.box e x)(hk:effK g s o K=some r):Eff P A0 w0 a w o K r:=by
 simp only[effK,ho]at hk;split at hk
 ·rename_i hnb;split at hk
  ·rename_i i hi;unfold yFi at hnb;rw[hi]at hnb;split at hnb
   ·rename_i j hs hj;cases hj;split at hnb
    ·rename_i v hv;refine y4v h hi ?_ hk;have hx:a.eval x=.slice none 0 0:=by
      have:=(y3 (T:=g.T) h e x).1;rw[hs]at this;exact this
     simp only[execOp,ho,Sem.run_bind,y74,hx,Result.andThen_ok,Sem.run_pure];rw[hv];rfl
    ·cases hnb
   ·cases hnb
  ·cases hk
 split at hk
 ·rename_i β hβ;split at hk
  ·rename_i i hi;have hs:=y3 (T:=g.T) h e x;have hx:y9 g.T e s x=.yld β:=by
    unfold yQo at hβ;split at hβ
    ·rename_i γ hγ;cases hβ;exact hγ
    ·cases hβ
   rw[hx]at hs;obtain ⟨ρ',hR⟩:=h.newBox (t:=i.ty) (cells:=[.yld β]) (l:=[a.eval x]) (e:=e) o.dst
    (λ sv hsv=>by rw[mem_singleton]at hsv;subst hsv;exact hs.2)
    (λ A hA=>⟨rfl,λ i sv hi=>by
     cases i with
     |zero=>cases hi;exact ⟨_,rfl,hs.1⟩
     |succ i=>cases hi⟩)
   refine Eff.val ?_ hR hk;obtain ⟨b,_,hb⟩:=hs.1;simp only[execOp,ho,Sem.run_bind,y74,Result.andThen_ok,Sem.run_pure];rw[hb];rfl
  ·cases hk
 have hS:=h.settle (y9 g.T e s x);generalize s.settle (y9 g.T e s x)=s1 at hk hS;split at hk
 ·rename_i i hi;simp only[bind_eq_some_iff]at hk;obtain ⟨y,hy,hk⟩:=hk;have hs:=(y3 (T:=g.T) hS e x).1;obtain ⟨l,h1,h2⟩:=y01 hs hy;have hc:=y0I h1;obtain ⟨ρ',hR⟩:=hS.newBox (t:=i.ty) (cells:=y0Y i.ty y) (l:=l) (e:=e) o.dst (y3A _ _ _) (λ A hA=>y1Z _ _ _ (h1.mono (y4n _ _ _) hA))
  refine Eff.val ?_ hR hk;simp only[execOp,ho,Sem.run_bind,y74,Result.andThen_ok,Sem.run_pure,h2,hc]
 ·cases hk
theorem Rel.newArr(h:Rel P A0 w0 ρ s a w){u:Ty}{xs:List u.den}{l:List Value}{e:TypeId}{nn:Bool}(d:Option Nat)(hm:xs.length<=maxLen)
  (hc:∀ A,(∀ n,n < w.heap.size->A n->Av A0 ρ s.cH n)->y6 P (.arr xs.length u) A (w.alloc (.cells l.toArray e)) xs l) :
  ∃ ρ',Rel P A0 w0 ρ' ({ s with cH:=s.cH++[some (Chunk.arr e u xs nn)] }.put d (.own s.cH.length)) (a.put d (.slice (some ⟨w.heap.size,0,none⟩) xs.length xs.length)) (w.alloc (.cells l.toArray e)):=by
 have h1:=h.newChunk (.arr e u xs nn) ⟨some w.heap.size,xs.length,xs.length,[],[],[]⟩ (y0L w (.cells l.toArray e)) (λ b hb=>by cases hb;exact le_refl _) trivial
  (λ A hA _=>by
   have:=hc A hA;simp only[y6]at this;obtain ⟨h1,h2,h3⟩:=this;exact ⟨rfl,(λ _ hx=>by cases hx),Or.inr ⟨w.heap.size,l.toArray,rfl,heap_alloc_new w _,le_refl _,hm,by simpa using h1,λ i x hi=>by simpa using h3 i x hi⟩⟩)
 refine ⟨_,h1.put d (sv:=.own s.cH.length) ?_ ?_⟩
 ·show s.cH.length < (s.cH++[_]).length
  simp
 ·show _=Value.slice _ _ _
  rw[Places.set_self];rfl
omit [GT] in
theorem y4r(z:List Value):∀ n j,j < n->(((List.replicate n z).flatten.drop (j * z.length)).take z.length)=z
 |0,_,h=>by omega
 |n+1,0,_=>by simp[List.replicate_succ]
 |n+1,j+1,h=>by
  rw[List.replicate_succ,List.flatten_cons,succ_mul,Nat.add_comm,drop_append,Nat.add_sub_cancel_left,List.drop_eq_nil_of_le (by omega),nil_append]
  exact y4r z n j (by omega)
theorem yEX:∀ (u:Ty) (x z:u.den) (o:Nat) (v:Ty) (y:List v.den),y0S u x o (.slice v) y=some z->u.zeroV[o]?=some (.slice none 0 0):=by
 intro u;induction u with
 |pair a b iha ihb =>
  intro x z o v y h;unfold y0S at h;split at h
  ·rename_i e;cases e.2
  ·simp only at h;unfold Ty.zeroV;split at h
   ·rename_i hlt;obtain ⟨q,hq,_⟩:=map_eq_some_iff.1 h;rw[getElem?_append_left (by rw[yZ];exact hlt)]
    exact iha _ _ _ _ _ hq
   ·rename_i hlt;obtain ⟨q,hq,_⟩:=map_eq_some_iff.1 h;rw[List.getElem?_append_right (by rw[yZ];omega),yZ]
    exact ihb _ _ _ _ _ hq
 |slice t _ =>
  intro x z o v y h;unfold y0S at h;split at h
  ·rename_i e;rw[e.1];rfl
  ·simp at h
 |_ =>
  intro x z o v y h;unfold y0S at h;split at h
  ·rename_i e;cases e.2
  ·simp at h
theorem y6y(hT:yw P g.T)(h:Rel P A0 w0 ρ s a w){t:TypeId}{l c:Operand}(ho:o.op=.makeSlice t l c){i:TyI}{n m:Int}{u:Ty}(hi:yV g.T t=some i)(h1:y9 g.T 0 s l=.val (.int .i64) n)(h2:y9 g.T 0 s c=.val (.int .i64) m)(hty:i.ty=.slice u)
  (hk:y4l g s o i u n m K=some r):Eff P A0 w0 a w o K r:=by
 unfold y4l at hk;cases hb:(u.zok && decide (0<=n) && decide (n<=(memMax:Int)) && n == m)with
 |false=>rw[hb]at hk;cases hk
 |true =>
  rw[hb]at hk;simp only[cond_true]at hk;obtain ⟨q,hq,hk1⟩:=bind_eq_some_iff.1 hk;obtain ⟨d0,hd0,hk⟩:=bind_eq_some_iff.1 hk1;simp only[and_eq_true,decide_eq_true_eq,beq_iff_eq]at hb;obtain ⟨⟨⟨hz,h0⟩,hm⟩,rfl⟩:=hb;have h0:@LE.le Int _ 0 n:=h0;have hm:@LE.le Int _ n 68719476736:=hm;have e1:=yy (h1 ▸ (y3 (T:=g.T) h 0 l).1);have e2:=yy (h2 ▸ (y3 (T:=g.T) h 0 c).1);obtain ⟨hu,hF,hs0⟩:=yS (hT.shape hi) (.inl hty);obtain ⟨inf,d,f1,f2,f3,f4,f5,f6⟩:=hF.ex;obtain ⟨inf',z,g1,g2,g3,g4,g5⟩:=y1F hF hz;rw[f1]at g1;cases g1;have hr:=y6O u.zeroV n.toNat;rw[yZ]at hr;have hnm:n.toNat<=memMax:=by simp only[memMax];omega
  have hby:(inf.bytes:Int) * n<=281474976710656:=by
   have hN:inf.bytes * n.toNat<=2048 * 68719476736:=mul_le_mul f4 hnm;have:(inf.bytes:Int) * n=((inf.bytes * n.toNat:Nat):Int):=by rw[Int.natCast_mul];congr 1;exact (Int.toNat_of_nonneg h0).symm
   rw[this];generalize inf.bytes * n.toNat=q at hN;omega
  have hrun:=run_make (P:=P) w t i.elem inf z hu f1 g2 .i64 .i64 n n h0 (Int.le_refl _) hby (by omega)
  have hzs:=yEX _ _ _ _ _ _ hd0;have hset:u.zeroV.set q.1 (.slice none 0 0)=u.zeroV:=by
   have hl:=(List.getElem?_eq_some_iff.1 hzs).1;apply ext_getElem?;intro j;by_cases hj:q.1=j
   ·subst hj;rw[getElem?_set_self hl,hzs]
   ·rw[getElem?_set_ne hj]
  have hfl:((List.replicate n.toNat u.zeroV).flatten).length=n.toNat * u.size:=by
   have:=(y0p (P:=P) (A:=λ _=>False) (w:=w) n.toNat hz).length
   simpa[Ty.size]using this
  have hM:=h.merge (w':=w.alloc (.cells (List.replicate n.toNat u.zeroV).flatten.toArray i.elem)) [] (ch':=.nst i.elem u q.1 q.2.1 q.2.2 (List.replicate n.toNat d0))
   (p:=⟨some w.heap.size,n.toNat,n.toNat,List.replicate n.toNat none,[],List.replicate n.toNat (none,0,0)⟩) rfl rfl rfl (by rw[size_alloc];omega) (λ k hk _=>(y0L w _).block k hk)
   (λ β hβ=>by cases hβ) (λ b hb=>by cases hb;exact .inr (le_refl _))
   (λ k hk=>by have:=List.eq_of_mem_replicate hk;cases this)
   (λ k hk=>by have:=List.eq_of_mem_replicate hk;cases this) (λ h=>by cases h) trivial rfl (λ A hA=>by
    refine ⟨⟨by simp,by simp,by simp⟩,λ j k b hj=>?_,.inr ⟨w.heap.size,_,rfl,heap_alloc_new w _,le_refl _,by simp only[maxLen];simp only[memMax]at hnm;omega,by simpa using hfl,λ j x hj=>?_⟩⟩
    ·have:=List.eq_of_mem_replicate (mem_of_getElem? hj);cases this
    ·have hjl:=(List.getElem?_eq_some_iff.1 hj).1;simp only[List.length_replicate]at hjl;have hx:=List.eq_of_mem_replicate (mem_of_getElem? hj);subst hx;refine ⟨_,List.getElem?_replicate_of_lt hjl,u.dflt,u.zeroV,[],y3I u hz,hd0,?_,rfl,0,rfl,.inl ⟨rfl,rfl,rfl⟩⟩;rw[show ((none:Option Nat),0,0).1.map (λ b=>(⟨b,0,none⟩:Addr))=none from rfl]
     rw[hset,toList_toArray];have h3:=(y4r u.zeroV n.toNat j hjl);rw[yZ]at h3;exact h3)
  refine Eff.val (v:=.slice (some ⟨w.heap.size,0,none⟩) n.toNat n.toNat) ?_ (hM.put o.dst (sv:=.own s.cH.length) ?_ ?_) hk
  ·simp only[execOp,ho,Sem.run_bind,e1,e2,hrun,Result.andThen_ok,Sem.run_pure];congr 3
   unfold madeCells;rw[g3,g4];apply Array.toList_inj.1;rw[Array.toList_map,Array.toList_range,<- hr]
  ·show s.cH.length < (yCc [] s.cH++[_]).length
   simp[y2e]
  ·show _=Value.slice _ _ _
   rw[Places.set_self];rfl
theorem yAq(hT:yw P g.T)(h:Rel P A0 w0 ρ s a w){t:TypeId}{l c:Operand}(ho:o.op=.makeSlice t l c)(hk:effK g s o K=some r):Eff P A0 w0 a w o K r:=by
 simp only[effK,ho]at hk;split at hk
 ·rename_i i n m hi h1 h2;split at hk
  ·rename_i u hty;split at hk
   ·exact y6y hT h ho hi h1 h2 hty hk
   cases hb:(u.zok && decide (0<=n) && decide (n<=(memMax:Int)) && n == m)with
   |false=>rw[hb]at hk;cases hk
   |true =>
    rw[hb]at hk;simp only[cond_true]at hk;simp only[and_eq_true,decide_eq_true_eq,beq_iff_eq]at hb;obtain ⟨⟨⟨hz,h0⟩,hm⟩,rfl⟩:=hb;have h0:@LE.le Int _ 0 n:=h0;have hm:@LE.le Int _ n 68719476736:=hm;have e1:=yy (h1 ▸ (y3 (T:=g.T) h 0 l).1);have e2:=yy (h2 ▸ (y3 (T:=g.T) h 0 c).1);obtain ⟨hu,hF,hs0⟩:=yS (hT.shape hi) (.inl hty);obtain ⟨inf,d,f1,f2,f3,f4,f5,f6⟩:=hF.ex;obtain ⟨inf',z,g1,g2,g3,g4,g5⟩:=y1F hF hz;rw[f1]at g1;cases g1;have hr:=y6O u.zeroV n.toNat;rw[yZ]at hr;have hnm:n.toNat<=memMax:=by simp only[memMax];omega
    have hrep:=List.length_replicate (n:=n.toNat) (a:=u.dflt);obtain ⟨ρ',hR⟩:=h.newArr (u:=u) (xs:=List.replicate n.toNat u.dflt) (l:=(List.replicate n.toNat u.zeroV).flatten) (e:=i.elem) o.dst
     (by rw[hrep];simp only[maxLen];simp only[memMax]at hnm;omega)
     (λ A hA=>by have:=y0p (P:=P) (A:=A) (w:=w.alloc (.cells (List.replicate n.toNat u.zeroV).flatten.toArray i.elem)) n.toNat hz;rw[hrep];exact this)
    rw[hrep]at hR;refine Eff.val ?_ hR hk;have hby:(inf.bytes:Int) * n<=281474976710656:=by
     have hN:inf.bytes * n.toNat<=2048 * 68719476736:=mul_le_mul f4 hnm;have:(inf.bytes:Int) * n=((inf.bytes * n.toNat:Nat):Int):=by rw[Int.natCast_mul];congr 1;exact (Int.toNat_of_nonneg h0).symm
     rw[this];generalize inf.bytes * n.toNat=q at hN;omega
    have hrun:=run_make (P:=P) w t i.elem inf z hu f1 g2 .i64 .i64 n n h0 (Int.le_refl _) hby (by omega)
    simp only[execOp,ho,Sem.run_bind,e1,e2,hrun,Result.andThen_ok,Sem.run_pure];congr 3
    unfold madeCells;rw[g3,g4];apply Array.toList_inj.1;rw[Array.toList_map,Array.toList_range,<- hr]
  ·cases hk
 ·cases hk
theorem yp{v:Value}(h:Value.plain1 v=true):v.oneCell'=true:=by
 cases v<;>first|rfl|(simp[Value.plain1]at h)
theorem y4B{A:Nat->Prop}{sv:SV}{v:Value}(hs:sv.scalar=true)(h:yF P A w ρ sv v):v.cells=[v].toArray/\v.oneCell'=true:=by
 cases sv with
 |undef=>cases hs
 |tup t x=>cases hs
 |xV t x=>cases hs
 |gone=>cases hs
 |sR β=>cases hs
 |nO β i=>cases hs
 |nP β i j sz off=>cases hs
 |val t x =>
  simp only[SV.scalar,Bool.not_eq_true']at hs;obtain ⟨l,hl,rfl⟩:=h;have h1:=hl.length;rw[y28 hs]at h1;obtain ⟨v,rfl⟩:=List.length_eq_one_iff.1 h1;have h2:t.wrap [v]=v:=by simp[Ty.wrap,hs]
  have hp:=y6.plain hl v (by simp)
  rw[h2];exact ⟨by cases v<;>first|rfl|(simp[Value.plain1]at hp),yp hp⟩
 |bP β off=>obtain ⟨b,_,rfl⟩:=h;exact ⟨rfl,rfl⟩
 |own β=>cases h;exact ⟨rfl,rfl⟩
 |eP β i sz off=>obtain ⟨b,_,rfl⟩:=h;exact ⟨rfl,rfl⟩
 |oS β i sz=>cases h;exact ⟨rfl,rfl⟩
 |clo f caps=>obtain ⟨vs,rfl,_⟩:=h;exact ⟨rfl,rfl⟩
 |nils=>cases h;exact ⟨rfl,rfl⟩
 |mO β=>simp only[yF]at h;subst h;exact ⟨rfl,rfl⟩
 |yld β=>obtain ⟨b,_,rfl⟩:=h;exact ⟨rfl,rfl⟩
 |mP β e=>obtain ⟨_,b,_,rfl|rfl⟩:=h<;>exact ⟨rfl,rfl⟩
theorem yGP:∀ (fs:List Field) (places:List (Nat×Nat)) (i:Nat) (fd:Field) (inf:TypeInfo),fs.mapM (λ f=>(P.info? f.type).map λ i=>(f.offset,i.size))=some places->fs[i]?=some fd->P.info? fd.type=some inf->places[i]?=some (fd.offset,inf.size)
 |[],places,i,fd,inf,_,hi,_=>by simp at hi
 |f::fs,places,i,fd,inf,hm,hi,h2=>by
  simp only[List.mapM_cons,Option.bind_eq_bind,bind_eq_some_iff,map_eq_some_iff,Option.pure_def,Option.some.injEq]at hm;obtain ⟨q,⟨j,hj,rfl⟩,rest,hr,rfl⟩:=hm;cases i with
  |zero=>simp at hi;subst hi;rw[h2]at hj;cases hj;rfl
  |succ i=>simpa using yGP fs rest i fd inf hr (by simpa using hi) h2
theorem y6b(hE:∀ e∈g.E,FnOK P e)(hT:yw P g.T)(h:Rel P A0 w0 ρ s a w){fs:List Field}{places:List (Nat×Nat)}(hpl:fs.mapM (λ f=>(P.info? f.type).map λ i=>(f.offset,i.size))=some places) :
  ∀ (ps:List (Nat×Operand)) (cells:List SV) (l:List Value) (cells':List SV),yD P (Av A0 ρ s.cH) w ρ cells l->(∀ sv∈cells,sv.inn s.cH.length)->yCL g.E s g.T (fs.map λ f=>(f.offset,f.type)) ps cells=some cells' ->
   ∃ cs,Instr.fill (places.toArray[·]?) l.toArray (ps.map λ p=>(p.1,a.eval p.2))=some cs/\yD P (Av A0 ρ s.cH) w ρ cells' cs.toList/\∀ sv∈cells',sv.inn s.cH.length
 |[],cells,l,cells',hc,hin,hk=>by
  simp only[yCL,Option.some.injEq]at hk;subst hk;exact ⟨l.toArray,rfl,hc,hin⟩
 |p::ps,cells,l,cells',hc,hin,hk=>by
  simp only[yCL]at hk;obtain ⟨q,hq,hk1⟩:=bind_eq_some_iff.1 hk;obtain ⟨i,hi,hk2⟩:=bind_eq_some_iff.1 hk1;obtain ⟨svs,hsv,hk3⟩:=bind_eq_some_iff.1 hk2;obtain ⟨hfit,hk4⟩:=yG hk3;rw[getElem?_map,map_eq_some_iff]at hq;obtain ⟨fd,hfd,rfl⟩:=hq;have hF:=hT.fits hi;obtain ⟨inf,d,f1,_,f3,_⟩:=hF.ex;have hs:=y3 (T:=g.T) h fd.type p.2;have hp:=yGP fs places p.1 fd inf hpl hfd f1;obtain ⟨m,hm1,hm2,hm3,hm4⟩:∃ m,(a.eval p.2).cells=m.toArray/\m.length=inf.size/\yD P (Av A0 ρ s.cH) w ρ svs m/\∀ sv∈svs,sv.inn s.cH.length:=by
   split at hsv
   ·obtain ⟨y,hy,rfl⟩:=map_eq_some_iff.1 hsv;obtain ⟨m,h1,h2⟩:=y01 hs.1 hy;exact ⟨m,by rw[h2];exact y0I h1,by rw[h1.length,f3],y1Z (ρ:=ρ) i.ty y m h1,y3A _ _ _⟩
   ·rename_i hag;obtain ⟨hsc,hsv⟩:=yG hsv;cases hsv;have h1:=yAH hE i.ty hs.1 hs.2;obtain ⟨h2,_⟩:=y4B hsc h1.1;exact ⟨[a.eval p.2],h2,by rw[f3,y28 (by simpa using hag)];rfl,yD.one h1.1,λ sv hsv=>by simp only[mem_singleton]at hsv;subst hsv;exact h1.2⟩
  have hsl:=hm3.1;have hcl:=hc.1;have hfin:yD P (Av A0 ρ s.cH) w ρ (cells.take fd.offset++svs++cells.drop (fd.offset+svs.length)) (l.take fd.offset++m++l.drop (fd.offset+m.length)):=by
   rw[hsl];exact ((hc.take _).append hm3).append (hc.drop _)
  obtain ⟨cs,h8,h9,h10⟩:=y6b hE hT h hpl ps _ _ cells' hfin (λ sv hsv=>by
   rcases mem_append.1 hsv with hsv|hsv
   ·rcases mem_append.1 hsv with hsv|hsv
    ·exact hin sv (List.mem_of_mem_take hsv)
    ·exact hm4 sv hsv
   ·exact hin sv (List.mem_of_mem_drop hsv)) hk4
  refine ⟨cs,?_,h9,h10⟩;have hfit':fd.offset+svs.length<=cells.length:=hfit;rw[map_cons,yBq (off:=fd.offset) (sz:=inf.size) (by simpa using hp) hm1 hm2 (by simp;omega),<- h8]
  simp[hm2]
theorem y6T(hE:∀ e∈g.E,FnOK P e)(hT:yw P g.T)(h:Rel P A0 w0 ρ s a w){t:TypeId}{ps:Array (Nat×Operand)}(ho:o.op=.build t ps)(hk:effK g s o K=some r):Eff P A0 w0 a w o K r:=by
 simp only[effK,ho,y48]at hk;split at hk;rotate_left
 ·cases hk
 rename_i i hi;obtain ⟨hz,hk1⟩:=yG hk;simp only[and_eq_true]at hz;obtain ⟨hp,hz⟩:=hz;obtain ⟨cells,hcs,hk2⟩:=bind_eq_some_iff.1 hk1;obtain ⟨fs,h1,h2,h3⟩:=y2r (hT.shape hi) hp;have hag:i.ty.agg=true:=by cases hty:i.ty<;>simp_all [Ty.isPair,Ty.agg]
 obtain ⟨inf,z,h4,h5,h6,h7,h8⟩:=y1F (hT.fits hi) hz;obtain ⟨pl,hpl⟩:=yD3 _ _ _ h3;have hz0:=y6I (P:=P) (A:=Av A0 ρ s.cH) (w:=w) (ρ:=ρ) i.ty;rw[h2]at hcs;obtain ⟨cs,h9,h10,h11⟩:=y6b hE hT h hpl ps.toList _ _ cells hz0 (y8L _ _) hcs;have hb:P.built t (ps.map λ (i,x)=>(i,a.eval x)).toList=some cs:=by
  unfold Program.built;simp only[h4,h1,h5,hpl,h7];rw[y2T];exact h9
 have hN:=h.newChunk (w':=w) (.rcd i.ty cells) ⟨none,0,0,[],cs.toList,[]⟩ (Below.refl _ _) (λ b hb=>by cases hb) h11 (λ A hA _=>⟨rfl,hag,h10.1,λ j sv hj=>by
  obtain ⟨v,hv,hr⟩:=h10.2 j sv hj;exact ⟨v,hv,hr.mono (λ _ _ _=>rfl) hA⟩⟩)
 refine Eff.val (v:=.agg cs) (w':=w) ?_ (hN.put o.dst (sv:=.sR s.cH.length) ?_ ?_) hk2
 ·have hrb:=run_build w t _ cs hb;simp only[execOp,ho,Sem.run_bind,hrb,Result.andThen_ok,Sem.run_pure]
 ·show s.cH.length < (s.cH++[_]).length
  simp
 ·show Value.agg cs=Value.agg (Places.set ρ s.cH.length _ s.cH.length).vals.toArray
  rw[Places.set_self]
theorem y6F(hT:yw P g.T)(h:Rel P A0 w0 ρ s a w){t:TypeId}{n:Nat}{ps:Array (Nat×Operand)}(ho:o.op=.buildSlice t n ps)(hk:y3x g s o t n ps.toList K=some r):Eff P A0 w0 a w o K r:=by
 unfold y3x at hk;cases hk
theorem y9S(hE:∀ e∈g.E,FnOK P e)(hT:yw P g.T)(h:Rel P A0 w0 ρ s a w){t:TypeId}{n:Nat}{ps:Array (Nat×Operand)}(ho:o.op=.buildSlice t n ps)(hk:effK g s o K=some r):Eff P A0 w0 a w o K r:=by
 simp only[effK,ho]at hk;split at hk
 ·exact y6F hT h ho hk
 have hS:=Rel.settleAll (ps.toList.map (·.2)) h;generalize settleAll (ps.toList.map (·.2)) s=s1 at hk hS;split at hk
 ·rename_i i hi;split at hk
  ·rename_i u hty;split at hk
   ·cases hk
   ·rename_i hz;simp only[Bool.not_eq_true',and_eq_true,decide_eq_true_eq,Bool.not_eq_false]at hz;simp only[bind_eq_some_iff]at hk;obtain ⟨y,hy,hk⟩:=hk;obtain ⟨h1,h2,h0⟩:=yS (hT.shape hi) (.inl hty);obtain ⟨cs,h3,h4⟩:=y47 hE hS _ _ _ _ (y0p n hz.1) hy;have h4':=h4;simp only[y6]at h4';obtain ⟨h5,h6,h7⟩:=h4';have hn:y.length<=maxLen:=by
     rw[h6];simp only[maxLen];have:n * 1<=n * u.size:=Nat.mul_le_mul_left _ (by omega)
     omega
    obtain ⟨ρ',hR⟩:=hS.newArr (u:=u) (xs:=y) (l:=cs.toList) (e:=i.elem) o.dst hn
     (λ A hA=>by rw[h6];exact h4.mono (y4n _ _ _) hA)
    rw[h6]at hR;refine Eff.val ?_ hR hk;simp only[execOp,ho,Sem.run_bind];rw[y4R h1 h2 hz.1 hz.2 (by rw[y2T];exact h3)]
    rfl
  ·cases hk
 ·cases hk
theorem yD5(h:Rel P A0 w0 ρ s a w)(ho:o.op=.assign (.const (.slice none 0 0)))(hk:effK g s o K=some r):Eff P A0 w0 a w o K r:=by
 simp only[effK,ho]at hk;split at hk
 ·rename_i i hi;split at hk
  ·rename_i u hty;split at hk
   ·obtain ⟨q,hq,hk⟩:=bind_eq_some_iff.1 hk;have h1:=h.newChunk (w':=w) (.nst i.elem u q.1 q.2.1 q.2.2 []) ⟨none,0,0,[],[],[]⟩ (Below.refl _ _) (λ b hb=>by cases hb) trivial
     (λ A hA _=>⟨⟨rfl,rfl,rfl⟩,λ i j n hi=>by simp at hi,.inl ⟨rfl,rfl,rfl⟩⟩)
    refine Eff.val (v:=.slice none 0 0) (w':=w) ?_ (h1.put o.dst (sv:=.own s.cH.length) ?_ ?_) hk
    ·simp[execOp,ho,Act.eval]
    ·show s.cH.length < (s.cH++[_]).length
     simp
    ·show _=Value.slice _ _ _
     rw[Places.set_self];rfl
   have h1:=h.newChunk (w':=w) (.arr i.elem u [] false) ⟨none,0,0,[],[],[]⟩ (Below.refl _ _) (λ b hb=>by cases hb) trivial
    (λ A hA _=>⟨rfl,λ h=>by simp at h,.inl ⟨rfl,rfl,rfl⟩⟩)
   refine Eff.val (v:=.slice none 0 0) (w':=w) ?_ (h1.put o.dst (sv:=.own s.cH.length) ?_ ?_) hk
   ·simp[execOp,ho,Act.eval]
   ·show s.cH.length < (s.cH++[_]).length
    simp
   ·show _=Value.slice _ _ _
    rw[Places.set_self];rfl
  ·cases hk
 ·cases hk
theorem y9W(hT:yw P g.T)(h:Rel P A0 w0 ρ s a w){t:TypeId}{x:Operand}(ho:o.op=.range t x)(hk:effK g s o K=some r):Eff P A0 w0 a w o K r:=by
 simp only[effK,ho]at hk;have hx:=(y3 (T:=g.T) h t x).1;split at hk
 ·rename_i i bs hi he;obtain ⟨hty,hk⟩:=yG hk;rw[he]at hx;have hu:=y2U (hT.shape hi) hty;have h1:=h.newChunk (.it bs 0) ⟨some w.heap.size,0,0,[],[],[]⟩ (y0L w (.stringIter ⟨bs.toArray⟩ 0)) (λ b hb=>by cases hb;exact le_refl _) trivial
   (λ A hA _=>⟨w.heap.size,0,rfl,heap_alloc_new w _,rfl⟩)
  refine Eff.val (v:=.pointer (some ⟨w.heap.size,0,none⟩)) ?_ (h1.put o.dst (sv:=.bP s.cH.length 0) ?_ ?_) hk
  ·simp only[execOp,ho,y3Q hx];simp[Instr.range,run_underlying hu]
  ·show s.cH.length < (s.cH++[_]).length
   simp
  ·refine ⟨w.heap.size,?_,rfl⟩;show (Places.set ρ s.cH.length ⟨some w.heap.size,0,0,[],[],[]⟩ s.cH.length).blk=_
   rw[Places.set_self]
 ·cases hk
theorem yES(h:Rel P A0 w0 ρ s a w){it:Operand}(ho:o.op=.next it true)(hk:yNV g s o it K=some r):Eff P A0 w0 a w o K r:=by
 unfold yNV at hk;have hx:=(y3 (T:=g.T) h 0 it).1;split at hk
 ·rename_i β he;rw[he]at hx;split at hk
  ·rename_i bs q hch;have hc:=getD_some hch;obtain ⟨b,n,hb,h1,rfl⟩:=(h.cH β _ hc).1;obtain ⟨b',hb',hv⟩:=hx;rw[hb]at hb';cases hb';have hsz:(⟨bs.toArray⟩:ByteArray).size=bs.length:=by simp[ByteArray.size]
   cases hd:decide ((n:Int) < (bs.length:Int))with
   |true =>
    rw[hd]at hk;simp only[cond_true]at hk;have hlt:n < (⟨bs.toArray⟩:ByteArray).size:=by simp at hd;omega
    have hset:∀ ob:Obj,(setObj b ob).run P w=.ok () { w with heap:=w.heap.setIfInBounds b ob }:=λ ob=>by simp[setObj,Sem.run,h1]
    have hW:=h.write (w':={ w with heap:=w.heap.setIfInBounds b (.stringIter ⟨bs.toArray⟩ (n+(Utf8.decode ⟨bs.toArray⟩ n).2)) }) (ch':=.it bs (yf bs (n:Int)).2) hc hb (λ m hm=>by simp[Array.getElem?_setIfInBounds_ne (Ne.symm hm)]) (by simp) rfl rfl rfl trivial
     (λ A hA=>⟨b,n+(Utf8.decode ⟨bs.toArray⟩ n).2,hb,by simp[yN h1],by simp[yf]⟩)
    refine Eff.val (v:=.tuple #[.bool true,.int .i64 (n:Int),.int .i32 ((Utf8.decode ⟨bs.toArray⟩ n).1:Int)]) ?_ (hW.put o.dst (sv:=.tup (.pair .bool (.pair (.int .i64) (.pair (.int .i32) .unit))) (true,(n:Int),(yf bs (n:Int)).1,())) trivial ?_) hk
    ·simp only[execOp,ho,hv,Instr.next,getObj,Sem.run_bind,Sem.run,h1,Result.andThen_ok,hlt,if_true,hset]
     rfl
    ·refine ⟨[.bool true,.int .i64 (n:Int),.int .i32 ((Utf8.decode ⟨bs.toArray⟩ n).1:Int)],⟨[.bool true],_,rfl,rfl,⟨[.int .i64 (n:Int)],_,rfl,rfl,⟨[.int .i32 ((Utf8.decode ⟨bs.toArray⟩ n).1:Int)],[],rfl,?_,rfl⟩⟩⟩,rfl⟩;simp[y6,yf]
   |false =>
    rw[hd]at hk;simp only[cond_false]at hk;have hlt:¬ n < (⟨bs.toArray⟩:ByteArray).size:=by simp at hd;omega
    refine Eff.val (v:=.tuple #[.bool false]) (w':=w) ?_ (h.put o.dst (sv:=.tup (.pair .bool .unit) (false,())) trivial ?_) hk
    ·simp only[execOp,ho,hv,Instr.next,getObj,Sem.run_bind,Sem.run,h1,Result.andThen_ok,hlt,if_false]
     rfl
    ·exact ⟨[.bool false],⟨[.bool false],[],rfl,rfl,rfl⟩,rfl⟩
  ·cases hk
 ·cases hk
theorem yQy{α:Type}{c:Prop}[Decidable c]{x y z:α}(h:(if c then x else y)=z):(c/\x=z)\/(¬ c/\y=z):=by
 split at h
 ·exact .inl ⟨‹_›,h⟩
 ·exact .inr ⟨‹_›,h⟩
theorem y6w(h:Rel P A0 w0 ρ s a w){t:TypeId}(ho:o.op=.makeMap t none)(hk:effK g s o K=some r):Eff P A0 w0 a w o K r:=by
 simp only[effK,ho]at hk;have fin:∀ ch:Chunk,ch.inn s.cH.length->ch.lpNo=none->(∀ A,yB P A (w.alloc (.map #[] 0)) ρ ⟨some w.heap.size,0,0,[],[],[]⟩ ch) ->
   K ({ s with cH:=s.cH++[some ch] }.put o.dst (.mO s.cH.length))=some r->Eff P A0 w0 a w o K r:=by
  intro ch hin hlp hr hk;have h1:=h.newChunk ch ⟨some w.heap.size,0,0,[],[],[]⟩ (y0L w (.map #[] 0)) (λ b hb=>by cases hb;exact le_refl _) hin
   (λ A hA _=>hr A) (λ q hq=>by rw[hlp]at hq;cases hq)
  refine Eff.val (v:=.map (some w.heap.size)) ?_ (h1.put o.dst (sv:=.mO s.cH.length) ?_ ?_) hk
  ·simp only[execOp,ho,Option.map_none,Instr.makeMap];rfl
  ·show s.cH.length < (s.cH++[_]).length
   simp
  ·show Value.map (some w.heap.size)=.map (Places.set ρ s.cH.length ⟨some w.heap.size,0,0,[],[],[]⟩ s.cH.length).blk
   rw[Places.set_self]
 split at hk
 ·split at hk
  ·rename_i u v hty;rcases yQy hk with ⟨_,hk⟩|⟨_,hk⟩
   ·split at hk
    ·exact fin (.mps u _ _ [] none) (λ q hq=>by cases hq) rfl (λ A=>⟨w.heap.size,#[],0,rfl,heap_alloc_new w _,⟨rfl,rfl⟩,⟨⟨λ i j n hi=>by simp at hi,λ i j x y hi=>by simp at hi⟩,λ q hq=>by cases hq⟩,λ i x hi=>by simp at hi⟩) hk
    ·cases hk
   ·exact fin (.mp u v []) trivial rfl (λ A=>⟨w.heap.size,#[],0,rfl,heap_alloc_new w _,rfl,λ i x hi=>by simp at hi⟩) hk
  ·cases hk
 ·cases hk
theorem y5X:∀ {u:Ty} (y:u.den) (n:Nat),u.keyF=true->∀ v∈u.flatV y,Instr.sameBits n v v=true
 |.unit,_,_,_,v,hv=>by simp[Ty.flatV]at hv
 |.pair a b,y,n,hk,v,hv=>by
  have hk':a.keyPart=true/\b.keyF=true:=by simpa[Ty.keyF]using hk
  simp only[Ty.flatV,mem_append]at hv;rcases hv with hv|hv
  ·cases a<;>first|(cases hk'.1;done)|skip
   all_goals
    simp only[Ty.flatV,mem_singleton]at hv;subst hv;cases n<;>simp[Instr.sameBits,y92]
  ·exact y5X y.2 n hk'.2 v hv
theorem yDC{u:Ty}(hu:u.keyAll=true)(y:u.den):Instr.sameBits 10000 (yq u y) (yq u y)=true:=by
 rcases y6l hu with hk|hk
 ·cases u with
  |str=>simp[yq,Ty.wrap,Ty.agg,Ty.flatV,Instr.sameBits,y92]
  |int j=>simp[yq,Ty.wrap,Ty.agg,Ty.flatV,Instr.sameBits]
  |_=>cases hk
 ·have hag:u.agg=true:=by cases u<;>first|rfl|(cases hk;done)
  have hf:=y5X (u:=u) y 9999 hk;unfold yq Ty.wrap;rw[if_pos hag];show (_ == _ && _)=true
  simp only[beq_self_eq_true,Bool.true_and,List.all_eq_true];intro q hq;obtain ⟨i,h1,h2⟩:=List.mem_iff_getElem.1 hq;simp only[List.getElem_zip]at h2;subst h2;exact hf _ (List.getElem_mem _)
theorem yIQ(hT:yw P g.T)(h:Rel P A0 w0 ρ s a w){t:TypeId}{m key x:Operand}(ho:o.op=.insert t m key x\/o.op=.mapUpdate t m key x)(hk:putM g s o t m key x K=some r):Eff P A0 w0 a w o K r:=by
 unfold putM at hk;cases hk
theorem yAF(hE:∀ e∈g.E,FnOK P e)(hT:yw P g.T)(h:Rel P A0 w0 ρ s a w){t:TypeId}{m key x:Operand}(ho:o.op=.insert t m key x\/o.op=.mapUpdate t m key x)(hk:putK g s o t m key x K=some r):Eff P A0 w0 a w o K r:=by
 unfold putK at hk;split at hk
 ·exact yIQ hT h ho hk
 have hS:=h.settle (y9 g.T 0 s x);dsimp only at hk;generalize s.settle (y9 g.T 0 s x)=s1 at hk hS;split at hk
 ·rename_i i β hi hm;split at hk
  ·rename_i u v es hch;obtain ⟨⟨hty,hkey⟩,hk⟩:=yG hk;obtain ⟨y,hy,hk⟩:=bind_eq_some_iff.1 hk;obtain ⟨z,hz,hk⟩:=bind_eq_some_iff.1 hk;have hc:=getD_some hch;obtain ⟨kt,et,dk,h1,h2,h3,h4,h5⟩:=y87 (hT.shape hi) hty;obtain ⟨ly,hly,hiv⟩:=y01 (y3 (T:=g.T) hS 0 key).1 hy;rw[yBo hkey hly]at hiv;obtain ⟨lz,hlz,hxv⟩:=y85 hE (y3 (T:=g.T) hS 0 x).1 hz;have hmv:=(y3 (T:=g.T) hS t m).1;rw[hm]at hmv;obtain ⟨b,ms,c,hb,g1,g2,g3⟩:=(hS.cH β _ hc).1;simp only[yF]at hmv;rw[hb]at hmv;have hex:(execOp a.eval o).run P w=((Instr.mapUpdate t (a.eval m) (a.eval key) (a.eval x)).run P w).andThen λ _ w'=>.ok .skip w':=by
    rcases ho with ho|ho<;>(simp only[execOp,ho,Sem.run_bind];rfl)
   have hkeys:∀ (j:Nat) (e:MapEntry) (p:u.den×v.den),ms.toList[j]?=some e->es[j]?=some p->e.key=yq u p.1:=by
    intro j e p he hp;obtain ⟨m',lv,r1,r2,r3,r4⟩:=g3 j p hp;rw[Array.getElem?_toList,r1]at he;cases he;exact r2
   have hK:Keep (Av A0 ρ s1.cH) w w:=λ _ _ _=>rfl
   have hlt:=yN g1;have hset:∀ ob:Obj,(setObj b ob).run P w=.ok () { w with heap:=w.heap.setIfInBounds b ob }:=λ ob=>by simp[setObj,Sem.run,g1]
   have fin:∀ (ms':Array MapEntry) (c':Nat),(Instr.mapUpdate t (a.eval m) (a.eval key) (a.eval x)).run P w=.ok () { w with heap:=w.heap.setIfInBounds b (.map ms' c') }->ms'.size=(y1X u v es y z).length ->
     (∀ (j:Nat) (p:u.den×v.den),(y1X u v es y z)[j]?=some p->∃ (e:MapEntry) (lv:List Value),ms'[j]?=some e/\e.key=yq u p.1/\y6 P v (Av A0 ρ s1.cH) w p.2 lv/\e.val=v.wrap lv) ->
     Eff P A0 w0 a w o K r:=by
    intro ms' c' hrun hlen hent;have hKw:Keep (Av A0 ρ s1.cH) w { w with heap:=w.heap.setIfInBounds b (.map ms' c') }:=λ n hn hnA=>by
     have:b≠n:=λ e=>hnA (.inr ⟨β,_,hc,e ▸ hb⟩)
     simp[Array.getElem?_setIfInBounds_ne this]
    have hW:=hS.write (w':={ w with heap:=w.heap.setIfInBounds b (.map ms' c') }) (ch':=.mp u v (y1X u v es y z)) hc hb (λ n hn=>by simp[Array.getElem?_setIfInBounds_ne (Ne.symm hn)]) (by simp) rfl rfl rfl trivial
     (λ A hA=>⟨b,ms',c',hb,by simp[hlt],hlen,λ j p hj=>by
      obtain ⟨e,lv,r1,r2,r3,r4⟩:=hent j p hj;exact ⟨e,lv,r1,r2,r3.mono hKw (λ n _ hn=>(hA n).1 hn),r4⟩⟩)
    refine Eff.skip ?_ (hW.put o.dst (sv:=.undef) (v:=undef) trivial trivial) hk;rw[hex,hrun];rfl
   rcases h5.find y ms.toList es (by simpa using g2) hkeys with ⟨r1,r2,r3⟩|⟨j,e,p,r1,r2,r3,r4,r5,r6⟩
   ·refine fin (ms.push { key:=yq u y,val:=a.eval x,born:=c }) (c+1) ?_ (by rw[r3];simp[g2]) (λ j p hj=>?_)
    ·rw[hmv,hiv];unfold Instr.mapUpdate;simp only[Sem.run_bind,run_underlying h1,Result.andThen_ok,y2A g1,h5.check,r1,hset]
    ·rw[r3]at hj;rcases Nat.lt_or_ge j es.length with hl|hl
     ·rw[getElem?_append_left hl]at hj;obtain ⟨e,lv,q1,q2,q3,q4⟩:=g3 j p hj;exact ⟨e,lv,by rw[Array.getElem?_push_lt (by omega)];rw[<- q1,Array.getElem?_eq_getElem (by omega)],q2,q3,q4⟩
     ·have hjl:j=es.length:=by
       have:=(List.getElem?_eq_some_iff.1 hj).1;simp at this;omega
      subst hjl;simp at hj;subst hj;exact ⟨{ key:=yq u y,val:=a.eval x,born:=c },lz,by rw[<- g2];simp,rfl,hlz,hxv⟩
   ·obtain ⟨e0,lv0,q1,q2,q3,q4⟩:=g3 j p r2;rw[Array.getElem?_toList]at r1;rw[q1,Option.some.injEq]at r1;subst r1;have hjs:j < ms.size:=(Array.getElem?_eq_some_iff.1 q1).1;have hek:e0.key=yq u y:=by rw[q2,r3]
    refine fin (ms.modify j λ e=>{ e with key:=yq u y,val:=a.eval x }) c ?_ (by rw[r6];simp[g2]) (λ i p' hi=>?_)
    ·rw[hmv,hiv];unfold Instr.mapUpdate;simp only[Sem.run_bind,run_underlying h1,Result.andThen_ok,y2A g1,h5.check,r4,Nat.zero_add,q1,Option.map_some,Option.getD_some,hek,Instr.keyThatStays,yDC hkey,if_true,Sem.run_pure,hset]
    ·rw[r6]at hi;by_cases hij:i=j
     ·subst hij;rw[getElem?_set_self (by omega)]at hi
      cases hi;refine ⟨_,lz,by rw[Array.getElem?_modify,if_pos rfl,q1];rfl,rfl,hlz,hxv⟩
     ·rw[getElem?_set_ne (Ne.symm hij)]at hi;obtain ⟨e1,lv1,n1,n2,n3,n4⟩:=g3 i p' hi;exact ⟨e1,lv1,by rw[Array.getElem?_modify,if_neg (Ne.symm hij),n1],n2,n3,n4⟩
  ·cases hk
 ·cases hk
end
end Go.Vx
end
section
namespace Go.Vx
open Go.RowKit
variable [GT]
section
variable {P:Program} {A0:Nat->Prop} {w0:Base} {ρ:Places} {s:St} {a:Act} {w w':World} {g:G} {R:Type} {K:St->Option R} {r:R} {o:Oper}
theorem Rel.grow(h:Rel P A0 w0 ρ s a w){β:Nat}{ch ch':Chunk}{p:Place}(hβ:s.cH[β]?=some (some ch))(hg:w.grownBy w' (ρ β).blk)(hp:∀ b,p.blk=some b->(ρ β).blk=some b\/w.heap.size<=b)
  (hi:ch'.inn s.cH.length)
  (hc:∀ A,(∀ n,n < w.heap.size->A n->Av A0 ρ s.cH n)->yB P A w' ρ p ch') (hlp:ch'.lpNo=none:=by rfl) (hnl:ch.lpNo=none:=by rfl) (hps:p.subs=[]:=by rfl) :
  Rel P A0 w0 (ρ.set s.cH.length p) { s with cH:=s.cH.set β none++[some ch'] } a w':=by
 have hlen:(s.cH.set β none).length=s.cH.length:=by simp
 have he:∀ γ,γ < s.cH.length->ρ.set s.cH.length p γ=ρ γ:=λ γ hγ=>Places.set_lt ρ p hγ
 have hβl:β < s.cH.length:=(List.getElem?_eq_some_iff.1 hβ).1;have hcs:∀ (γ:Nat) (c:Chunk),(s.cH.set β none++[some ch'])[γ]?=some (some c)->(γ≠β/\γ < s.cH.length/\s.cH[γ]?=some (some c))\/(γ=s.cH.length/\c=ch'):=by
  intro γ c hg;rcases yd hg with ⟨h1,h2⟩|⟨h1,h2⟩
  ·rw[hlen]at h1;by_cases hb:β=γ
   ·subst hb;rw[getElem?_set_self h1]at h2;cases h2
   ·rw[getElem?_set_ne hb]at h2;exact .inl ⟨λ e=>hb e.symm,h1,h2⟩
  ·rw[hlen]at h1;exact .inr ⟨h1,h2⟩
 have hnb:∀ (γ:Nat) (c:Chunk),γ≠β->s.cH[γ]?=some (some c)->∀ b,(ρ γ).blk=some b->(ρ β).blk≠some b:=by
  intro γ c hne hgc b hb hbb;exact hne (h.inj γ β c ch hgc hβ (hb.trans hbb.symm) (by rw[hb];simp))
 have hA:∀ n,n < w.heap.size->Av A0 (ρ.set s.cH.length p) (s.cH.set β none++[some ch']) n->Av A0 ρ s.cH n:=by
  rintro n hn ((h0|⟨γ,c,hb,hbn⟩)|⟨γ,c,hb,hbn⟩)
  ·exact .inl (.inl h0)
  ·rcases hcs γ c hb with ⟨h1,h2,h3⟩|⟨rfl,rfl⟩
   ·rw[he γ h2]at hbn;exact .inl (.inr ⟨γ,c,h3,hbn⟩)
   ·rw[Places.set_self,hps]at hbn;cases hbn
  ·rcases hcs γ c hb with ⟨h1,h2,h3⟩|⟨rfl,rfl⟩
   ·rw[he γ h2]at hbn;exact .inr ⟨γ,c,h3,hbn⟩
   ·rw[Places.set_self]at hbn;rcases hp n hbn with h1|h1
    ·exact .inr ⟨β,ch,hβ,h1⟩
    ·omega
 have hK:Keep (Av A0 ρ s.cH) w w':=λ n hn hnA=>hg.block n hn (λ e=>hnA (.inr ⟨β,ch,hβ,e.symm⟩))
 have hbw:∀ b,(ρ β).blk=some b->w0.w.heap.size<=b:=(h.cH β ch hβ).2;refine ⟨h.size,λ i sv hs=>((h.slots i sv hs).congr he (h.names i sv hs)).mono hK hA,λ γ c hgc=>?_,λ γ δ c d hgc hd hbg hne=>?_,λ i sv hs=>SV.inn_mono (by simp) (h.names i sv hs),λ γ c hgc=>?_,
  ⟨hg.os.trans h.below.os,hg.tape.trans h.below.tape,hg.output.trans h.below.output,le_trans h.below.size hg.size,λ n hn=>(hg.block n (Nat.lt_of_lt_of_le hn h.below.size) (λ e=>by have:=hbw n e.symm;omega)).trans (h.below.block n hn)⟩,h.dom,(let ⟨_,hm⟩:=h.defers;y1h hm λ r hr=>(hg.block r (yN hr) λ e=>(h.cH β ch hβ).1.no_mark e.symm hr).trans hr),h.dep,(λ γ c q hc hq=>by
   rcases hcs γ c hc with ⟨_,_,h3⟩|⟨_,rfl⟩
   ·exact h.lpi γ c q h3 hq
   ·rw[hlp]at hq;cases hq),(λ l hl=>by
   obtain ⟨r,hr⟩:=h.round l hl;exact ⟨r,(hg.block l (yN hr) λ e=>(h.cH β ch hβ).1.no_loop hnl e.symm hr).trans hr⟩),h.glob,h.kZ,λ i sv hs=>((h.kS i sv hs).congr he (h.kN i sv hs)).mono hK hA,λ i sv hs=>SV.inn_mono (by simp) (h.kN i sv hs),⟨λ γ c hgc hm=>?_,λ γ c n hgc hn=>?_,λ γ δ c d n hgc hd hn=>?_,λ γ δ c d n hgc hd hn hn2=>?_⟩⟩
 ·rcases hcs γ c hgc with ⟨h1,h2,h3⟩|⟨rfl,rfl⟩
  ·rw[he γ h2];refine ⟨?_,(h.cH γ c h3).2⟩;have h4:=(h.cH γ c h3).1.congr he (h.cN γ c h3);have hb':=hnb γ c h1 h3;exact h4.frame (λ n hn hl=>hg.block n hl (λ e=>hb' n hn e.symm)) (λ n hn hl=>hg.block n hl (λ e=>h.subs.apart γ β c ch n h3 hβ hn e.symm)) hK hA
  ·rw[Places.set_self];refine ⟨(hc _ hA).congr he hi,λ b hb=>?_⟩
   rcases hp b hb with h1|h1
   ·exact hbw b h1
   ·exact le_trans h.below.size h1
 ·have new:∀ (γ:Nat) (c:Chunk),γ≠β->s.cH[γ]?=some (some c)->(ρ γ).blk=p.blk->(ρ γ).blk=none:=by
   intro γ c hne hgc hbp;cases hq:(ρ γ).blk with
   |none=>rfl
   |some b =>
    rcases hp b (hbp ▸ hq)with h1|h1
    ·exact absurd h1 (hnb γ c hne hgc b hq)
    ·have:=(h.cH γ c hgc).1.lt hq;omega
  rcases hcs γ c hgc with ⟨h1,h2,h3⟩|⟨h1,_⟩<;>rcases hcs δ d hd with ⟨h4,h5,h6⟩|⟨h4,_⟩
  ·rw[he γ h2,he δ h5]at hbg;rw[he γ h2]at hne;exact h.inj γ δ c d h3 h6 hbg hne
  ·subst h4;rw[he γ h2,Places.set_self]at hbg;rw[he γ h2]at hne;exact absurd (new γ c h1 h3 hbg) hne
  ·subst h1;rw[he δ h5,Places.set_self]at hbg;rw[Places.set_self]at hne;exact absurd (hbg.trans (new δ d h4 h6 hbg.symm)) hne
  ·omega
 ·rcases hcs γ c hgc with ⟨h1,h2,h3⟩|⟨rfl,rfl⟩
  ·exact Chunk.inn_mono (by simp) (h.cN γ c h3)
  ·exact Chunk.inn_mono (by simp) hi
 ·rcases hcs γ c hgc with ⟨h1,h2,h3⟩|⟨rfl,rfl⟩
  ·rw[he γ h2];exact h.subs.plain γ c h3 hm
  ·rw[Places.set_self];exact hps
 ·rcases hcs γ c hgc with ⟨h1,h2,h3⟩|⟨rfl,rfl⟩
  ·rw[he γ h2]at hn;exact h.subs.base γ c n h3 hn
  ·rw[Places.set_self,hps]at hn;cases hn
 ·rcases hcs γ c hgc with ⟨h1,h2,h3⟩|⟨rfl,rfl⟩
  ·rw[he γ h2]at hn;rcases hcs δ d hd with ⟨h4,h5,h6⟩|⟨rfl,rfl⟩
   ·rw[he δ h5];exact h.subs.apart γ δ c d n h3 h6 hn
   ·rw[Places.set_self];intro hpn;rcases hp n hpn with h7|h7
    ·exact h.subs.apart γ β c ch n h3 hβ hn h7
    ·have:=h.sub_lt h3 hn;omega
  ·rw[Places.set_self,hps]at hn;cases hn
 ·rcases hcs γ c hgc with ⟨h1,h2,h3⟩|⟨rfl,rfl⟩
  ·rw[he γ h2]at hn;rcases hcs δ d hd with ⟨h4,h5,h6⟩|⟨rfl,rfl⟩
   ·rw[he δ h5]at hn2;exact h.subs.one γ δ c d n h3 h6 hn hn2
   ·rw[Places.set_self,hps]at hn2;cases hn2
  ·rw[Places.set_self,hps]at hn;cases hn
theorem y8h{A:Nat->Prop}{u:Ty}(b:Nat):∀ (xs:List u.den) (off:Nat),(∀ (i:Nat) (x:u.den),xs[i]?=some x->∃ l',yX w b (off+i * u.size) l'/\y6 P u A w x l') ->
  ∃ l,yX w b off l/\y6 P (.arr xs.length u) A w xs l
 |[],off,_=>⟨[],λ j v hj=>by simp at hj,by simp[y6]⟩
 |x::xs,off,h=>by
  obtain ⟨l0,h0,h1⟩:=h 0 x rfl;obtain ⟨l,h2,h3⟩:=y8h b xs (off+u.size) (λ i y hy=>by
   obtain ⟨l',e1,e2⟩:=h (i+1) y hy;exact ⟨l',by rw[show off+u.size+i * u.size=off+(i+1) * u.size by rw[add_mul];omega];exact e1,e2⟩)
  have hl0:=h1.length;simp only[y6]at h3;obtain ⟨h4,_,h5⟩:=h3;refine ⟨l0++l,λ j v hj=>?_,?_⟩
  ·rw[List.getElem?_append]at hj;split at hj
   ·have:=h0 j v hj;rwa[Nat.zero_mul,Nat.add_zero]at this
   ·have:=h2 (j - l0.length) v hj;rwa[show off+u.size+(j - l0.length)=off+j by omega]at this
  ·simp only[y6];refine ⟨by rw[length_append,h4,hl0,length_cons,succ_mul];omega,trivial,λ i y hy=>?_⟩
   cases i with
   |zero =>
    simp at hy;subst hy;rw[Nat.zero_mul,List.drop_zero,<- hl0,List.take_left];exact h1
   |succ i =>
    have:=h5 i y (by simpa using hy)
    rw[succ_mul,drop_append,List.drop_eq_nil_of_le (by omega),nil_append,show i * u.size+u.size - l0.length=i * u.size by omega]
    exact this
theorem y8g{t ty e:TypeId}{i:TypeInfo}(ht:P.underlying t=some (.slice e))(hi:P.info? e=some i){p q:Option Addr}{n c c':Nat}(hn:n<=c) :
  (Builtin.append_ #[t,t] ty #[.slice p n c,.slice q 0 c']).run P w=.ok (.slice p n c) w:=by
 cases p<;>cases q<;>simp[Builtin.append_,run_underlying ht,sizeOf,typeInfo,hi,Builtin.lenOf,Builtin.firstCells,hn,storeCells,loadCells,loadCellsFrom]
theorem y0A{A:Nat->Prop}{u:Ty}{ys:List u.den}{l:List Value}(h:y6 P (.slice u) A w ys l) :
  (ys=[]/\∃ p c,l=[.slice p 0 c])\/∃ b off c m,l=[.slice (some ⟨b,off,none⟩) (List.length ys) c]/\yX w b off m/\y6 P (.arr (List.length ys) u) A w ys m:=by
 simp only[y6]at h;obtain ⟨p,c,rfl,h1,h2,h3⟩:=h;cases ys with
 |nil=>exact .inl ⟨rfl,p,c,rfl⟩
 |cons y ys' =>
  obtain ⟨ad,_,e0,hsp,_⟩:=h3 0 y rfl;subst e0;obtain ⟨b,off,sp⟩:=ad;simp only at hsp;subst hsp;obtain ⟨m,h4,h5⟩:=y8h (P:=P) (A:=A) (w:=w) (u:=u) b (y::ys') off (λ i x hx=>by
   obtain ⟨a1,l',e1,_,_,_,e2,e3⟩:=h3 i x hx;cases e1;exact ⟨l',e2,e3⟩)
  exact .inr ⟨b,off,c,m,rfl,h4,h5⟩
theorem yFG{args:Array Operand}{b x:Operand}(h:args.toList=[b,x]):args=#[b,x]:=by
 apply Array.toList_inj.1;simpa using h
theorem yFN{ts:Array TypeId}{t u:TypeId}(h:ts.toList=[t,u]):ts=#[t,u]:=by
 apply Array.toList_inj.1;simpa using h
theorem yDn(w:World)(row:Option Nat):w.grownBy w row:=⟨rfl,rfl,rfl,le_refl _,λ _ _ _=>rfl⟩
theorem yHB{A:Nat->Prop}{p:Place}{e:TypeId}{u:Ty}{xs:List u.den}{nn:Bool}(h:yB P A w ρ p (.arr e u xs nn)){base:Nat}(hb:∀ b,p.blk=some b->base<=b) :
  ∃ l,w.ownsRow base e u.size (.slice (p.blk.map λ b=>⟨b,0,none⟩) p.len p.cap) xs.length l/\y6 P (.arr xs.length u) A w xs l:=by
 obtain ⟨h1,h2,h3⟩:=h;rcases h3 with ⟨h4,h5,h6⟩|⟨b,vs,hb',h4,h5,h6,h7,h8⟩
 ·have:xs=[]:=List.eq_nil_of_length_eq_zero (by omega)
  subst this;rw[h4,h5,h6];exact ⟨[],World.ownsRow_nil w base e u.size,by simp[y6]⟩
 ·have hle:List.length xs * u.size<=vs.toList.length:=by
   have e1:vs.toList.length=vs.size:=Array.length_toList;rw[e1,h7];exact mul_le_mul_right _ (by omega)
  refine ⟨vs.toList.take (xs.length * u.size),⟨by rw[length_take];omega,.inr ⟨b,p.cap,vs,by rw[hb',h1];rfl,hb b hb',h4,by omega,h6,h7,rfl⟩⟩,?_⟩
  simp only[y6];refine ⟨by rw[length_take];omega,trivial,λ i x hx=>?_⟩
  have hi:=(List.getElem?_eq_some_iff.1 hx).1;have hm:i * u.size+u.size<=xs.length * u.size:=by rw[<- succ_mul];exact mul_le_mul_right _ hi
  rw[drop_take,take_take,Nat.min_eq_left (by omega)]
  exact h8 i x hx
theorem yA8{e:TypeId}{size:Nat}{v:Value}{base n:Nat}{l:List Value}(h:w.ownsRow base e size v n l):∃ p:Place,v=.slice (p.blk.map λ b=>⟨b,0,none⟩) p.len p.cap/\p.subs=[]:=by
 rcases h.2 with ⟨rfl,rfl⟩|⟨g,cap,cur,rfl,_⟩
 ·exact ⟨⟨none,0,0,[],[],[]⟩,rfl,rfl⟩
 ·exact ⟨⟨some g,n,cap,[],[],[]⟩,rfl,rfl⟩
theorem yGz{A:Nat->Prop}{e:TypeId}{u:Ty}{zs:List u.den}{nn:Bool}{base n:Nat}{l:List Value}{p:Place}(h:w.ownsRow base e u.size (.slice (p.blk.map λ b=>⟨b,0,none⟩) p.len p.cap) n l)(hn:zs.length=n)(hc:y6 P (.arr n u) A w zs l)
  (hnn:nn=true->p.blk≠none):yB P A w ρ p (.arr e u zs nn):=by
 simp only[y6]at hc;obtain ⟨h1,h2,h3⟩:=hc;obtain ⟨blk,len,cap⟩:=p;rcases h.2 with ⟨hv,rfl⟩|⟨g,cap',cur,hv,hb,hg,hle,hm,hs,ht⟩
 ·cases blk with
  |some q=>cases hv
  |none =>
   cases hv;exact ⟨hn,hnn,.inl ⟨rfl,rfl,rfl⟩⟩
 ·cases blk with
  |none=>cases hv
  |some q =>
   cases hv;refine ⟨hn,hnn,.inr ⟨g,cur,rfl,hg,hle,hm,hs,λ i x hx=>?_⟩⟩
   have hi:i < len:=by have:=(List.getElem?_eq_some_iff.1 hx).1;have e2:List.length zs=len:=hn;omega
   have:=h3 i x hx;have hm:i * u.size+u.size<=len * u.size:=by rw[<- succ_mul];exact mul_le_mul_right _ hi
   simp only at ht;rw[<- ht,drop_take,take_take,Nat.min_eq_left (by omega)]at this
   exact this
theorem yCo{t ty e:TypeId}{i:TypeInfo}{z:Value}(ht:P.underlying t=some (.slice e))(hi:P.info? e=some i)(hz:i.zero=some z){size bytes:Nat}(hsize:i.size=size)(hby:i.bytes=bytes)(hzs:z.cells.size=size)(hsz:0 < size)
  {p:Place} {base n:Nat} {xs:List Value} (hown:w.ownsRow base e size (.slice (p.blk.map λ b=>⟨b,0,none⟩) p.len p.cap) n xs) {a:Addr} {m c:Nat} {news:List Value} (hl:news.length=m * size) (hnews:∀ j u,news[j]?=some u->w.cell? (a.add j)=some u) (h1:∀ u∈news,u.oneCell'=true)
  (h63:n+m<=maxLen) (hbytes:(n+m) * bytes<=140737488355328) {v':Value} {w':World} (hr:(Builtin.append_ #[t,t] ty #[.slice (p.blk.map λ b=>⟨b,0,none⟩) p.len p.cap,.slice (some a) m c]).run P w=.ok v' w') {q:Place} (hq:v'=.slice (q.blk.map λ b=>⟨b,0,none⟩) q.len q.cap) :
  ∀ b,q.blk=some b->p.blk=some b\/w.heap.size<=b:=by
 intro b hb;subst hsize hby;obtain ⟨blk,len,cap⟩:=p;obtain ⟨qb,ql,qc⟩:=q;simp only at hb hq;subst hb;cases blk with
 |none =>
  obtain ⟨v2,w2,hr2,ho2,_,_⟩:=run_append_own (P:=P) w w.heap.size t ty e i z i.size i.bytes ht hi hz rfl rfl hzs hsz (.slice none len cap) n xs
   (by
    refine ⟨hown.1,?_⟩;rcases hown.2 with h|⟨g,cap',cur,hv,_⟩
    ·exact .inl h
    ·cases hv) a m c news hl hnews h1 h63 hbytes (le_refl _)
  rw[show Option.map (λ b=>(⟨b,0,none⟩:Addr)) (none:Option Nat)=none from rfl]at hr
  rw[hr2]at hr;cases hr;rcases ho2.2 with ⟨h,_⟩|⟨g,cap',cur,h,h3,_⟩
  ·rw[h]at hq;cases hq
  ·rw[h]at hq;cases hq;exact .inr h3
 |some b0 =>
  rcases hown.2 with ⟨h,_⟩|⟨g,cap',cur,h,h3,hg,hnc,hcm,hcs,htake⟩
  ·cases h
  ·cases h;by_cases hroom:len+m<=cap
   ·have hfit:len * i.size+news.length<=cur.size:=by rw[hl,hcs,<- add_mul];exact mul_le_mul_right _ hroom
    have hr2:=run_append_room (P:=P) w t ty e i ht hi b0 len cap cur hg a m c news hl hnews h1 hroom hfit;rw[show Option.map (λ b=>(⟨b,0,none⟩:Addr)) (some b0)=some ⟨b0,0,none⟩from rfl]at hr
    rw[hr2]at hr;cases hr;cases hq;exact .inl rfl
   ·have holds:∀ j u,xs[j]?=some u->w.cell? ((⟨b0,0,none⟩:Addr).add j)=some u:=hown.cells (g:=b0) rfl;have hr2:=run_append_grow (P:=P) w t ty e i z ht hi hz ⟨b0,0,none⟩ len cap xs hown.1 holds a m c news hl hnews (by omega) (by simp only[maxLen]at h63;omega) (growslice_fits (by omega) hbytes)
    rw[show Option.map (λ b=>(⟨b,0,none⟩:Addr)) (some b0)=some ⟨b0,0,none⟩from rfl]at hr
    rw[hr2]at hr;cases hr;cases hq;exact .inr (le_refl _)
theorem y73{t u ty e:TypeId}{i:TypeInfo}(ht:P.underlying t=some (.slice e))(hu:P.underlying u=some .string)(hi:P.info? e=some i)(hz:i.zero=some (.int .u8 0))(hsize:i.size=1)(hby:i.bytes=1)
  {p:Place} {base n:Nat} {xs:List Value} (hown:w.ownsRow base e 1 (.slice (p.blk.map λ b=>⟨b,0,none⟩) p.len p.cap) n xs) {s:ByteArray}
  (h63:n+s.size<=maxLen) (hbytes:n+s.size<=140737488355328) {v':Value} {w':World} (hr:(Builtin.append_ #[t,u] ty #[.slice (p.blk.map λ b=>⟨b,0,none⟩) p.len p.cap,.string s]).run P w=.ok v' w') {q:Place} (hq:v'=.slice (q.blk.map λ b=>⟨b,0,none⟩) q.len q.cap) :
  ∀ b,q.blk=some b->p.blk=some b\/w.heap.size<=b:=by
 intro b hb;obtain ⟨blk,len,cap⟩:=p;obtain ⟨qb,ql,qc⟩:=q;simp only at hb hq;subst hb;cases blk with
 |none =>
  obtain ⟨v2,w2,hr2,ho2,_,_⟩:=Lib.run_append_own_string (P:=P) w w.heap.size t u ty e i ht hu hi hz hsize hby (.slice none len cap) n xs
   (by
    refine ⟨hown.1,?_⟩;rcases hown.2 with h|⟨g,cap',cur,hv,_⟩
    ·exact .inl h
    ·cases hv) s h63 hbytes (le_refl _)
  rw[show Option.map (λ b=>(⟨b,0,none⟩:Addr)) (none:Option Nat)=none from rfl]at hr
  rw[hr2]at hr;cases hr;rcases ho2.2 with ⟨h,_⟩|⟨g,cap',cur,h,h3,_⟩
  ·rw[h]at hq;cases hq
  ·rw[h]at hq;cases hq;exact .inr h3
 |some b0 =>
  rcases hown.2 with ⟨h,_⟩|⟨g,cap',cur,h,h3,hg,hnc,hcm,hcs,htake⟩
  ·cases h
  ·cases h;rw[show Option.map (λ b=>(⟨b,0,none⟩:Addr)) (some b0)=some ⟨b0,0,none⟩from rfl]at hr
   by_cases hroom:len+s.size<=cap
   ·have hr2:=Lib.run_append_room_string (P:=P) w t u ty e i ht hu hi hsize b0 len cap cur hg s hroom (by rw[hcs,Nat.mul_one];exact hroom)
    rw[hr2]at hr;cases hr;cases hq;exact .inl rfl
   ·have hb2:len+s.size<=140737488355328:=hbytes;have hxl:xs.length=len * i.size:=by rw[hsize];exact hown.1
    have holds:∀ j u,xs[j]?=some u->w.cell? ((⟨b0,0,none⟩:Addr).add j)=some u:=hown.cells (g:=b0) rfl;have hr2:=Lib.run_append_grow_string (P:=P) w t u ty e i (.int .u8 0) ht hu hi hz ⟨b0,0,none⟩ len cap xs hxl holds s (by omega) (by simp only[maxLen]at h63;omega) (by rw[hby];exact growslice_fits (by omega) (by omega))
    rw[hr2]at hr;cases hr;cases hq;exact .inr (le_refl _)
theorem yAp{A:Nat->Prop}(bs:List UInt8):y6 P (.arr bs.length (.int .u8)) A w (y2O bs) (Lib.strCells ⟨bs.toArray⟩):=by
 simp only[y6];refine ⟨by simp[Lib.strCells,Ty.size],by simp[y2O],λ i x hx=>?_⟩
 simp only[y2O,getElem?_map,map_eq_some_iff]at hx;obtain ⟨c,hc,rfl⟩:=hx;have hi:i < bs.length:=(List.getElem?_eq_some_iff.1 hc).1;apply ext_getElem?;intro j;rw[show (Ty.int IntKind.u8).size=1 from rfl,Nat.mul_one,List.getElem?_take]
 split
 ·have:j=0:=by omega
  subst this;simp[Lib.strCells,List.getElem?_drop,hc]
 ·cases j with
  |zero=>omega
  |succ j=>simp
theorem y6P{A:Nat->Prop}{u:Ty}{xs ys:List u.den}{l m:List Value}(h1:y6 P (.arr xs.length u) A w xs l)(h2:y6 P (.arr ys.length u) A w ys m) :
  y6 P (.arr (xs.length+ys.length) u) A w (xs++ys) (l++m):=by
 simp only[y6]at h1 h2 ⊢;obtain ⟨a1,_,a3⟩:=h1;obtain ⟨b1,_,b3⟩:=h2;refine ⟨by rw[length_append,a1,b1,add_mul],by simp,λ i x hx=>?_⟩
 rw[List.getElem?_append]at hx;split at hx
 ·rename_i hi;have hm:i * u.size+u.size<=xs.length * u.size:=by rw[<- succ_mul];exact mul_le_mul_right _ hi
  rw[List.drop_append_of_le_length (by omega),List.take_append_of_le_length (by rw[length_drop];omega)]
  exact a3 i x hx
 ·rename_i hi;have e:i * u.size=l.length+(i - xs.length) * u.size:=by rw[a1,<- add_mul];congr 1;omega
  rw[e,drop_append,List.drop_eq_nil_of_le (by omega),nil_append,Nat.add_sub_cancel_left]
  exact b3 _ x hx
theorem y8v(hT:yw P g.T)(h:Rel P A0 w0 ρ s a w){args:Array Operand}{ts:Array TypeId}(ho:o.op=.call { callee:=.builtin .append,args,argTypes:=ts })
  {b x:Operand} {t t':TypeId} (hargs:args.toList=[b,x]) (hts:ts.toList=[t,t']) (hstr:yD8 g.T t'=true) (hk:y1f g s o b x t t' K=some r):Eff P A0 w0 a w o K r:=by
 unfold y1f at hk;split at hk
 ·rename_i i β bs hi hb hx;split at hk
  ·rename_i e xs nn hch;split at hk
   ·rename_i hcond;obtain ⟨rfl,hty⟩:=hcond;cases hle:decide (List.length xs+List.length bs<=memMax)with
    |false=>rw[hle]at hk;cases hk
    |true =>
     rw[hle]at hk;simp only[cond_true]at hk;have hle:=of_decide_eq_true hle;have hc:=getD_some hch;obtain ⟨hu,hF,hs0⟩:=yS (hT.shape hi) (.inl hty);obtain ⟨inf,d,f1,f2,f3,f4,f5,f6⟩:=hF.ex;have f8:=hF.by8 rfl inf f1;have hut:P.underlying t'=some .string:=by
      unfold yD8 at hstr;split at hstr
      ·rename_i j hj;split at hstr
       ·rename_i hjs;exact y2U (hT.shape hj) hjs
       ·cases hstr
      ·cases hstr
     have hxv:a.eval x=.string ⟨bs.toArray⟩:=by
      have:=(y3 (T:=g.T) h t' x).1;rw[hx]at this;exact y3Q this
     have hbv:a.eval b=_:=hb ▸ (y3 (T:=g.T) h 0 b).1;have hwhere:=yFG hargs;have hts':=yFN hts;subst hwhere hts';have hrun:(execOp a.eval o).run P w=Result.andThen ((Builtin.append_ #[t,t'] o.type #[a.eval b,a.eval x]).run P w) λ v w'=>.ok (.value v) w':=by
      simp[execOp,ho,resolve,invoke,builtin]
     have hch1:=(h.cH β _ hc).1;obtain ⟨lx,hown,hlx⟩:=yHB hch1 (base:=w0.w.heap.size) (h.cH β _ hc).2;have hsz:(⟨bs.toArray⟩:ByteArray).size=bs.length:=rfl;obtain ⟨v',w',hr,hown',hg,hnil⟩:=Lib.run_append_own_string (P:=P) w w0.w.heap.size t t' o.type i.elem inf hu hut f1 f6 f3 f8
      _ (List.length xs) lx hown ⟨bs.toArray⟩ (by rw[hsz];simp only[maxLen];simp only[memMax]at hle;omega) (by rw[hsz];simp only[memMax]at hle;omega) h.below.size
     have hob:(Value.slice ((ρ β).blk.map λ b=>⟨b,0,none⟩) (ρ β).len (ρ β).cap).ownBlock=(ρ β).blk:=by
      cases (ρ β).blk<;>rfl
     rw[hob]at hg;have hKA:∀ A,(∀ n,n < w.heap.size->A n->Av A0 ρ s.cH n)->y6 P (.arr (List.length xs+List.length bs) (.int .u8)) A w' (xs++y2O bs) (lx++Lib.strCells ⟨bs.toArray⟩):=by
      intro A hA;have hK:Keep (Av A0 ρ s.cH) w w':=λ n hn hnA=>hg.block n hn (λ e=>hnA (.inr ⟨β,_,hc,e.symm⟩))
      have h2:=yAp (P:=P) (A:=Av A0 ρ s.cH) (w:=w) bs;have e3:(y2O bs).length=bs.length:=by simp[y2O]
      rw[<- e3]at h2;have:=(y6P hlx h2).mono hK hA;rw[e3]at this;exact this
     obtain ⟨p,hv,hps⟩:=yA8 hown';have hnn:nn=true->p.blk≠none:=by
      intro hn e;have hv2:v'=.slice none 0 0:=by
       rcases hown'.2 with ⟨h,_⟩|⟨g,cap',cur,h,_⟩
       ·exact h
       ·rw[hv,e]at h;cases h
      have:=(hnil.1 hv2).1;have h5:=hch1.2.1 hn;cases hq:(ρ β).blk with
      |none=>exact h5 hq
      |some q=>rw[hq]at this;cases this
     have hwh:=y73 (P:=P) hu hut f1 f6 f3 f8 hown (s:=⟨bs.toArray⟩) (by rw[hsz];simp only[maxLen];simp only[memMax]at hle;omega) (by rw[hsz];simp only[memMax]at hle;omega) hr hv
     rw[hv]at hown';have hG:=h.grow (ch':=.arr i.elem (.int .u8) (xs++y2O bs) nn) hc hg hwh trivial (λ A hA=>yGz (ρ:=ρ) (nn:=nn) hown' (by simp[y2O,hsz]) (by rw[hsz];exact hKA A hA) hnn) (hps:=hps)
     refine Eff.val (v:=v') (w':=w') (by rw[hrun,hbv,hxv,hr];rfl) (hG.put o.dst (sv:=.own s.cH.length) ?_ ?_) hk
     ·show s.cH.length < (s.cH.set β none++[_]).length
      simp
     ·show v'=Value.slice _ _ _
      rw[Places.set_self];exact hv
   ·cases hk
  ·cases hk
 ·cases hk
theorem yAe(hT:yw P g.T)(h:Rel P A0 w0 ρ s a w){args:Array Operand}{ts:Array TypeId}(ho:o.op=.call { callee:=.builtin .unsafeString,args,argTypes:=ts })(hk:effK g s o K=some r):Eff P A0 w0 a w o K r:=by
 simp only[effK,ho]at hk;split at hk
 ·rename_i x n t t2 hargs hts;have hwhere:=yFG hargs;have hts':=yFN hts;subst hwhere hts';unfold y5J at hk;split at hk
  ·rename_i i β m hi hx hn;split at hk
   ·rename_i e xs nn hch;split at hk
    ·rename_i j hj;split at hk
     ·rename_i hcond;obtain ⟨h1,rfl,h3⟩:=hcond;cases hb:(m == (List.length xs:Int) && decide (0 < List.length xs) && yAs xs)with
      |false=>rw[hb]at hk;cases hk
      |true =>
       rw[hb]at hk;simp only[cond_true]at hk;simp only[and_eq_true,beq_iff_eq,decide_eq_true_eq]at hb;obtain ⟨⟨rfl,hne⟩,hby⟩:=hb;have hc:=getD_some hch;obtain ⟨hlen,_,hq⟩:=(h.cH β _ hc).1;have hpos:0 < List.length xs:=hne;rcases hq with ⟨_,h4,_⟩|⟨b,vs,hbk,h4,h5,h6,h7,h8⟩
       ·omega
       ·have hxv:a.eval x=.pointer (some ⟨b,0,none⟩):=by
         have:=(y3 (T:=g.T) h 0 x).1;rw[hx]at this;obtain ⟨b',hb',hv⟩:=this;rw[hbk]at hb';cases hb';exact hv
        have hnv:a.eval n=.int .i64 (List.length xs:Int):=by
         have:=(y3 (T:=g.T) h 0 n).1;rw[hn]at this;exact yy this
        have hpt:P.underlying t=some (.pointer i.elem):=yJm (hT.shape hi) h1;have hF:=hT.fits hj;rw[h3]at hF;obtain ⟨inf,d,f1,f2,f3,f4,f5,f6⟩:=hF.ex;have hce:P.cellsOf i.elem=1:=by simp[Program.cellsOf,f1,f3,Ty.size]
        have hvl:vs.size=(ρ β).cap:=by rw[h7];simp[Ty.size]
        have hbl:(y3K xs).length=List.length xs:=by simp[y3K]
        have hcell:∀ (j:Nat) (c:UInt8),(y3K xs)[j]?=some c->w.cell? ((⟨b,0,none⟩:Addr).add j)=some (.int .u8 c.toNat):=by
         intro j c hjc;simp only[y3K,getElem?_map,map_eq_some_iff]at hjc;obtain ⟨z,hz,rfl⟩:=hjc;have h9:=h8 j z hz;have hz2:0<=z/\z < 256:=by
          have:=List.all_eq_true.1 hby z (mem_of_getElem? hz);simpa using this
         have h10:vs.toList[j]?=some (.int .u8 z):=by
          have:=congrArg (·[0]?) h9;simpa[Ty.size,List.getElem?_take,List.getElem?_drop]using this
         have h11:((UInt8.ofNat z.toNat).toNat:Int)=z:=by
          rw[UInt8.toNat_ofNat'];omega
         rw[h11];rw[y0G];simp only[World.cell?,h4,Option.isSome_none,false_eq_true,if_false,Nat.zero_add];simpa using h10
        have hrun:=Lib.run_unsafeString_row (P:=P) (w:=w) t t2 o.type i.elem hpt hce b vs.size (by simp[World.shape?,h4]) (y3K xs) (by intro e;rw[e]at hbl;simp at hbl;omega) (by rw[hbl];omega) (by
         rw[hbl];simp only[maxLen]at h6;omega) hcell
        rw[hbl]at hrun;have hw:=h.writeDrop (w':=w.freeze ⟨b,0,none⟩ (List.length xs)) hc hbk rfl (λ n hn=>by
         unfold World.freeze;rw[if_neg (by omega)]
         simp only[Array.getElem?_modify];rw[if_neg (λ e=>hn e.symm)]) (by
         unfold World.freeze;rw[if_neg (by omega)]
         simp) (by unfold World.freeze;split<;>rfl) (by unfold World.freeze;split<;>rfl) (by unfold World.freeze;split<;>rfl)
        refine Eff.val (v:=.string ⟨(y3K xs).toArray⟩) ?_ (hw.put o.dst (sv:=.val .str (y3K xs)) trivial (yCz _)) hk;simp[execOp,ho,resolve,invoke,builtin,hxv,hnv,hrun]
     ·cases hk
    ·cases hk
   ·cases hk
  ·cases hk
 ·cases hk
def NL(P:Program)(A:Nat->Prop)(w:World)(t:Ty)(o:Nat)(e':TypeId)(u:Ty)(xs:List t.den)(l:List Value)(ns:List (Option Nat×Nat×Nat)):Prop:=
 l.length=xs.length * t.size/\ns.length=xs.length/\∀ (i:Nat) (x:t.den),xs[i]?=some x->∃ q,ns[i]?=some q/\NRel P A w t o e' u x ((l.drop (i * t.size)).take t.size) q
theorem NRel.plain{A:Nat->Prop}{t u:Ty}{q:Nat}{e':TypeId}{x:t.den}{l:List Value}{n:Option Nat×Nat×Nat}(h:NRel P A w t q e' u x l n):∀ v∈l,Value.plain1 v=true:=by
 obtain ⟨x0,l0,ys,h1,h2,h3,h4,h5⟩:=h;subst h3;intro v hv;rcases List.mem_or_eq_of_mem_set hv with hv|rfl
 ·exact y6.plain h1 v hv
 ·rfl
theorem NL.plain{A:Nat->Prop}{t u:Ty}{q:Nat}{e':TypeId}{xs:List t.den}{l:List Value}{ns:List (Option Nat×Nat×Nat)}(h:NL P A w t q e' u xs l ns)(h0:0 < t.size):∀ v∈l,Value.plain1 v=true:=by
 obtain ⟨h1,h2,h3⟩:=h;intro v hv;obtain ⟨j,hj⟩:=List.mem_iff_getElem?.1 hv;have hlt:=(List.getElem?_eq_some_iff.1 hj).1;have hi:j / t.size < xs.length:=by rw[Nat.div_lt_iff_lt_mul h0];omega
 obtain ⟨n,_,h4⟩:=h3 _ _ (getElem?_eq_getElem hi);refine h4.plain v (mem_of_getElem? (i:=j % t.size) ?_);rw[List.getElem?_take,if_pos (Nat.mod_lt _ h0),List.getElem?_drop];rw[show j / t.size * t.size+j % t.size=j by rw[Nat.mul_comm];exact Nat.div_add_mod j t.size]
 exact hj
theorem NL.append{A:Nat->Prop}{t u:Ty}{q:Nat}{e':TypeId}{xs ys:List t.den}{l m:List Value}{ns ms:List (Option Nat×Nat×Nat)}(h1:NL P A w t q e' u xs l ns)(h2:NL P A w t q e' u ys m ms):NL P A w t q e' u (xs++ys) (l++m) (ns++ms):=by
 obtain ⟨a1,a2,a3⟩:=h1;obtain ⟨b1,b2,b3⟩:=h2;refine ⟨by rw[length_append,a1,b1,length_append,add_mul],by rw[length_append,length_append,a2,b2],λ i x hx=>?_⟩
 rw[List.getElem?_append]at hx;split at hx
 ·rename_i hi;have hm:i * t.size+t.size<=xs.length * t.size:=by rw[<- succ_mul];exact mul_le_mul_right _ hi
  rw[List.drop_append_of_le_length (by omega),List.take_append_of_le_length (by rw[length_drop];omega),getElem?_append_left (by omega)]
  exact a3 i x hx
 ·rename_i hi;have e:i * t.size=l.length+(i - xs.length) * t.size:=by rw[a1,<- add_mul];congr 1;omega
  rw[e,drop_append,List.drop_eq_nil_of_le (by omega),nil_append,Nat.add_sub_cancel_left,List.getElem?_append_right (by omega),a2]
  exact b3 _ x hx
theorem NL.frame{A A':Nat->Prop}{t u:Ty}{q:Nat}{e':TypeId}{xs:List t.den}{l:List Value}{ns:List (Option Nat×Nat×Nat)}(h:NL P A w t q e' u xs l ns)(hs:∀ n,some n∈ns.map (·.1)->n < w.heap.size->w'.heap[n]?=w.heap[n]?)(hK:Keep A w w')(hA:∀ n,n < w.heap.size->A' n->A n):NL P A' w' t q e' u xs l ns:=
 ⟨h.1,h.2.1,λ i x hx=>let ⟨m,h4,h5⟩:=h.2.2 i x hx;⟨m,h4,h5.frame (λ n hn=>hs n (mem_map.2 ⟨m,mem_of_getElem? h4,hn⟩)) hK hA⟩⟩
theorem y8B(hT:yw P g.T)(h:Rel P A0 w0 ρ s a w){args:Array Operand}{ts:Array TypeId}(ho:o.op=.call { callee:=.builtin .append,args,argTypes:=ts })
  {b x:Operand} {t t':TypeId} (hargs:args.toList=[b,x]) (hts:ts.toList=[t,t']) (hk:y2H g s o b x t t' K=some r):Eff P A0 w0 a w o K r:=by
 unfold y2H at hk;cases hk
theorem y8s(hT:yw P g.T)(h:Rel P A0 w0 ρ s a w){args:Array Operand}{ts:Array TypeId}(ho:o.op=.call { callee:=.builtin .append,args,argTypes:=ts })
  (hk:effK g s o K=some r):Eff P A0 w0 a w o K r:=by
 have hstr:∀ (b x:Operand) (t t':TypeId),args.toList=[b,x]->ts.toList=[t,t']->yD8 g.T t'=true->y1f g s o b x t t' K=some r->Eff P A0 w0 a w o K r:=λ b x t t' h1 h2 h3 h4=>y8v hT h ho h1 h2 h3 h4
 have hnst:∀ (b x:Operand) (t t':TypeId),args.toList=[b,x]->ts.toList=[t,t']->y2H g s o b x t t' K=some r->Eff P A0 w0 a w o K r:=λ b x t t' h1 h2 h3=>y8B hT h ho h1 h2 h3
 simp only[effK,ho]at hk;split at hk
 ·rename_i b x t t' hargs hts;split at hk
  ·rename_i hst;exact hstr b x t t' hargs hts hst hk
  split at hk
  ·exact hnst b x t t' hargs hts hk
  have hS:=h.settle (y9 g.T t' s x);generalize s.settle (y9 g.T t' s x)=s1 at hk hS;split at hk
  ·rename_i i β hi hb;split at hk
   ·rename_i e u xs nn hch;split at hk
    ·rename_i hcond;obtain ⟨rfl,hty,rfl⟩:=hcond;simp only[bind_eq_some_iff]at hk;obtain ⟨ys,hy,hk⟩:=hk;cases hle:decide (xs.length+List.length ys<=memMax)with
     |false=>rw[hle]at hk;cases hk
     |true =>
      rw[hle]at hk;simp only[cond_true]at hk;have hle:=of_decide_eq_true hle;have hc:=getD_some hch;obtain ⟨hu,hF,hs0⟩:=yS (hT.shape hi) (.inl hty);obtain ⟨inf,d,f1,f2,f3,f4,f5,f6⟩:=hF.ex;obtain ⟨l,h1,h2⟩:=y01 (y3 (T:=g.T) hS t' x).1 hy;have hbv:a.eval b=_:=hb ▸ (y3 (T:=g.T) hS 0 b).1;have hwhere:=yFG hargs;have hts':=yFN hts;subst hwhere hts';have hrun:(execOp a.eval o).run P w=Result.andThen ((Builtin.append_ #[t',t'] o.type #[a.eval b,a.eval x]).run P w) λ v w'=>.ok (.value v) w':=by
       simp[execOp,ho,resolve,invoke,builtin]
      have hch1:=(hS.cH β _ hc).1;have fin:∀ (v':Value) (w':World) (p:Place),(Builtin.append_ #[t',t'] o.type #[a.eval b,a.eval x]).run P w=.ok v' w'->v'=.slice (p.blk.map λ b=>⟨b,0,none⟩) p.len p.cap->w.grownBy w' (ρ β).blk ->
        (∀ b,p.blk=some b->(ρ β).blk=some b\/w.heap.size<=b)->(∀ A,(∀ n,n < w.heap.size->A n->Av A0 ρ s1.cH n)->yB P A w' ρ p (.arr i.elem u (xs++ys) nn))->Eff P A0 w0 a w o K r:=by
       intro v' w' p hr hv hg hp hcr;have hG:=hS.grow (p:=⟨p.blk,p.len,p.cap,[],[],[]⟩) (ch':=.arr i.elem u (xs++ys) nn) hc hg hp trivial hcr;refine Eff.val (v:=v') (w':=w') (by rw[hrun,hr];rfl) (hG.put o.dst (sv:=.own s1.cH.length) ?_ ?_) hk
       ·show s1.cH.length < (s1.cH.set β none++[_]).length
        simp
       ·show v'=Value.slice _ _ _
        rw[Places.set_self];exact hv
      have hav:a.eval x=(Ty.slice u).wrap l:=h2;rcases y0A h1 with ⟨rfl,p,c,rfl⟩|⟨b1,off,c,m,rfl,hm1,hm2⟩
      ·have hcap:(ρ β).len<=(ρ β).cap:=by
        obtain ⟨_,_,⟨_,q1,q2⟩|⟨_,_,_,_,q,_⟩⟩:=hch1
        ·omega
        ·exact q
       refine fin _ w (ρ β) ?_ rfl (yDn w _) (λ b hb=>.inl hb) (λ A hA=>?_)
       ·rw[hbv,hav];exact y8g hu f1 hcap
       ·rw[show (xs++([]:List u.den))=xs from List.append_nil xs]
        exact hch1.keep (λ _ _=>rfl) hA
      ·obtain ⟨lx,hown,hlx⟩:=yHB hch1 (base:=w0.w.heap.size) (hS.cH β _ hc).2;have hml:=hm2.length;have hby:(xs.length+List.length ys) * inf.bytes<=140737488355328:=by
        have:(xs.length+List.length ys) * inf.bytes<=68719476736 * 2048:=mul_le_mul hle f4;omega
       obtain ⟨zinf,hz6⟩:∃ z,inf.zero=some z/\z=u.wrap u.zeroV:=⟨_,f6,rfl⟩;have hzc:zinf.cells.size=u.size:=by
        rw[hz6.2,y1m (yZ _) (y3c _),size_toArray,yZ]
       obtain ⟨v',w',hr,hown',hg,hnil⟩:=run_append_own (P:=P) w w0.w.heap.size t' o.type i.elem inf zinf u.size inf.bytes hu f1 hz6.1 f3 rfl hzc (by omega)
        _ xs.length lx hown ⟨b1,off,none⟩ (List.length ys) c m hml (λ j v hj=>by rw[y0G];exact hm1 j v hj) (λ v hv=>yp (y6.plain hm2 v hv))
        (by simp only[maxLen];simp only[memMax]at hle;omega) hby hS.below.size
       have hob:(Value.slice ((ρ β).blk.map λ b=>⟨b,0,none⟩) (ρ β).len (ρ β).cap).ownBlock=(ρ β).blk:=by
        cases (ρ β).blk<;>rfl
       rw[hob]at hg;have hKA:∀ A,(∀ n,n < w.heap.size->A n->Av A0 ρ s1.cH n)->y6 P (.arr (xs.length+List.length ys) u) A w' (xs++ys) (lx++m):=by
        intro A hA;have hK:Keep (Av A0 ρ s1.cH) w w':=λ n hn hnA=>hg.block n hn (λ e=>hnA (.inr ⟨β,_,hc,e.symm⟩))
        exact (y6P hlx hm2).mono hK hA
       obtain ⟨p,hv,hps⟩:=yA8 hown';have hnn:nn=true->p.blk≠none:=by
        intro hn e;have hv2:v'=.slice none 0 0:=by
         rcases hown'.2 with ⟨h,_⟩|⟨g,cap',cur,h,_⟩
         ·exact h
         ·rw[hv,e]at h;cases h
        have:=(hnil.1 hv2).1;have h5:=hch1.2.1 hn;cases hq:(ρ β).blk with
        |none=>exact h5 hq
        |some q=>rw[hq]at this;cases this
       have hr':(Builtin.append_ #[t',t'] o.type #[a.eval b,a.eval x]).run P w=.ok v' w':=by
        rw[hbv,hav];exact hr
       have hwh:=yCo (P:=P) hu f1 hz6.1 f3 rfl hzc (by omega) hown (a:=⟨b1,off,none⟩) (m:=List.length ys) (c:=c) (news:=m) hml (λ j v hj=>by rw[y0G];exact hm1 j v hj) (λ v hv=>yp (y6.plain hm2 v hv)) (by simp only[maxLen];simp only[memMax]at hle;omega) hby hr hv
       rw[hv]at hown';exact fin v' w' p hr' hv hg hwh (λ A hA=>yGz (ρ:=ρ) (nn:=nn) hown' (by simp) (hKA A hA) hnn)
    ·cases hk
   ·cases hk
  ·rename_i i u xs hi hb;split at hk;rotate_left
   ·cases hk
   rename_i hcond;obtain ⟨hty,rfl⟩:=hcond;simp only[bind_eq_some_iff]at hk;obtain ⟨ys,hy,hk⟩:=hk;cases hle:(decide (0 < List.length xs) && decide (0 < List.length ys) && decide (List.length xs+List.length ys<=memMax))with
   |false=>rw[hle]at hk;cases hk
   |true =>
    rw[hle]at hk;simp only[cond_true]at hk;simp only[and_eq_true,decide_eq_true_eq]at hle;obtain ⟨⟨hx0,hy0⟩,hle⟩:=hle;obtain ⟨hu,hF,hs0⟩:=yS (hT.shape hi) (.inl hty);obtain ⟨inf,d,f1,f2,f3,f4,f5,f6⟩:=hF.ex;obtain ⟨l,h1,h2⟩:=y01 (y3 (T:=g.T) hS t' x).1 hy;obtain ⟨lb,hb1,hb2,hbe⟩:∃ l,y6 P (.slice u) (Av A0 ρ s1.cH) w xs l/\a.eval b=(Ty.slice u).wrap l/\yCt l:=by
     have:=(y3 (T:=g.T) hS 0 b).1;rw[hb]at this;exact this
    have hwhere:=yFG hargs;have hts':=yFN hts;subst hwhere hts';have hrun:(execOp a.eval o).run P w=Result.andThen ((Builtin.append_ #[t',t'] o.type #[a.eval b,a.eval x]).run P w) λ v w'=>.ok (.value v) w':=by
     simp[execOp,ho,resolve,invoke,builtin]
    rcases y0A h1 with ⟨rfl,p,c,rfl⟩|⟨b1,off,c,m,rfl,hm1,hm2⟩
    ·simp at hy0
    rcases y0A hb1 with ⟨rfl,p,c',rfl⟩|⟨b0,off0,c',m0,rfl,hm3,hm4⟩
    ·simp at hx0
    have hce:c'=List.length xs:=hbe _ _ _ (mem_singleton.2 rfl);subst hce;have hml:=hm2.length;have hml0:=hm4.length;have hby:(List.length xs+List.length ys) * inf.bytes<=140737488355328:=by
     have:(List.length xs+List.length ys) * inf.bytes<=68719476736 * 2048:=mul_le_mul hle f4;omega
    obtain ⟨zinf,hz6⟩:∃ z,inf.zero=some z/\z=u.wrap u.zeroV:=⟨_,f6,rfl⟩;have hzc:zinf.cells.size=u.size:=by
     rw[hz6.2,y1m (yZ _) (y3c _),size_toArray,yZ]
    have hav:a.eval x=.slice (some ⟨b1,off,none⟩) (List.length ys) c:=h2;have hbv:a.eval b=.slice (some ⟨b0,off0,none⟩) (List.length xs) (List.length xs):=hb2;obtain ⟨v',w',hr,hown',hg⟩:=run_append_arg_grows (P:=P) w t' o.type i.elem inf zinf u.size inf.bytes hu f1 hz6.1 f3 rfl hzc (by omega)
     ⟨b0,off0,none⟩ (List.length xs) (List.length xs) m0 hml0 (λ j v hj=>by rw[y0G];exact hm3 j v hj) ⟨b1,off,none⟩ (List.length ys) c m hml (λ j v hj=>by rw[y0G];exact hm1 j v hj)
     (by omega) (by simp only[maxLen];simp only[memMax]at hle;omega) hby
    rcases hown'.2 with ⟨_,hn0⟩|⟨gb,cap,cur,rfl,hgb,hgc,hnc,hcm,hcs2,htk⟩
    ·omega
    have hB:Below w.heap.size w w':=⟨hg.os,hg.tape,hg.output,hg.size,λ n hn=>hg.block n hn (by simp)⟩
    have hKA:∀ A,(∀ n,n < w.heap.size->A n->Av A0 ρ s1.cH n)->y6 P (.arr (List.length xs+List.length ys) u) A w' ((xs:List u.den)++ys) (m0++m):=by
     intro A hA;exact (y6P hm4 hm2).mono (λ n hn _=>hB.block n hn) hA
    have h3:=hS.newChunk (.arr i.elem u ((xs:List u.den)++ys) true) ⟨some gb,List.length xs+List.length ys,cap,[],[],[]⟩ hB (λ b hb=>by cases hb;exact hgb) trivial (λ A hA _=>by
     have:=hKA A hA;simp only[y6]at this;refine ⟨by simp,λ _=>by simp,.inr ⟨gb,cur,rfl,hgc,hnc,hcm,hcs2,λ i x hi=>?_⟩⟩
     have hi1:i < List.length xs+List.length ys:=by have:=(List.getElem?_eq_some_iff.1 hi).1;rw[length_append]at this;exact this
     have hsz:i * u.size+u.size<=(List.length xs+List.length ys) * u.size:=by rw[<- succ_mul];exact mul_le_mul_right _ hi1
     have e1:(cur.toList.drop (i * u.size)).take u.size=((m0++m).drop (i * u.size)).take u.size:=by
      rw[<- htk,drop_take,take_take,Nat.min_eq_left (by omega)]
     rw[e1];exact this.2.2 i x hi)
    refine Eff.val (v:=.slice (some ⟨gb,0,none⟩) (List.length xs+List.length ys) cap) (w':=w') ?_ (h3.put o.dst (sv:=.own s1.cH.length) (by show s1.cH.length < (s1.cH++[_]).length;simp) ?_) hk
    ·rw[hrun,hbv,hav,hr];rfl
    ·show _=Value.slice _ _ _
     rw[Places.set_self];rfl
  ·cases hk
 ·cases hk
end
end Go.Vx
end
section
namespace Go.Vx
open Go.RowKit
variable [GT]
section
variable {P:Program} {A0:Nat->Prop} {w0:Base} {ρ:Places} {s:St} {a:Act} {w w':World} {g:G} {R:Type} {K:St->Option R} {r:R} {o:Oper}
theorem y0J{t:TypeId}{u:Ty}(hF:Fits P t u){v:Value}{l:List Value}{b off:Nat}{cur:Array Value}{e:TypeId}(hv:v.cells=l.toArray)(hl:l.length=u.size)(h1:∀ x∈l,x.oneCell'=true)
  (hg:w.heap[b]?=some (.cells cur e (0,0))) (hfit:off+l.length<=cur.size) :
  (Instr.storeAt t (.pointer (some ⟨b,off,none⟩)) v).run P w=.ok () (w.setRow b (cur.toList.take off++l++cur.toList.drop (off+l.length)).toArray):=by
 obtain ⟨inf,d,f1,f2,f3,_⟩:=hF.ex;have hst:=run_storeCells_at P b off e l 0 cur w hg (by simpa using hfit) h1
 simp only[Nat.add_zero]at hst;simp only[Instr.storeAt,Instr.sureAddr,Sem.run_bind,Sem.run_pure,Result.andThen_ok,storeVar,y0u f1,hv,size_toArray,f3];rw[if_neg (by rw[hl];simp)]
 simpa using hst
theorem yK5{A:Nat->Prop}{sv:SV}{v:Value}{t:Ty}{y:t.den}(h:yF P A w ρ sv v)(hy:xOf sv t=some y):∃ l,y6 P t A w y l/\v=t.wrap l/\yCt l:=by
 unfold xOf at hy;split at hy
 ·obtain ⟨l,hl,rfl,he⟩:=h;obtain ⟨h1,h2⟩:=y2F hy hl;exact ⟨l,h1,(y4j h2 l).symm,he⟩
 ·cases hy
theorem yRY{n:Nat}{svs:List SV}(h:∀ sv∈svs,sv.inn n):∀ sv∈svs.map toX,sv.inn n:=by
 intro sv hs;obtain ⟨sv',h1,rfl⟩:=mem_map.1 hs;have:=h sv' h1;unfold toX;split
 ·split<;>trivial
 ·exact this
theorem yJo{A:Nat->Prop}{svs:List SV}{l:List Value}(h:yD P A w ρ svs l)(he:yCt l):yD P A w ρ (svs.map toX) l:=by
 refine ⟨by rw[length_map];exact h.1,λ i sv hi=>?_⟩
 rw[getElem?_map,map_eq_some_iff]at hi;obtain ⟨sv',h1,rfl⟩:=hi;obtain ⟨v,h2,h3⟩:=h.2 i sv' h1;refine ⟨v,h2,?_⟩;unfold toX;split
 ·rename_i t x;split
  ·rename_i hsl;obtain ⟨l',h4,rfl⟩:=h3;refine ⟨l',h4,rfl,?_⟩;have hag:t.agg=false:=by unfold Ty.isSlice at hsl;cases t<;>first|rfl|cases hsl
   have h1:=h4.length;rw[y28 hag]at h1;obtain ⟨v,rfl⟩:=List.length_eq_one_iff.1 h1;have hw:t.wrap [v]=v:=by simp[Ty.wrap,hag]
   rw[hw]at h2;intro p n c hm;rw[mem_singleton]at hm;exact he p n c (hm ▸ mem_of_getElem? h2)
  ·exact h3
 ·exact h3
theorem y0i(w:World)(g:Nat)(cs:Array Value):(w.setRow g cs).heap.size=w.heap.size:=by simp[World.setRow]
theorem Rel.freezeIf(h:Rel P A0 w0 ρ s a w)(g:G)(x:Operand):Rel P A0 w0 ρ (Vx.freezeIf g s x) a w:=by
 unfold Vx.freezeIf;split
 ·split
  ·split
   ·exact h.freeze _
   ·exact h
  ·exact h
 ·exact h
theorem Rel.writeBox(h:Rel P A0 w0 ρ s a w){β b off:Nat}{u:Ty}{cells svs:List SV}{vs:Array Value}{e:TypeId}{l:List Value}(hβ:s.cH[β]?=some (some (.box u cells)))(hb:(ρ β).blk=some b)
  (hg:w.heap[b]?=some (.cells vs e (0,0))) (hc:yD P (Av A0 ρ s.cH) w ρ cells vs.toList) (hin:∀ sv∈svs,sv.inn s.cH.length) (hs:yD P (Av A0 ρ s.cH) w ρ svs l) :
  Rel P A0 w0 ρ { s with cH:=s.cH.set β (some (.box u (cells.take off++svs++cells.drop (off+svs.length)))) } a (w.setRow b (vs.toList.take off++l++vs.toList.drop (off+l.length)).toArray):=by
 have hAb:Av A0 ρ s.cH b:=.inr ⟨β,_,hβ,hb⟩;have hci:=h.cN β _ hβ;refine h.write (ch':=.box u _) hβ hb (λ n hn=>setRow_other w b n _ hn) (y0i _ _ _) rfl rfl rfl (λ sv hsv=>?_) (λ A hA=>?_)
 ·rcases mem_append.1 hsv with hsv|hsv
  ·rcases mem_append.1 hsv with hsv|hsv
   ·exact hci sv (List.mem_of_mem_take hsv)
   ·exact hin sv hsv
  ·exact hci sv (List.mem_of_mem_drop hsv)
 ·have hK:Keep (Av A0 ρ s.cH) w (w.setRow b (vs.toList.take off++l++vs.toList.drop (off+l.length)).toArray):=λ n hn hnA=>setRow_other w b n _ (λ e=>hnA (e ▸ hAb))
  have hfin:yD P (Av A0 ρ s.cH) w ρ (cells.take off++svs++cells.drop (off+svs.length)) (vs.toList.take off++l++vs.toList.drop (off+l.length)):=by
   rw[hs.1];exact ((hc.take off).append hs).append (hc.drop _)
  have he:(ρ β).len=e:=by
   obtain ⟨b',vs',e',hb',hg',⟨_,he'⟩,_⟩:=(h.cH β _ hβ).1;rw[hb]at hb';cases hb';rw[hg]at hg';cases hg';exact he'
  refine ⟨b,_,e,hb,setRow_heap w b vs _ e _ hg,⟨by simpa using hfin.1,he⟩,λ i sv hi=>?_⟩
  obtain ⟨v,hv,hr⟩:=hfin.2 i sv hi;exact ⟨v,by simpa using hv,hr.mono hK (λ n _ hn=>(hA n).1 hn)⟩
theorem y9Q{T:List (TypeId×TyI)}{A:Nat->Prop}:∀ (l:List TypeId) (u:Ty) (x:u.den) (m:Nat) (p:List SV×List TypeId) (t:Ty) (vs:List Value),y3j T l=some t->y2g T l u x m=some p->y6 P u A w x vs ->
  (∀ β,m<=β->β < m+(ya T p.2).length->ρ β=⟨none,0,0,[],[],[]⟩) ->
  yD P A w ρ p.1 vs/\vs.length=t.size/\∀ sv∈p.1,sv.inn (m+(ya T p.2).length):=by
 intro l;induction l with
 |nil =>
  intro u x m p t vs hp h hc hρ;cases u with
  |unit =>
   simp only[y2g,Option.some.injEq]at h;subst h;simp only[y3j,Option.some.injEq]at hp;subst hp;simp only[y6]at hc;subst hc;exact ⟨⟨rfl,λ i sv hi=>by simp at hi⟩,rfl,λ sv hs=>by simp at hs⟩
  |_=>simp[y2g]at h
 |cons τ l ih =>
  intro u x m p t vs hp h hc hρ;cases u with
  |pair a b =>
   simp only[y3j,bind_eq_some_iff,map_eq_some_iff]at hp;obtain ⟨i,hi,tb,hb,rfl⟩:=hp;simp only[y2g,hi,Option.bind_some]at h;simp only[y6]at hc;obtain ⟨l1,l2,rfl,h1,h2⟩:=hc;split at h
   ·rename_i ha;obtain ⟨q,hq,rfl⟩:=map_eq_some_iff.1 h;obtain ⟨g1,g2,g3⟩:=ih b x.2 m q tb l2 hb hq h2 hρ;refine ⟨yD.append (y1Z a x.1 l1 h1) g1,?_,λ sv hs=>?_⟩
    ·rw[length_append,g2,h1.length,ha];rfl
    ·rcases mem_append.1 hs with hs|hs
     ·exact y3A _ _ _ sv hs
     ·exact g3 sv hs
   ·obtain ⟨hs,h⟩:=yG h;obtain ⟨q,hq,rfl⟩:=map_eq_some_iff.1 h;simp only[and_eq_true]at hs;obtain ⟨hs1,hs2⟩:=hs;cases a with
    |nS v =>
     cases hty:i.ty with
     |slice v' =>
      rw[hty]at hs1;simp only[yBv,decide_eq_true_eq]at hs1;subst hs1;have hch:ya T (τ::q.2)=some (.arr i.elem v [] false)::ya T q.2:=by simp only[ya,hi,hty]
      rw[hch]at hρ ⊢;simp only[length_cons]at hρ ⊢;obtain ⟨g1,g2,g3⟩:=ih b x.2 (m+1) q tb l2 hb hq h2 (λ β h3 h4=>hρ β (by omega) (by omega))
      simp only[y6]at h1;obtain ⟨pt,c,rfl,e1,e2,e3,e4,_⟩:=h1;have hx:x.1=none:=by
       cases hxx:x.1 with
       |none=>rfl
       |some z=>simp only[yJh,hxx]at hs2;cases hs2
      have hpt:pt=none:=e1.2 hx;subst hpt;have hc0:c=0:=e2 rfl;subst hc0;refine ⟨yD.append (s1:=[.own m]) (yD.one ?_) g1,?_,λ sv hs=>?_⟩
      ·show _=Value.slice _ _ _
       rw[hρ m (by omega) (by omega),hx]
       rfl
      ·rw[length_append,g2];rfl
      ·rcases mem_cons.1 hs with rfl|hs
       ·show m < _
        omega
       ·exact SV.inn_mono (by omega) (g3 sv hs)
     |_=>rw[hty]at hs1;simp[yBv]at hs1
    |_=>simp[yBv]at hs1
  |_=>simp[y2g]at h
theorem yAY{L l:List Value}{n sz off:Nat}(h3:off+l.length<=sz)(hrow:n * sz+sz<=L.length) :
  ((L.take (n * sz+off)++l++L.drop (n * sz+off+l.length)).drop (n * sz)).take sz=((L.drop (n * sz)).take sz).take off++l++((L.drop (n * sz)).take sz).drop (off+l.length):=by
 have hu1:((L.drop (n * sz)).take sz).length=sz:=by rw[length_take,length_drop];omega
 apply ext_getElem?;intro k;have e3:=y15 (l:=(L.drop (n * sz)).take sz) (m:=l) (o:=off) (by rw[hu1];exact h3) k
 rw[y0F,e3];by_cases hk:k < sz
 ·rw[if_pos hk,y15 (by omega),y0F,if_pos hk]
  by_cases h5:k < off
  ·rw[if_pos h5,if_pos (by omega)]
  ·rw[if_neg h5,if_neg (by omega)]
   by_cases h6:k < off+l.length
   ·rw[if_pos h6,if_pos (by omega)]
    congr 1
    omega
   ·rw[if_neg h6,if_neg (by omega)]
 ·rw[if_neg hk,if_neg (by omega),if_neg (by omega),y0F,if_neg hk]
theorem y8O{L l:List Value}{n j sz off:Nat}(h3:off+l.length<=sz)(hrow:n * sz+sz<=L.length)(hnj:n≠j) :
  ((L.take (n * sz+off)++l++L.drop (n * sz+off+l.length)).drop (j * sz)).take sz=(L.drop (j * sz)).take sz:=by
 apply ext_getElem?;intro k;rw[y0F,y0F];split
 ·rename_i hk;rw[y15 (by omega)]
  rcases Nat.lt_or_gt_of_ne hnj with h|h
  ·have h5:(n+1) * sz<=j * sz:=mul_le_mul_right _ h;rw[succ_mul]at h5;rw[if_neg (by omega),if_neg (by omega)]
  ·have h5:(j+1) * sz<=n * sz:=mul_le_mul_right _ h;rw[succ_mul]at h5;rw[if_pos (by omega)]
 ·rfl
theorem NRel.store{A:Nat->Prop}{t u τ:Ty}{q off:Nat}{e':TypeId}{x x':t.den}{l m:List Value}{n:Option Nat×Nat×Nat}{z:τ.den}(h:NRel P A w t q e' u x l n)(hs:yBc t q u x off τ z=some x')(hz:y6 P τ A w z m) :
  off+m.length<=l.length/\NRel P A w t q e' u x' (l.take off++m++l.drop (off+m.length)) n:=by
 unfold yBc at hs;obtain ⟨ys,hys,hs1⟩:=bind_eq_some_iff.1 hs;obtain ⟨x0,hx0,hs2⟩:=bind_eq_some_iff.1 hs1;obtain ⟨x1,hx1,hs3⟩:=bind_eq_some_iff.1 hs2;obtain ⟨hd,hs4⟩:=yG hs3;obtain ⟨ys',hys',hq,hg,h4,h5⟩:=h.comp;rw[hys]at hys';cases hys';obtain ⟨_,h6⟩:=h.empty hx0;obtain ⟨h7,h8⟩:=y1l t x0 off τ z x1 _ m h6 hz hx1;rw[List.length_set]at h7;have hmz:=hz.length;refine ⟨h7,x1,_,ys,h8,hs4,?_,h4,h5⟩;apply ext_getElem?;intro k;rw[y15 h7];by_cases hk:q=k
 ·subst hk;rw[getElem?_set_self (by simp;omega)]
  rcases hd with hd|hd
  ·rw[if_pos hd,hg]
  ·rw[if_neg (by omega),if_neg (by omega),hg]
 ·rw[getElem?_set_ne hk,y15 (by simpa using h7)]
  split
  ·rw[getElem?_set_ne hk]
  ·split
   ·rfl
   ·rw[getElem?_set_ne hk]
theorem yPn{A:Nat->Prop}{β N:Nat}(h1:(ρ N).blk=(ρ β).blk)(h2:(ρ N).len=(ρ β).len)(h3:(ρ N).cap=(ρ β).cap){sv:SV}{v:Value}(h:yF P A w ρ sv v):yF P A w ρ (toN β N sv) v:=by
 unfold toN;split
 ·split
  ·rename_i e;subst e;simp only[yF]at h ⊢;rw[h1,h2,h3];exact h
  ·exact h
 ·split
  ·rename_i e;subst e;simp only[yF]at h ⊢;rw[h1];exact h
  ·exact h
 ·split
  ·trivial
  ·exact h
 ·split
  ·trivial
  ·exact h
 ·split
  ·trivial
  ·exact h
 ·exact h
omit [GT] in
theorem yQB{β N n:Nat}(hN:N < n){sv:SV}(h:sv.inn n):(toN β N sv).inn n:=by
 unfold toN;split<;>first|(split<;>first|exact hN|exact h|trivial)|exact h
theorem yBW(hT:yw P g.T)(h:Rel P A0 w0 ρ s a w){t:TypeId}{ad x:Operand}{i:TyI}{β n sz off:Nat}(ho:o.op=.store t ad x)(hi:yV g.T t=some i)(had:y9 g.T 0 s ad=.eP β n sz off)
  (hk:yHS s o i β n sz off (y9 g.T t s x) K=some r):Eff P A0 w0 a w o K r:=by
 have hF:=hT.fits hi;obtain ⟨b,hb,hav⟩:∃ b,(ρ β).blk=some b/\a.eval ad=.pointer (some ⟨b,n * sz+off,none⟩):=by
  have:=(y3 (T:=g.T) h 0 ad).1;rw[had]at this;exact this
 have hx:=(y3 (T:=g.T) h t x).1;unfold yHS at hk;split at hk;rotate_left
 ·cases hk
 rename_i γ e u q e' v xs hxe hch;split at hk;rotate_left
 ·cases hk
 rename_i e1 v1 ys nn hch2;obtain ⟨⟨hsz,hoff,he1,hty,hne⟩,hk1⟩:=yG hk;clear hk;subst hsz hoff he1;obtain ⟨y,hy,hk2⟩:=bind_eq_some_iff.1 hk1;obtain ⟨ys',hys,hk3⟩:=bind_eq_some_iff.1 hk2;obtain ⟨y',hy',hk⟩:=bind_eq_some_iff.1 hk3;clear hk1 hk2 hk3;obtain ⟨e2,he2⟩:=y4W hys;cases e2;simp only at he2;subst he2;rw[hxe]at hx;have hxv:a.eval x=.slice ((ρ γ).blk.map λ b=>⟨b,0,none⟩) (ρ γ).len (ρ γ).cap:=hx
 have hc:=getD_some hch;have hg:=getD_some hch2;have harr:=(h.cH γ _ hg).1;have hnl:=(List.getElem?_eq_some_iff.1 hy).1;obtain ⟨⟨hxl,hsb,hnsl⟩,hdis,⟨hq,_⟩|⟨b',vs,hb',hrow0,hle,hm,hvs,hel⟩⟩:=(h.cH β _ hc).1
 ·rw[hb]at hq;cases hq
 rw[hb]at hb';cases hb';have e9:vs.toList.length=vs.size:=Array.length_toList;have hrow:n * u.size+u.size<=vs.toList.length:=by
  have:(n+1) * u.size<=(ρ β).cap * u.size:=mul_le_mul_right _ (by omega)
  rw[succ_mul]at this;omega
 obtain ⟨nq,hnq,hN⟩:=hel n y hy;have hu1:((vs.toList.drop (n * u.size)).take u.size).length=u.size:=by rw[length_take,length_drop];omega
 obtain ⟨_,_,hql,_,_,_⟩:=hN.comp;rw[hu1]at hql;obtain ⟨x0,l0,ys0,g1,g2,g3,g4,g5⟩:=hN;have h3:off+[a.eval x].length<=u.size:=by simp only[length_singleton];omega
 have hrun:=y0J (P:=P) hF (v:=a.eval x) (l:=[a.eval x]) (b:=b) (off:=n * u.size+off) (cur:=vs) (e:=e) (by rw[hxv];rfl) (by rw[hty];rfl) (λ v hv=>by simp only[mem_singleton]at hv;subst hv;rw[hxv];rfl) hrow0 (by simp only[length_singleton];omega)
 generalize hw':w.setRow b (vs.toList.take (n * u.size+off)++[a.eval x]++vs.toList.drop (n * u.size+off+[a.eval x].length)).toArray=w' at hrun;have hoth:∀ k,k≠b->w'.heap[k]?=w.heap[k]?:=λ k hk=>by rw[<- hw'];exact setRow_other w b k _ hk
 generalize hns:(ρ β).ns.set n ((ρ γ).blk,(ρ γ).len,(ρ γ).cap)=ns';have hnsl':ns'.length=xs.length:=by rw[<- hns,List.length_set];exact hnsl
 have hsub:∀ m,some m∈ns'.map (·.1)->(ρ γ).blk=some m\/some m∈(ρ β).subs:=λ m hm=>by
  obtain ⟨z,hz,hz1⟩:=mem_map.1 hm;rw[<- hns]at hz;rcases List.mem_or_eq_of_mem_set hz with hz|hz
  ·refine .inr ?_
   rw[hsb,<- hz1];exact mem_map.2 ⟨z,hz,rfl⟩
  ·subst hz;exact .inl hz1
 have hget:∀ j:Nat,ns'[j]?=if n=j then some ((ρ γ).blk,(ρ γ).len,(ρ γ).cap)else (ρ β).ns[j]?:=λ j=>by
  rw[<- hns,getElem?_set];split
  ·rw[if_pos (by omega)]
  ·rfl
 have hM:=h.merge (w':=w') [β,γ] (ch':=.nst e u off e1 v (xs.set n y')) (p:=⟨(ρ β).blk,(ρ β).len,(ρ β).cap,ns'.map (·.1),[],ns'⟩)
  (by rw[<- hw'];rfl) (by rw[<- hw'];rfl) (by rw[<- hw'];rfl) (by rw[<- hw',y0i];exact le_refl _)
  (λ k _ hk=>hoth k λ e=>hk β (by simp) (e ▸ hb))
  (λ δ hδ=>by
   simp only[mem_cons,List.not_mem_nil,or_false]at hδ;rcases hδ with rfl|rfl
   ·exact ⟨_,hc,rfl⟩
   ·exact ⟨_,hg,rfl⟩)
  (λ c hc=>.inl ⟨β,by simp,hc⟩)
  (λ m hm=>by
   rcases hsub m hm with h1|h1
   ·exact ⟨γ,by simp,.inl h1⟩
   ·exact ⟨β,by simp,.inr h1⟩)
  (λ m hm=>by
   rcases hsub m hm with h1|h1
   ·intro h2;exact hne (h.inj β γ _ _ hc hg (h2.trans h1.symm) (by rw[h2];simp))
   ·exact h.subs.apart β β _ _ m hc hc h1)
  (λ h=>by cases h) trivial rfl
  (λ A hA=>by
   have hAb:Av A0 ρ s.cH b:=.inr ⟨β,_,hc,hb⟩;have hK:Keep (Av A0 ρ s.cH) w w':=λ k hk hkA=>hoth k (λ e=>hkA (e ▸ hAb))
   have hsubs:∀ (j:Nat) (m:Option Nat×Nat×Nat),(ρ β).ns[j]?=some m->∀ k,m.1=some k->k < w.heap.size->w'.heap[k]?=w.heap[k]?:=λ j m hj k hk _=>by
    refine hoth k λ e=>?_
    subst e;refine h.subs.apart β β _ _ k hc hc ?_ hb;rw[hsb,<- hk];exact mem_map.2 ⟨m,mem_of_getElem? hj,rfl⟩
   have hgb:(ρ γ).blk≠some b:=λ h2=>hne (h.inj β γ _ _ hc hg (hb.trans h2.symm) (by rw[hb];simp))
   refine ⟨⟨by simpa using hxl,rfl,by simpa using hnsl'⟩,λ j k m hj hk=>?_,.inr ⟨b,_,hb,by rw[<- hw'];exact setRow_heap w b vs _ e _ hrow0,hle,hm,?_,λ j x hj=>?_⟩⟩
   ·simp only[getElem?_map,hget]at hj hk;have hold:∀ z:Nat,((ρ β).ns[z]?).map (λ q=>q.1)=some (some m)->(ρ β).subs[z]?=some (some m):=λ z hz=>by rw[hsb,getElem?_map];exact hz
    have hnew:∀ z:Nat,((ρ β).ns[z]?).map (λ q=>q.1)=some (some m)->(ρ γ).blk=some m->False:=λ z hz h2=>h.subs.apart β γ _ _ m hc hg (mem_of_getElem? (hold z hz)) h2
    split at hj
    ·rename_i hnj;split at hk
     ·rename_i hnk;exact hnj.symm.trans hnk
     ·exact (hnew k hk (by simpa using hj)).elim
    ·split at hk
     ·exact (hnew j hj (by simpa using hk)).elim
     ·exact hdis j k m (hold j hj) (hold k hk)
   ·simp only[size_toArray,length_append,length_take,length_drop,length_singleton];omega
   ·rw[toList_toArray];by_cases hnj:n=j
    ·subst hnj;rw[getElem?_set_self hnl]at hj;cases hj;refine ⟨_,by rw[hget,if_pos rfl],?_⟩
     rw[yAY h3 hrow,y8p (by rw[hu1];exact h3),g3,List.set_set]
     refine NRel.frame (A:=Av A0 ρ s.cH) (w:=w) ⟨x0,l0,ys',g1,y5D g2 hy',by rw[hxv],harr.1.symm,y20.of_arr harr⟩ (λ k hk _=>hoth k λ e=>hgb (e ▸ hk)) hK hA
    ·rw[getElem?_set_ne hnj]at hj;obtain ⟨m,h5,h6⟩:=hel j x hj;rw[y8O h3 hrow hnj];refine ⟨m,by rw[hget,if_neg hnj];exact h5,h6.frame (hsubs j m h5) hK hA⟩)
 have hl:s.cH.length < (yCc [β,γ] s.cH++[some (Chunk.nst e u off e1 v (xs.set n y'))]).length:=by simp[y2e]
 have hβl:β < s.cH.length:=(List.getElem?_eq_some_iff.1 hc).1;have hS:=hM.mapS (toN β s.cH.length) (λ sv v hr=>yPn (by rw[Places.set_self,Places.set_lt ρ _ hβl]) (by rw[Places.set_self,Places.set_lt ρ _ hβl]) (by rw[Places.set_self,Places.set_lt ρ _ hβl]) hr) (λ sv hr=>yQB hl hr)
 refine Eff.skip (w':=_) ?_ (hS.put o.dst (sv:=.undef) (v:=undef) trivial trivial) hk;simp only[execOp,ho,Sem.run_bind,hav,hrun,Result.andThen_ok,Sem.run_pure]
theorem y9N(hE:∀ e∈g.E,FnOK P e)(hT:yw P g.T)(h:Rel P A0 w0 ρ s a w){t:TypeId}{ad x:Operand}(ho:o.op=.store t ad x)(hk:effK g s o K=some r):Eff P A0 w0 a w o K r:=by
 simp only[effK,ho]at hk;split at hk
 ·rename_i i β off hi had;have hF:=hT.fits hi;obtain ⟨b,hb,hav⟩:∃ b,(ρ β).blk=some b/\a.eval ad=.pointer (some ⟨b,off,none⟩):=by
   have:=(y3 (T:=g.T) h 0 ad).1;rw[had]at this;exact this
  split at hk
  ·rename_i u cells hch;have hc:=getD_some hch;obtain ⟨b',vs,e,hb',hg,⟨hlen,_⟩,hcr⟩:=(h.cH β _ hc).1;rw[hb]at hb';cases hb';have hCR:yD P (Av A0 ρ s.cH) w ρ cells vs.toList:=⟨by simpa using hlen,λ i sv hi=>by simpa using hcr i sv hi⟩
   split at hk
   ·split at hk
    ·rename_i y hy;obtain ⟨hfit,hk⟩:=yG hk;obtain ⟨l,h1,h2,hex⟩:=yK5 (y3 (T:=g.T) h t x).1 hy;have hsc:=yJo (y1Z (ρ:=ρ) i.ty y l h1) hex;have hll:=h1.length;have hW:=h.writeBox (off:=off) hc hb hg hCR (yRY (y3A _ _ _)) hsc;rw[show off+((y0Y i.ty y).map toX).length=off+i.ty.size by rw[<- hsc.1,hll]]at hW
     refine Eff.skip (w':=_) ?_ ((hW.put o.dst (sv:=.undef) (v:=undef) trivial trivial).freezeIf g ad) hk;have hrun:=y0J (P:=P) hF (v:=a.eval x) (l:=l) (b:=b) (off:=off) (cur:=vs) (e:=e) (by rw[h2];exact y0I h1) hll (λ v hv=>yp (y6.plain h1 v hv)) hg (by omega)
     simp only[execOp,ho,Sem.run_bind,hav,hrun,Result.andThen_ok,Sem.run_pure]
    split at hk
    ·rename_i svs hsv;obtain ⟨⟨hfit,hsl⟩,hk⟩:=yG hk;have hxv:=y3 (T:=g.T) h t x;obtain ⟨γ,u',hxe,hγ,hall⟩:∃ γ u',y9 g.T t s x=.sR γ/\s.cH[γ]?=some (some (.rcd u' svs))/\svs.all SV.scalar=true:=by
      unfold y7K at hsv;split at hsv
      ·rename_i γ hxe;split at hsv
       ·rename_i u' cells' hch';obtain ⟨⟨_,hall⟩,hsv⟩:=yG hsv;cases hsv;exact ⟨γ,u',hxe,getD_some hch',hall⟩
       ·cases hsv
      ·cases hsv
     rw[hxe]at hxv;obtain ⟨_,_,hvl,hvc⟩:=(h.cH γ _ hγ).1;have hsc:yD P (Av A0 ρ s.cH) w ρ svs (ρ γ).vals:=⟨hvl,λ i sv hi=>hvc i sv hi⟩
     have hav2:a.eval x=.agg (ρ γ).vals.toArray:=hxv.1;have hW:=h.writeBox (off:=off) hc hb hg hCR (h.cN γ _ hγ) hsc;rw[hsl]at hW;refine Eff.skip (w':=_) ?_ ((hW.put o.dst (sv:=.undef) (v:=undef) trivial trivial).freezeIf g ad) hk;have hrun:=y0J (P:=P) hF (v:=a.eval x) (l:=(ρ γ).vals) (b:=b) (off:=off) (cur:=vs) (e:=e) (by rw[hav2];rfl) (by rw[hsc.1];exact hsl) (λ v hv=>by
      obtain ⟨j,hj⟩:=List.mem_iff_getElem?.1 hv;have hjl:j < svs.length:=by rw[<- hsc.1];exact (List.getElem?_eq_some_iff.1 hj).1
      obtain ⟨v',h5,h6⟩:=hsc.2 j _ (getElem?_eq_getElem hjl);rw[hj]at h5;cases h5;exact (y4B (List.all_eq_true.1 hall _ (List.getElem_mem hjl)) h6).2) hg (by rw[hsc.1,hsl];omega)
     simp only[execOp,ho,Sem.run_bind,hav,hrun,Result.andThen_ok,Sem.run_pure]
    split at hk
    ·rename_i y hy;obtain ⟨hfit,hk⟩:=yG hk;obtain ⟨l,h1,h2⟩:=y01 (y3 (T:=g.T) h t x).1 hy;have hsc:=y1Z (ρ:=ρ) i.ty y l h1;have hll:=h1.length;have hW:=h.writeBox (off:=off) hc hb hg hCR (y3A _ _ _) hsc;rw[show off+(y0Y i.ty y).length=off+i.ty.size by rw[<- hsc.1,hll]]at hW
     refine Eff.skip (w':=_) ?_ ((hW.put o.dst (sv:=.undef) (v:=undef) trivial trivial).freezeIf g ad) hk;have hrun:=y0J (P:=P) hF (v:=a.eval x) (l:=l) (b:=b) (off:=off) (cur:=vs) (e:=e) (by rw[h2];exact y0I h1) hll (λ v hv=>yp (y6.plain h1 v hv)) hg (by omega)
     simp only[execOp,ho,Sem.run_bind,hav,hrun,Result.andThen_ok,Sem.run_pure]
    ·unfold y3u at hk;split at hk
     ·rename_i w' y hx;obtain ⟨p,hp,hk⟩:=bind_eq_some_iff.1 hk;obtain ⟨⟨hprod,hfit⟩,hk⟩:=yG hk;obtain ⟨l,h1,h2⟩:∃ l,y6 P w' (Av A0 ρ s.cH) w y l/\a.eval x=w'.wrap l:=by
       have:=(y3 (T:=g.T) h t x).1;rw[hx]at this;exact this
      obtain ⟨ρ',g1,g2,g3⟩:=Rel.addNone g.T p.2 h;have hβl:=(List.getElem?_eq_some_iff.1 hc).1;have hc':(s.cH++ya g.T p.2)[β]?=some (some (.box u cells)):=by rw[getElem?_append_left hβl];exact hc
      have hb2:(ρ' β).blk=some b:=by rw[g2 β hβl];exact hb
      obtain ⟨b',vs',e',hb',hg',⟨hlen',_⟩,hcr'⟩:=(g1.cH β _ hc').1;rw[hb2]at hb';cases hb';rw[hg]at hg';cases hg';have hCR':yD P (Av A0 ρ' (s.cH++ya g.T p.2)) w ρ' cells vs.toList:=⟨by simpa using hlen',λ i sv hi=>by simpa using hcr' i sv hi⟩
      have hA:∀ n,Av A0 ρ' (s.cH++ya g.T p.2) n->Av A0 ρ s.cH n:=by
       rintro n ((h0|⟨γ,ch,hγ,hbn⟩)|⟨γ,ch,hγ,hbn⟩)
       ·exact .inl (.inl h0)
       ·rcases Nat.lt_or_ge γ s.cH.length with hl|hl
        ·rw[g2 γ hl]at hbn;rw[getElem?_append_left hl]at hγ;exact .inl (.inr ⟨γ,ch,hγ,hbn⟩)
        ·have hlt:=(List.getElem?_eq_some_iff.1 hγ).1;rw[length_append]at hlt;rw[g3 γ hl hlt]at hbn;cases hbn
       ·rcases Nat.lt_or_ge γ s.cH.length with hl|hl
        ·rw[g2 γ hl]at hbn;rw[getElem?_append_left hl]at hγ;exact .inr ⟨γ,ch,hγ,hbn⟩
        ·have hlt:=(List.getElem?_eq_some_iff.1 hγ).1;rw[length_append]at hlt;rw[g3 γ hl hlt]at hbn;cases hbn
      obtain ⟨q1,q2,q3⟩:=y9Q (ρ:=ρ') _ _ _ _ _ _ _ hprod hp (h1.mono (λ _ _ _=>rfl) (λ n _ hn=>hA n hn)) g3
      have hW:=g1.writeBox (off:=off) hc' hb2 hg hCR' (λ sv hs=>by have:=q3 sv hs;simpa using this) q1
      rw[show off+p.1.length=off+i.ty.size by rw[<- q1.1,q2]]at hW
      refine Eff.skip (w':=_) ?_ ((hW.put o.dst (sv:=.undef) (v:=undef) trivial trivial).freezeIf g ad) hk;have hrun:=y0J (P:=P) hF (v:=a.eval x) (l:=l) (b:=b) (off:=off) (cur:=vs) (e:=e) (by rw[h2];exact y0I h1) q2 (λ v hv=>yp (y6.plain h1 v hv)) hg (by omega)
      simp only[execOp,ho,Sem.run_bind,hav,hrun,Result.andThen_ok,Sem.run_pure]
     ·cases hk
   ·rename_i hagg;obtain ⟨⟨hsc,hfit⟩,hk⟩:=yG hk;have hsv:=(yAH hE i.ty (y3 (T:=g.T) h t x).1 (y3 (T:=g.T) h t x).2);obtain ⟨hvc,h1⟩:=y4B hsc hsv.1;have hs1:i.ty.size=1:=y28 (by simpa using hagg)
    have hW:=h.writeBox (off:=off) (svs:=[asFn g.E i.ty (y9 g.T t s x)]) (l:=[a.eval x]) hc hb hg hCR (λ sv hsv'=>by simp only[mem_singleton]at hsv';subst hsv';exact hsv.2) (yD.one hsv.1)
    have e1:cells.take off++[asFn g.E i.ty (y9 g.T t s x)]++cells.drop (off+[asFn g.E i.ty (y9 g.T t s x)].length)=cells.set off (asFn g.E i.ty (y9 g.T t s x)):=by
     rw[List.set_eq_take_append_cons_drop,if_pos hfit];simp
    rw[e1]at hW;refine Eff.skip (w':=_) ?_ ((hW.put o.dst (sv:=.undef) (v:=undef) trivial trivial).freezeIf g ad) hk;have hrun:=y0J (P:=P) hF (v:=a.eval x) (l:=[a.eval x]) (b:=b) (off:=off) (cur:=vs) (e:=e) hvc (by rw[hs1];rfl) (λ v hv=>by simp only[mem_singleton]at hv;subst hv;exact h1) hg (by simp only[length_singleton];omega)
    simp only[execOp,ho,Sem.run_bind,hav,hrun,Result.andThen_ok,Sem.run_pure]
  ·cases hk
 ·rename_i i β n sz off hi had;split at hk
  ·exact yBW hT h ho hi had hk
  have hF:=hT.fits hi;have hS:=h.settle (y9 g.T t s x);obtain ⟨b,hb,hav⟩:∃ b,(ρ β).blk=some b/\a.eval ad=.pointer (some ⟨b,n * sz+off,none⟩):=by
   have:=(y3 (T:=g.T) h 0 ad).1;rw[had]at this;exact this
  generalize s.settle (y9 g.T t s x)=s1 at hk hS;split at hk
  ·rename_i e u xs nn hch;have hc:=getD_some hch;obtain ⟨hsz,hk1⟩:=yG hk;clear hk;subst hsz;obtain ⟨y,hy,hk2⟩:=bind_eq_some_iff.1 hk1;obtain ⟨z,hz,hk3⟩:=bind_eq_some_iff.1 hk2;obtain ⟨y',hy',hk⟩:=bind_eq_some_iff.1 hk3;obtain ⟨l,h1,h2⟩:=y01 (y3 (T:=g.T) hS t x).1 hz;have hll:=h1.length;have hn:n < xs.length:=(List.getElem?_eq_some_iff.1 hy).1;obtain ⟨hxl,hnn,⟨hq,_⟩|⟨b',vs,hb',hg,hle,hm,hvs,hel⟩⟩:=(hS.cH β _ hc).1
   ·rw[hb]at hq;cases hq
   rw[hb]at hb';cases hb';have hrow:n * u.size+u.size<=vs.toList.length:=by
    have e1:vs.toList.length=vs.size:=Array.length_toList;have:(n+1) * u.size<=(ρ β).cap * u.size:=mul_le_mul_right _ (by omega)
    rw[succ_mul]at this;omega
   obtain ⟨h3,h4⟩:=y1l u y off i.ty z y' _ l (hel n y hy) h1 hy';have hu1:((vs.toList.drop (n * u.size)).take u.size).length=u.size:=by rw[length_take,length_drop];omega
   rw[hu1]at h3;have hrun:=y0J (P:=P) hF (v:=a.eval x) (l:=l) (b:=b) (off:=n * u.size+off) (cur:=vs) (e:=e) (by rw[h2];exact y0I h1) hll (λ v hv=>yp (y6.plain h1 v hv)) hg (by
    have e1:vs.toList.length=vs.size:=Array.length_toList;omega)
   have hAb:Av A0 ρ s1.cH b:=.inr ⟨β,_,hc,hb⟩;have hfit:n * u.size+off+l.length<=vs.toList.length:=by omega
   have hW:=hS.write (w':=w.setRow b (vs.toList.take (n * u.size+off)++l++vs.toList.drop (n * u.size+off+l.length)).toArray) (ch':=.arr e u (xs.set n y') nn) hc hb (λ k hk=>setRow_other w b k _ hk) (y0i _ _ _) rfl rfl rfl trivial (λ A hA=>by
    have hK:Keep (Av A0 ρ s1.cH) w (w.setRow b (vs.toList.take (n * u.size+off)++l++vs.toList.drop (n * u.size+off+l.length)).toArray):=λ k hk hkA=>setRow_other w b k _ (λ e=>hkA (e ▸ hAb))
    have hA1:∀ k,k < w.heap.size->A k->Av A0 ρ s1.cH k:=λ k _ hk=>(hA k).1 hk
    refine ⟨by simpa using hxl,hnn,.inr ⟨b,_,hb,setRow_heap w b vs _ e _ hg,hle,hm,?_,λ j x hj=>?_⟩⟩
    ·have e1:vs.toList.length=vs.size:=Array.length_toList;simp only[size_toArray,length_append,length_take,length_drop];omega
    ·rw[toList_toArray];by_cases hnj:n=j
     ·subst hnj;rw[getElem?_set_self hn]at hj;cases hj;have e2:((vs.toList.take (n * u.size+off)++l++vs.toList.drop (n * u.size+off+l.length)).drop (n * u.size)).take u.size=((vs.toList.drop (n * u.size)).take u.size).take off++l++((vs.toList.drop (n * u.size)).take u.size).drop (off+l.length):=by
       apply ext_getElem?;intro k;have e3:=y15 (l:=(vs.toList.drop (n * u.size)).take u.size) (m:=l) (o:=off) (by rw[hu1];exact h3) k
       rw[y0F,e3];by_cases hk:k < u.size
       ·rw[if_pos hk,y15 hfit,y0F,if_pos hk];by_cases h5:k < off
        ·rw[if_pos h5,if_pos (by omega)]
        ·rw[if_neg h5,if_neg (by omega)]
         by_cases h6:k < off+l.length
         ·rw[if_pos h6,if_pos (by omega)]
          congr 1
          omega
         ·rw[if_neg h6,if_neg (by omega)]
       ·rw[if_neg hk,if_neg (by omega),if_neg (by omega),y0F,if_neg hk]
      rw[e2];exact h4.mono hK hA1
     ·rw[getElem?_set_ne hnj]at hj;have e2:((vs.toList.take (n * u.size+off)++l++vs.toList.drop (n * u.size+off+l.length)).drop (j * u.size)).take u.size=(vs.toList.drop (j * u.size)).take u.size:=by
       apply ext_getElem?;intro k;rw[y0F,y0F];split
       ·rename_i hk;rw[y15 hfit];rcases Nat.lt_or_gt_of_ne hnj with h|h
        ·have h5:(n+1) * u.size<=j * u.size:=mul_le_mul_right _ h;rw[succ_mul]at h5;rw[if_neg (by omega),if_neg (by omega)]
        ·have h5:(j+1) * u.size<=n * u.size:=mul_le_mul_right _ h;rw[succ_mul]at h5;rw[if_pos (by omega)]
       ·rfl
      rw[e2];exact (hel j x hj).mono hK hA1)
   refine Eff.skip (w':=_) ?_ (hW.put o.dst (sv:=.undef) (v:=undef) trivial trivial) hk;simp only[execOp,ho,Sem.run_bind,hav,hrun,Result.andThen_ok,Sem.run_pure]
  ·rename_i e u q e' v xs hch;have hc:=getD_some hch;obtain ⟨hsz,hk1⟩:=yG hk;clear hk;subst hsz;obtain ⟨y,hy,hk2⟩:=bind_eq_some_iff.1 hk1;obtain ⟨z,hz,hk3⟩:=bind_eq_some_iff.1 hk2;obtain ⟨y',hy',hk⟩:=bind_eq_some_iff.1 hk3;obtain ⟨l,h1,h2⟩:=y01 (y3 (T:=g.T) hS t x).1 hz;have hll:=h1.length;have hn:n < xs.length:=(List.getElem?_eq_some_iff.1 hy).1;obtain ⟨⟨hxl,hsb,hnl⟩,hdis,⟨hq,_⟩|⟨b',vs,hb',hg,hle,hm,hvs,hel⟩⟩:=(hS.cH β _ hc).1
   ·rw[hb]at hq;cases hq
   rw[hb]at hb';cases hb';have hrow:n * u.size+u.size<=vs.toList.length:=by
    have e1:vs.toList.length=vs.size:=Array.length_toList;have:(n+1) * u.size<=(ρ β).cap * u.size:=mul_le_mul_right _ (by omega)
    rw[succ_mul]at this;omega
   obtain ⟨nq,hnq,hN⟩:=hel n y hy;obtain ⟨h3,h4⟩:=hN.store hy' h1;have hu1:((vs.toList.drop (n * u.size)).take u.size).length=u.size:=by rw[length_take,length_drop];omega
   rw[hu1]at h3;have e1:vs.toList.length=vs.size:=Array.length_toList;have hrun:=y0J (P:=P) hF (v:=a.eval x) (l:=l) (b:=b) (off:=n * u.size+off) (cur:=vs) (e:=e) (by rw[h2];exact y0I h1) hll (λ v hv=>yp (y6.plain h1 v hv)) hg (by omega)
   have hAb:Av A0 ρ s1.cH b:=.inr ⟨β,_,hc,hb⟩;have hW:=hS.write (w':=w.setRow b (vs.toList.take (n * u.size+off)++l++vs.toList.drop (n * u.size+off+l.length)).toArray) (ch':=.nst e u q e' v (xs.set n y')) hc hb (λ k hk=>setRow_other w b k _ hk) (y0i _ _ _) rfl rfl rfl trivial (λ A hA=>by
    have hK:Keep (Av A0 ρ s1.cH) w (w.setRow b (vs.toList.take (n * u.size+off)++l++vs.toList.drop (n * u.size+off+l.length)).toArray):=λ k hk hkA=>setRow_other w b k _ (λ e=>hkA (e ▸ hAb))
    have hA1:∀ k,k < w.heap.size->A k->Av A0 ρ s1.cH k:=λ k _ hk=>(hA k).1 hk
    have hsubs:∀ (j:Nat) (m:Option Nat×Nat×Nat),(ρ β).ns[j]?=some m->∀ k,m.1=some k->k < w.heap.size->(w.setRow b (vs.toList.take (n * u.size+off)++l++vs.toList.drop (n * u.size+off+l.length)).toArray).heap[k]?=w.heap[k]?:=λ j m hj k hk _=>by
     refine setRow_other w b k _ λ e=>?_
     subst e;refine hS.subs.apart β β _ _ k hc hc ?_ hb;rw[hsb,<- hk];exact mem_map.2 ⟨m,mem_of_getElem? hj,rfl⟩
    refine ⟨⟨by simpa using hxl,hsb,by simpa using hnl⟩,hdis,.inr ⟨b,_,hb,setRow_heap w b vs _ e _ hg,hle,hm,?_,λ j x hj=>?_⟩⟩
    ·simp only[size_toArray,length_append,length_take,length_drop];omega
    ·rw[toList_toArray];by_cases hnj:n=j
     ·subst hnj;rw[getElem?_set_self hn]at hj;cases hj;rw[yAY h3 hrow];exact ⟨nq,hnq,h4.frame (hsubs n nq hnq) hK hA1⟩
     ·rw[getElem?_set_ne hnj]at hj;obtain ⟨m,h5,h6⟩:=hel j x hj;rw[y8O h3 hrow hnj];exact ⟨m,h5,h6.frame (hsubs j m h5) hK hA1⟩)
   refine Eff.skip (w':=_) ?_ (hW.put o.dst (sv:=.undef) (v:=undef) trivial trivial) hk;simp only[execOp,ho,Sem.run_bind,hav,hrun,Result.andThen_ok,Sem.run_pure]
  ·cases hk
 ·rename_i i β n j sz off hi had;have hF:=hT.fits hi;have hS:=h.settle (y9 g.T t s x);obtain ⟨nq,b,hnq,hb,hav⟩:∃ q b,(ρ β).ns[n]?=some q/\q.1=some b/\a.eval ad=.pointer (some ⟨b,j * sz+off,none⟩):=by
   have:=(y3 (T:=g.T) h 0 ad).1;rw[had]at this;exact this
  generalize s.settle (y9 g.T t s x)=s1 at hk hS;split at hk
  ·rename_i e u q e' v xs hch;have hc:=getD_some hch;obtain ⟨hsz,hk1⟩:=yG hk;clear hk;subst hsz;obtain ⟨y,hy,hk2⟩:=bind_eq_some_iff.1 hk1;obtain ⟨ys,hys,hk3⟩:=bind_eq_some_iff.1 hk2;obtain ⟨z0,hz0,hk4⟩:=bind_eq_some_iff.1 hk3;obtain ⟨z,hz,hk5⟩:=bind_eq_some_iff.1 hk4;obtain ⟨z',hz',hk6⟩:=bind_eq_some_iff.1 hk5;obtain ⟨y',hy',hk⟩:=bind_eq_some_iff.1 hk6;obtain ⟨l,h1,h2⟩:=y01 (y3 (T:=g.T) hS t x).1 hz;have hll:=h1.length;have hn:n < xs.length:=(List.getElem?_eq_some_iff.1 hy).1;have hst:=(hS.cH β _ hc).1;obtain ⟨bo,nq2,lrow,hbo,hnq2,_,hN0⟩:=y62 hst hy;obtain ⟨⟨hxl,hsb,hnl⟩,hdis,hrest⟩:=hst;rw[hnq]at hnq2;cases hnq2;have hbs:some b∈(ρ β).subs:=by
    rw[hsb,<- hb];exact mem_map.2 ⟨nq,mem_of_getElem? hnq,rfl⟩
   obtain ⟨ys',hys',_,_,hlen,hsr⟩:=hN0.comp;rw[hys]at hys';cases hys';obtain ⟨b2,hb2,vs,hg,hle,hm,hvs,_,hz1⟩:=hsr.at hz0;rw[hb]at hb2;cases hb2;have hjl:=(List.getElem?_eq_some_iff.1 hz0).1;have e1:vs.toList.length=vs.size:=Array.length_toList;have hrow:j * v.size+v.size<=vs.toList.length:=by
    have:(j+1) * v.size<=nq.2.2 * v.size:=mul_le_mul_right _ (by omega)
    rw[succ_mul]at this;omega
   obtain ⟨h3,h4⟩:=y1l v z0 off i.ty z z' _ l hz1 h1 hz';have hu1:((vs.toList.drop (j * v.size)).take v.size).length=v.size:=by rw[length_take,length_drop];omega
   rw[hu1]at h3;have hrun:=y0J (P:=P) hF (v:=a.eval x) (l:=l) (b:=b) (off:=j * v.size+off) (cur:=vs) (e:=e') (by rw[h2];exact y0I h1) hll (λ v hv=>yp (y6.plain h1 v hv)) hg (by omega)
   have hAb:Av A0 ρ s1.cH b:=.inl (.inr ⟨β,_,hc,hbs⟩);have hW:=hS.writeSub (w':=w.setRow b (vs.toList.take (j * v.size+off)++l++vs.toList.drop (j * v.size+off+l.length)).toArray) (ch':=.nst e u q e' v (xs.set n y')) hc hbs (λ k hk=>setRow_other w b k _ hk) (y0i _ _ _) rfl rfl rfl trivial (λ A hA=>by
    have hK:Keep (Av A0 ρ s1.cH) w (w.setRow b (vs.toList.take (j * v.size+off)++l++vs.toList.drop (j * v.size+off+l.length)).toArray):=λ k hk hkA=>setRow_other w b k _ (λ e=>hkA (e ▸ hAb))
    have hA1:∀ k,k < w.heap.size->A k->Av A0 ρ s1.cH k:=λ k _ hk=>(hA k).1 hk
    refine ⟨⟨by simpa using hxl,hsb,by simpa using hnl⟩,hdis,?_⟩
    rcases hrest with ⟨a1,_⟩|⟨b',vs',hb',hg',hle',hm',hvs',hel⟩
    ·rw[hbo]at a1;cases a1
    have hbb:b'≠b:=λ e=>hS.subs.apart β β _ _ b hc hc hbs (e ▸ hb')
    refine .inr ⟨b',vs',hb',(setRow_other w b b' _ hbb).trans hg',hle',hm',hvs',λ k x hk=>?_⟩
    by_cases hnk:n=k
    ·subst hnk;rw[getElem?_set_self hn]at hk;cases hk;obtain ⟨m,hm1,x0,l0,ys2,g1,g2,g3,g4,g5⟩:=hel n y hy;rw[hnq]at hm1;cases hm1;have g6:=y9a _ _ _ _ _ _ g2;rw[hys]at g6;cases g6;refine ⟨nq,hnq,x0,l0,ys.set j z',g1.mono hK hA1,y5D g2 hy',g3,by simpa using g4,?_⟩
     refine ⟨nq.2.2,by simp[g4],.inr ⟨b,_,hb,setRow_heap w b vs _ e' _ hg,by simpa using hle,hm,?_,λ k x hk=>?_⟩⟩
     ·simp only[size_toArray,length_append,length_take,length_drop];omega
     ·rw[toList_toArray];by_cases hjk:j=k
      ·subst hjk;rw[getElem?_set_self hjl]at hk;cases hk;rw[yAY h3 hrow];exact h4.mono hK hA1
      ·rw[getElem?_set_ne hjk]at hk;rw[y8O h3 hrow hjk];obtain ⟨cap,g7,⟨_,g8,_⟩|⟨m',vs2,g8,g9,_,_,_,g10⟩⟩:=hsr
       ·omega
       ·rw[hb]at g8;cases g8;rw[hg]at g9;cases g9;exact (g10 k x hk).mono hK hA1
    ·rw[getElem?_set_ne hnk]at hk;obtain ⟨m,hm1,hm2⟩:=hel k x hk;refine ⟨m,hm1,hm2.frame (λ c hc1 _=>setRow_other w b c _ λ e=>?_) hK hA1⟩
     subst e;have q1:(ρ β).subs[k]?=some (some c):=by rw[hsb,getElem?_map,hm1,<- hc1];rfl
     have q2:(ρ β).subs[n]?=some (some c):=by rw[hsb,getElem?_map,hnq,<- hb];rfl
     exact hnk (hdis n k c q2 q1))
   refine Eff.skip (w':=_) ?_ (hW.put o.dst (sv:=.undef) (v:=undef) trivial trivial) hk;simp only[execOp,ho,Sem.run_bind,hav,hrun,Result.andThen_ok,Sem.run_pure]
  ·cases hk
 ·cases hk
end
end Go.Vx
end
