/- V11: built-in functions; all operations that turn no block of one's own together; calls by contract. -/
import Derived.Test.YtkfigfhjbejikaaGreatDoorV10
set_option linter.all false
namespace Go.Vx
open Go.RowKit
variable [GT]

section
variable {P : Program} {A0 : Nat → Prop} {w0 : Base} {ρ : Places} {s : St} {a : Act} {w w' : World} {g : G} {R : Type} {K : SV → Option R} {r : R} {o : Oper}

theorem exec_builtin {b : Builtin} {args : Array Operand} {ts : Array TypeId} (ho : o.op = .call { callee := .builtin b, args, argTypes := ts }) :
    (execOp a.eval o).run P w = (builtin b ts o.type (args.map fun | .const _ => true | _ => false) (args.map a.eval)).run P w := by
  unfold execOp
  simp only [ho, resolve, invoke, Sem.run_bind, Sem.run_pure, Result.andThen_ok]
  rfl

theorem shape_isSlice {t : TypeId} {i : TyI} (h : shapeB P t i = true) (hty : i.ty.isSlice = true) : ∃ e, P.underlying t = some (.slice e) := by
  cases hi : i.ty <;> rw [hi] at hty <;> simp [Ty.isSlice] at hty
  · exact ⟨_, (shape_slice h (.inl hi)).1⟩
  · exact ⟨_, (shape_slice h (.inr hi)).1⟩

theorem lenK_sound (hT : TabOk P g.T) (h : Rel P A0 w0 ρ s a w) {t : TypeId} {i : TyI} (hi : lookT g.T t = some i) {sv : SV} {v : Value} (hx : SVRel P (Av A0 ρ s.chunks) w ρ sv v) {ty : TypeId}
    (hk : lenK i.ty s.chunks sv K = some r) : ∃ n : Nat, (Builtin.len_ #[t] ty #[v]).run P w = .ok (.int .i64 n) w ∧ K (.val (.int .i64) (n : Int)) = some r := by
  unfold lenK at hk
  split at hk
  · split at hk
    · rename_i hs
      obtain ⟨e, hu⟩ := shape_isSlice (hT.shape hi) hs
      obtain ⟨l, hl, rfl⟩ := hx
      simp only [Cells] at hl
      obtain ⟨p, c, rfl, _⟩ := hl
      exact ⟨_, by simp [Builtin.len_, run_underlying hu, Ty.wrap, Ty.agg, goInt], hk⟩
    · cases hk
  · split at hk
    · rename_i hs
      obtain ⟨e, hu⟩ := shape_isSlice (hT.shape hi) hs
      obtain ⟨l, hl, rfl⟩ := hx
      simp only [Cells] at hl
      obtain ⟨p, c, rfl, _⟩ := hl
      exact ⟨_, by simp [Builtin.len_, run_underlying hu, Ty.wrap, Ty.agg, goInt], hk⟩
    · cases hk
  · split at hk
    · rename_i bs hs
      have hu := shape_str (hT.shape hi) hs
      rw [str_inv hx]
      have hs : (⟨(bs : List UInt8).toArray⟩ : ByteArray).size = (bs : List UInt8).length := by simp [ByteArray.size]
      exact ⟨_, by simp only [Builtin.len_]; simp [run_underlying hu, goInt, hs], hk⟩
    · cases hk
  · split at hk
    · rename_i hs
      obtain ⟨e, hu⟩ := shape_isSlice (hT.shape hi) hs
      simp only [SVRel] at hx
      subst hx
      exact ⟨0, by simp [Builtin.len_, run_underlying hu, goInt], hk⟩
    · cases hk
  · split at hk
    · rename_i β hs
      obtain ⟨e, hu⟩ := shape_isSlice (hT.shape hi) hs
      split at hk
      · rename_i e' u xs nn hch
        obtain ⟨hlen, _⟩ := (h.chunks β _ (getD_some hch)).1
        simp only [SVRel] at hx
        subst hx
        exact ⟨xs.length, by simp [Builtin.len_, run_underlying hu, goInt, hlen], hk⟩
      · cases hk
    · cases hk
  · split at hk
    · rename_i n u hty
      obtain ⟨hu, _⟩ := shape_arr (hT.shape hi) hty
      exact ⟨n, by cases v <;> simp [Builtin.len_, run_underlying hu, goInt], hk⟩
    · cases hk

theorem len_sound (hT : TabOk P g.T) (h : Rel P A0 w0 ρ s a w) {args : Array Operand} {ts : Array TypeId} (ho : o.op = .call { callee := .builtin .len, args, argTypes := ts }) (hk : pureK g s o K = some r) : Yld P A0 ρ s a w o K r := by
  simp only [pureK, ho] at hk
  split at hk
  · rename_i x t hxs hts
    split at hk
    · rename_i i hi
      have hx := (evalO_sound (T := g.T) h t x).1
      obtain ⟨n, h1, h2⟩ := lenK_sound (ty := o.type) hT h hi hx hk
      have e1 : args.map a.eval = #[a.eval x] := by apply Array.toList_inj.1; simp [hxs]
      have e2 : ts = #[t] := by apply Array.toList_inj.1; simp [hts]
      refine Yld.here (sv := .val (.int .i64) (n : Int)) (v := .int .i64 n) ?_ (mk_int _ _) trivial h2
      rw [exec_builtin ho, e1, e2]
      simp only [builtin, Sem.run_bind, h1, Result.andThen_ok, Sem.run_pure]
    · cases hk
  · cases hk

theorem maxK_sound (h : Rel P A0 w0 ρ s a w) {mx : Bool} {args : Array Operand} {T : List (TypeId × TyI)} {t : TypeId} (hk : maxK mx (args.toList.map fun x => evalO T t s x) K = some r) :
    ∃ k x y, args.map a.eval = #[.int k x, .int k y] ∧ K (.val (.int k) (if mx then (if y > x then y else x) else (if y < x then y else x))) = some r := by
  unfold maxK at hk
  split at hk
  · rename_i k x j y heq
    split at hk
    · rename_i hkj
      subst hkj
      match hargs : args.toList, heq with
      | [p, q], heq =>
        simp only [List.map_cons, List.map_nil, List.cons.injEq, and_true] at heq
        have h1 := (evalO_sound (T := T) h t p).1
        have h2 := (evalO_sound (T := T) h t q).1
        rw [heq.1] at h1
        rw [heq.2] at h2
        exact ⟨k, x, y, by apply Array.toList_inj.1; simp [hargs, int_inv h1, int_inv h2], hk⟩
      | [], heq => simp at heq
      | [_], heq => simp at heq
      | _ :: _ :: _ :: _, heq => simp at heq
    · cases hk
  · cases hk

theorem max_sound (h : Rel P A0 w0 ρ s a w) {args : Array Operand} {ts : Array TypeId} (ho : o.op = .call { callee := .builtin .max, args, argTypes := ts }) (hk : pureK g s o K = some r) : Yld P A0 ρ s a w o K r := by
  simp only [pureK, ho] at hk
  obtain ⟨k, x, y, h1, h2⟩ := maxK_sound h hk
  refine Yld.here (sv := .val (.int k) _) (v := .int k (if y > x then y else x)) ?_ (mk_int _ _) trivial h2
  rw [exec_builtin ho, h1]
  simp [builtin, Builtin.max_, Builtin.max2]

theorem min_sound (h : Rel P A0 w0 ρ s a w) {args : Array Operand} {ts : Array TypeId} (ho : o.op = .call { callee := .builtin .min, args, argTypes := ts }) (hk : pureK g s o K = some r) : Yld P A0 ρ s a w o K r := by
  simp only [pureK, ho] at hk
  obtain ⟨k, x, y, h1, h2⟩ := maxK_sound h hk
  refine Yld.here (sv := .val (.int k) _) (v := .int k (if y < x then y else x)) ?_ (mk_int _ _) trivial h2
  rw [exec_builtin ho, h1]
  simp [builtin, Builtin.min_, Builtin.min2]

/-! ### Maps -/
theorem ite_some2 {α : Type} {c : Prop} [Decidable c] {x : Option α} {y : α} (h : (if c then x else none) = some y) : c ∧ x = some y := by
  split at h
  · exact ⟨‹_›, h⟩
  · cases h

def keyVal : (k : Ty) → k.den → Value
  | .str, x => .string ⟨(show List UInt8 from x).toArray⟩
  | .int j, x => .int j x
  | _, _ => undef

theorem key_cells {A : Nat → Prop} {k : Ty} {x : k.den} {v : Value} (hk : k.keyOk = true) (h : Cells P k A w x [v]) : v = keyVal k x := by
  cases k with
  | str => simp only [Cells] at h; cases h; rfl
  | int j => simp only [Cells] at h; cases h; rfl
  | _ => cases hk

theorem key_cells' {A : Nat → Prop} {k : Ty} (x : k.den) (hk : k.keyOk = true) : Cells P k A w x [keyVal k x] := by
  cases k with
  | str => rfl
  | int j => rfl
  | _ => cases hk

theorem wrap_key {A : Nat → Prop} {k : Ty} {x : k.den} {l : List Value} (hk : k.keyOk = true) (h : Cells P k A w x l) : k.wrap l = keyVal k x ∧ l = [keyVal k x] := by
  cases k with
  | str => simp only [Cells] at h; subst h; exact ⟨rfl, rfl⟩
  | int j => simp only [Cells] at h; subst h; exact ⟨rfl, rfl⟩
  | _ => cases hk

/-- The key's Go type. -/
def KeyD (k : Ty) (d : TypeDesc) : Prop := (k = .str ∧ d = .string) ∨ ∃ j, k = .int j ∧ d = .int j

theorem bytes_beq (a b : List UInt8) : ((⟨a.toArray⟩ : ByteArray) == ⟨b.toArray⟩) = (a == b) := by
  show (a.toArray == b.toArray) = (a == b)
  simp

theorem sameNow_key {k : Ty} {d : TypeDesc} (hd : KeyD k d) (x y : k.den) : Instr.sameNow d (keyVal k x) (keyVal k y) = some (eqV k x y) := by
  rcases hd with ⟨rfl, rfl⟩ | ⟨j, rfl, rfl⟩
  · simp only [keyVal, Instr.sameNow, eqV, bytes_beq]
  · simp only [keyVal, Instr.sameNow, eqV, if_true]

theorem eqV_key {k : Ty} {d : TypeDesc} (hd : KeyD k d) {x y : k.den} (h : eqV k x y = true) : x = y := by
  rcases hd with ⟨rfl, rfl⟩ | ⟨j, rfl, rfl⟩
  · simp only [eqV] at h; exact eq_of_beq h
  · simp only [eqV] at h; exact eq_of_beq h

/-- What is found under a key. -/
theorem find_key {k v : Ty} {d : TypeDesc} (hd : KeyD k d) (y : k.den) : ∀ (ms : List MapEntry) (es : List (k.den × v.den)) (i : Nat), ms.length = es.length →
    (∀ (j : Nat) (e : MapEntry) (x : k.den × v.den), ms[j]? = some e → es[j]? = some x → e.key = keyVal k x.1) →
    (Instr.findNow d (keyVal k y) ms i = some none ∧ mapGet k v es y = none ∧ ∀ z, mapPut k v es y z = es ++ [(y, z)]) ∨
    ∃ (j : Nat) (e : MapEntry) (x : k.den × v.den), ms[j]? = some e ∧ es[j]? = some x ∧ x.1 = y ∧ Instr.findNow d (keyVal k y) ms i = some (some (i + j, e.val)) ∧ mapGet k v es y = some x.2 ∧ ∀ z, mapPut k v es y z = es.set j (y, z)
  | [], [], i, _, _ => .inl ⟨rfl, rfl, fun _ => rfl⟩
  | [], _ :: _, _, h, _ => by simp at h
  | _ :: _, [], _, h, _ => by simp at h
  | e :: ms, x :: es, i, h, hm => by
    have h0 : e.key = keyVal k x.1 := hm 0 e x rfl rfl
    have hs := sameNow_key hd y x.1
    have ih := find_key hd y ms es (i + 1) (by simpa using h) (fun j e' x' h1 h2 => hm (j + 1) e' x' (by simpa using h1) (by simpa using h2))
    cases hq : eqV k y x.1 with
    | true =>
      refine .inr ⟨0, e, x, rfl, rfl, (eqV_key hd hq).symm, ?_, ?_, fun z => ?_⟩
      · simp [Instr.findNow, h0, hs, hq]
      · simp [mapGet, hq]
      · simp [mapPut, hq]
    | false =>
      rcases ih with ⟨h1, h2, h3⟩ | ⟨j, e', x', h1, h2, h3, h4, h5, h6⟩
      · exact .inl ⟨by simp [Instr.findNow, h0, hs, hq, h1], by simp [mapGet, hq, h2], fun z => by simp [mapPut, hq, h3]⟩
      · refine .inr ⟨j + 1, e', x', by simpa using h1, by simpa using h2, h3, ?_, by simp [mapGet, hq, h5], fun z => by simp [mapPut, hq, h6]⟩
        simp only [Instr.findNow, h0, hs, hq, h4]
        congr 3
        omega

theorem shape_map {t : TypeId} {i : TyI} {k v : Ty} (h : shapeB P t i = true) (hi : i.ty = .map k v) :
    ∃ kt et dk, P.underlying t = some (.map kt et) ∧ Fits P kt k ∧ Fits P et v ∧ P.underlying kt = some dk ∧ KeyD k dk := by
  unfold shapeB at h
  rw [hi] at h
  split at h <;> first | (cases h; done) | skip
  all_goals rename_i e1 e2
  all_goals first | (cases e1; done) | skip
  all_goals try (simp at e1; done)
  case _ => 
    cases e1
    simp only [Bool.and_eq_true] at h
    obtain ⟨⟨h1, h2⟩, h3⟩ := h
    split at h3
    · rename_i hu
      exact ⟨_, _, _, e2, fits_of h1, fits_of h2, hu, .inl ⟨rfl, rfl⟩⟩
    · rename_i j l hu
      have hj : j = l := by simpa using h3
      subst hj
      exact ⟨_, _, _, e2, fits_of h1, fits_of h2, hu, .inr ⟨_, rfl, rfl⟩⟩
    · cases h3

theorem run_checkKey {kt : TypeId} {d : TypeDesc} {k : Ty} (hu : P.underlying kt = some d) (hd : KeyD k d) (e : Bool) (v : Value) : (Instr.checkKey e 10000 kt v).run P w = .ok () w := by
  show (Instr.checkKey e (9999 + 1) kt v).run P w = .ok () w
  unfold Instr.checkKey
  simp only [Sem.run_bind, run_underlying hu, Result.andThen_ok]
  rcases hd with ⟨rfl, rfl⟩ | ⟨j, rfl, rfl⟩ <;> rfl

theorem run_findKey {kt : TypeId} {d : TypeDesc} (hu : P.underlying kt = some d) {v : Value} {es : List MapEntry} {r : Option (Nat × Value)} (h : Instr.findNow d v es 0 = some r) : (Instr.findKey kt v es).run P w = .ok r w := by
  simp [Instr.findKey, run_underlying hu, h]

theorem run_getMap {b : Nat} {ms : Array MapEntry} {c : Nat} (h : w.heap[b]? = some (.map ms c)) : (getObj b).run P w = .ok (.map ms c) w := by
  simp [getObj, Sem.run, h]

/-- A map that is looked at. -/
theorem mapOf_sound (h : Rel P A0 w0 ρ s a w) {sv : SV} {v : Value} {u e : Ty} {es : List (u.den × e.den)} (hs : SVRel P (Av A0 ρ s.chunks) w ρ sv v) (hm : mapOf s.chunks sv = some ⟨.map u e, es⟩) :
    (v = .map none ∧ es = []) ∨ ∃ (b : Nat) (ms : Array MapEntry) (c : Nat), v = .map (some b) ∧ w.heap[b]? = some (.map ms c) ∧ ms.size = es.length ∧
      ∀ (i : Nat) (x : u.den × e.den), es[i]? = some x → ∃ (m : MapEntry) (lv : List Value), ms[i]? = some m ∧ Cells P u (Av A0 ρ s.chunks) w x.1 [m.key] ∧ Cells P e (Av A0 ρ s.chunks) w x.2 lv ∧ m.val = e.wrap lv := by
  unfold mapOf at hm
  split at hm
  · cases hm
    obtain ⟨l, hl, rfl⟩ := hs
    simp only [Cells] at hl
    rcases hl with ⟨rfl, rfl⟩ | ⟨b, ms, c, rfl, _, h1, h2, h3⟩
    · exact .inl ⟨rfl, rfl⟩
    · exact .inr ⟨b, ms, c, rfl, h1, h2, h3⟩
  · rename_i β
    unfold ownMap at hm
    split at hm
    · rename_i hch
      cases hm
      obtain ⟨b, ms, c, hb, h1, h2, h3⟩ := (h.chunks β _ (getD_some hch)).1
      simp only [SVRel] at hs
      exact .inr ⟨b, ms, c, by rw [hs, hb], h1, h2, h3⟩
    · cases hm
  · cases hm

theorem lookupK_sound {A : Nat → Prop} {n : Nat} {k v : Ty} {es : List (k.den × v.den)} {y : k.den} {ok : Bool} {b : Bool} {x : v.den} {lx : List Value} (hx : Cells P v A w x lx) (h1 : (mapGet k v es y).getD v.dflt = x) (h2 : (mapGet k v es y).isSome = b)
    (hk : lookupK k v es y ok K = some r) : ∃ sv, SVRel P A w ρ sv (if ok then .tuple #[v.wrap lx, .bool b] else v.wrap lx) ∧ sv.inn n ∧ K sv = some r := by
  unfold lookupK at hk
  rw [h1, h2] at hk
  cases ok with
  | true =>
    refine ⟨.tup (.pair v (.pair .bool .unit)) (x, b, ()), ⟨lx ++ ([.bool b] ++ []), ⟨lx, _, rfl, hx, [.bool b], [], rfl, rfl, rfl⟩, ?_⟩, trivial, hk⟩
    have e1 : (lx ++ ([Value.bool b] ++ [])).take v.size = lx := by rw [← hx.length, List.take_left]
    have e2 : (lx ++ ([Value.bool b] ++ [])).drop v.size = [Value.bool b] ++ [] := by rw [← hx.length, List.drop_left]
    simp only [Ty.group, e1, e2]
    rfl
  | false => exact ⟨.val v x, ⟨lx, hx, rfl⟩, trivial, hk⟩

theorem lookup_sound (hT : TabOk P g.T) (h : Rel P A0 w0 ρ s a w) {t : TypeId} {x ix : Operand} {ok : Bool} (ho : o.op = .lookup t x ix ok) (hk : pureK g s o K = some r) : Yld P A0 ρ s a w o K r := by
  simp only [pureK, ho] at hk
  have hex : execOp a.eval o = (do pure (.value (← Instr.lookup t (a.eval x) (a.eval ix) ok))) := by simp only [execOp, ho]
  split at hk
  · rename_i i k v es hi hm
    obtain ⟨⟨hty, hkey, hz⟩, hk⟩ := ite_some2 hk
    obtain ⟨y, hy, hk⟩ := Option.bind_eq_some_iff.1 hk
    obtain ⟨kt, et, dk, h1, h2, h3, h4, h5⟩ := shape_map (hT.shape hi) hty
    obtain ⟨inf, z, f1, f2, f3, f4, f5⟩ := zero_cells h3 hz
    obtain ⟨ly, hly, hiv⟩ := valOf_nil (evalO_sound (T := g.T) h 0 ix).1 hy
    rw [(wrap_key hkey hly).1] at hiv
    have hzero : (zeroValue et).run P w = .ok (v.wrap v.zeroV) w := by rw [run_zeroValue f1 f2, f5]
    have hzc : Cells P v (Av A0 ρ s.chunks) w v.dflt v.zeroV := dflt_cells v hz
    rcases mapOf_sound h (evalO_sound (T := g.T) h t x).1 hm with ⟨hv, rfl⟩ | ⟨b, ms, c, hv, g1, g2, g3⟩
    · obtain ⟨sv, q1, q2, q3⟩ := lookupK_sound (ρ := ρ) (n := s.chunks.length) (b := false) hzc rfl rfl hk
      refine Yld.of_run hex ?_ q1 q2 q3
      have hf := run_findKey (P := P) (w := w) h4 (v := keyVal k y) (es := []) (r := none) rfl
      rw [hv, hiv]
      unfold Instr.lookup
      simp only [Sem.run_bind, run_underlying h1, Result.andThen_ok, Sem.run_pure, run_checkKey h4 h5, hf, hzero]

    · have hkeys : ∀ (j : Nat) (e : MapEntry) (p : k.den × v.den), ms.toList[j]? = some e → es[j]? = some p → e.key = keyVal k p.1 := by
        intro j e p he hp
        obtain ⟨m, lv, r1, r2, r3, r4⟩ := g3 j p hp
        rw [Array.getElem?_toList, r1] at he
        cases he
        exact key_cells hkey r2
      rcases find_key h5 y ms.toList es 0 (by simpa using g2) hkeys with ⟨r1, r2, _⟩ | ⟨j, e, p, r1, r2, r3, r4, r5, _⟩
      · obtain ⟨sv, q1, q2, q3⟩ := lookupK_sound (ρ := ρ) (n := s.chunks.length) (b := false) hzc (by rw [r2]; rfl) (by rw [r2]; rfl) hk
        refine Yld.of_run hex ?_ q1 q2 q3
        rw [hv, hiv]
        unfold Instr.lookup
        simp only [Sem.run_bind, run_underlying h1, Result.andThen_ok, Sem.run_pure, run_getMap g1, run_checkKey h4 h5, run_findKey h4 r1, hzero]

      · obtain ⟨m, lv, n1, n2, n3, n4⟩ := g3 j p r2
        rw [Array.getElem?_toList, n1] at r1
        cases r1
        obtain ⟨sv, q1, q2, q3⟩ := lookupK_sound (ρ := ρ) (n := s.chunks.length) (b := true) n3 (by rw [r5]; rfl) (by rw [r5]; rfl) hk
        refine Yld.of_run hex ?_ q1 q2 q3
        rw [hv, hiv]
        unfold Instr.lookup
        simp only [Sem.run_bind, run_underlying h1, Result.andThen_ok, Sem.run_pure, run_getMap g1, run_checkKey h4 h5, run_findKey h4 r4, n4]

  · cases hk

theorem sliceData_sound (h : Rel P A0 w0 ρ s a w) {args : Array Operand} {ts : Array TypeId} (ho : o.op = .call { callee := .builtin .unsafeSliceData, args, argTypes := ts }) (hk : pureK g s o K = some r) : Yld P A0 ρ s a w o K r := by
  simp only [pureK, ho] at hk
  split at hk
  · rename_i x hxs
    have hx := evalO_sound (T := g.T) h 0 x
    have e1 : args.map a.eval = #[a.eval x] := by apply Array.toList_inj.1; simp [hxs]
    unfold dataK at hk
    split at hk
    · rename_i β he
      rw [he] at hx
      split at hk
      · rename_i e xs nn hch
        obtain ⟨hlen, _, h3⟩ := (h.chunks β _ (getD_some hch)).1
        cases hd : decide (0 < List.length xs) with
        | false => rw [hd] at hk; cases hk
        | true =>
        rw [hd] at hk
        simp only [cond_true] at hk
        have hd := of_decide_eq_true hd
        rcases h3 with ⟨_, h4, _⟩ | ⟨b, vs, hb, h4, h5, h6, h7, h8⟩
        · omega
        · have hv : a.eval x = .slice (some ⟨b, 0, none⟩) (ρ β).len (ρ β).cap := by
            have := hx.1
            simp only [SVRel, hb] at this
            exact this
          refine Yld.here (sv := .eptr β 0 1 0) (v := .pointer (some ⟨b, 0, none⟩)) ?_ ⟨b, hb, rfl⟩ hx.2 hk
          rw [exec_builtin ho, e1, hv]
          have hc : (ρ β).cap ≠ 0 := by omega
          have hr : (Builtin.unsafeSliceData_ ts o.type #[.slice (some ⟨b, 0, none⟩) (ρ β).len (ρ β).cap]).run P w = .ok (.pointer (some ⟨b, 0, none⟩)) w := by
            have hdef : Builtin.unsafeSliceData_ ts o.type #[.slice (some ⟨b, 0, none⟩) (ρ β).len (ρ β).cap] = (if (ρ β).cap ≠ 0 then pure (.pointer (some ⟨b, 0, none⟩)) else do
              if (← viewAt b).isSome then pure (.pointer (some ⟨b, 0, none⟩)) else pure (.pointer (some ⟨← newObj (.view ⟨b, 0, none⟩ (← elemOf o.type)), 0, none⟩))) := rfl
            rw [hdef, if_pos hc]
            rfl
          simp only [builtin, Sem.run_bind, hr, Result.andThen_ok, Sem.run_pure]
      · cases hk
    · cases hk
  · cases hk

/-- ALL OPERATIONS THAT TURN NO BLOCK OF ONE's OWN. -/
theorem pureK_sound (hE : ∀ e ∈ g.E, FnOK P e) (hT : TabOk P g.T) (h : Rel P A0 w0 ρ s a w) (hk : pureK g s o K = some r) : Yld P A0 ρ s a w o K r := by
  cases ho : o.op with
  | move x => exact move_sound (g := g) h (.inl ho) (by simpa only [pureK, ho] using hk)
  | assign x => exact move_sound (g := g) h (.inr ho) (by simpa only [pureK, ho] using hk)
  | pick c x y => exact pick_sound h ho hk
  | load t x => exact load_sound hT h ho hk
  | binOp op t x y yt => exact binOp_sound hT h ho hk
  | unOp op t x => exact unOp_sound h ho hk
  | convert sr d x => exact convert_sound hT h ho hk
  | field t x f => exact field_sound hT h ho hk
  | fieldAddr t x f => exact fieldAddr_sound hT h ho hk
  | indexAddr t x ix => exact indexAddr_sound hT h ho hk
  | index t x ix => exact index_sound hT h ho hk
  | lookup t x ix ok => exact lookup_sound hT h ho hk
  | extract x n => exact extract_sound h ho hk
  | box e x => exact box_sound h ho hk
  | build t ps => exact build_sound hE hT h ho hk
  | buildSlice t n ps => exact buildSlice_sound hE hT h ho hk
  | makeFunc fn first caps => exact makeFunc_sound hE h ho hk
  | slice t x lo hi mx => exact sliceOp_sound hT h ho hk
  | nilCheck x => exact nilCheck_sound h ho hk
  | call c =>
    obtain ⟨callee, args, ts⟩ := c
    cases callee with
    | builtin b =>
      cases b with
      | len => exact len_sound hT h ho hk
      | max => exact max_sound h ho hk
      | min => exact min_sound h ho hk
      | unsafeSliceData => exact sliceData_sound h ho hk
      | _ => simp [pureK, ho] at hk
    | _ => simp [pureK, ho] at hk
  | _ => simp [pureK, ho] at hk
end
end Go.Vx
