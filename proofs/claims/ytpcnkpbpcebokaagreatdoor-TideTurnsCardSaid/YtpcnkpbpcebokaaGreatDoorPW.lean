import Derived.Test.YtpcnkpbpcebokaaGreatDoorPL
import Derived.Test.YtpcnkpbpcebokaaGreatDoorBWa
import Derived.Test.YtpcnkpbpcebokaaGreatDoorPA
set_option linter.all false
set_option maxRecDepth 100000
namespace Go.Tw
open Go.Vx Go.Vx.B Go.Proofs Ieee
def y28(a:Int):List Int→Bool
  | []=>false
  | b::l=>if b=a then y28 a l else decide (b < a)
def prg(prev beg:Int)(i:Nat):List Int→List Int
  | []=>[]
  | a::l=>if prev < a then prg a i (i+1) l else if a < prev then (if 0≤beg then [beg]else [])++prg a (-1) (i+1) l else prg a beg (i+1) l
def rfr(prev:Int)(i:Nat):List Int→List Int
  | []=>[]
  | a::l=>(if prev < a∧y28 a l=true then [(i:Int)]else [])++rfr a (i+1) l
theorem y0K(a b:Int)(l:List Int):y28 a (b::l)=if b=a then y28 a l else decide (b < a):=rfl
theorem yDe(prev beg:Int)(i:Nat)(a:Int)(l:List Int):prg prev beg i (a::l)=if prev < a then prg a i (i+1) l else if a < prev then (if 0≤beg then [beg]else [])++prg a (-1) (i+1) l else prg a beg (i+1) l:=rfl
theorem y0G(prev:Int)(i:Nat)(a:Int)(l:List Int):rfr prev i (a::l)=(if prev < a∧y28 a l=true then [(i:Int)]else [])++rfr a (i+1) l:=rfl
theorem y9P:∀ (l:List Int) (prev beg:Int) (i:Nat),prg prev beg i l=(if y28 prev l=true then (if 0≤beg then [beg]else [])else [])++rfr prev i l
  | [],prev,beg,i=>by simp[prg,rfr,y28]
  | a::l,prev,beg,i=>by
    rw[yDe,y0G,y0K];by_cases h1:prev < a
    · rw[if_pos h1,y9P l,if_neg (show ¬ a=prev by omega),show decide (a < prev)=false from yp (by omega)]
      by_cases h2:y28 a l=true
      · simp[h1,h2]
      · simp[h2]
    · rw[if_neg h1];by_cases h3:a < prev
      · rw[if_pos h3,y9P l,if_neg (show ¬ a=prev by omega),yU h3,if_neg (show ¬ (prev < a∧y28 a l=true) by omega)]
        simp
      · have h4:a=prev:=by omega
        subst h4;rw[if_neg h3,y9P l,if_pos rfl,if_neg (show ¬ (a < a∧y28 a l=true) by omega)]
        simp
theorem yIf:∀ (l:List Int) (prev:Int) (i:Nat),(rfr prev i l).length≤l.length
  | [],_,_=>by simp[rfr]
  | a::l,prev,i=>by
    rw[y0G];have:=yIf l a (i+1);simp only[List.length_append,List.length_cons];split<;>simp<;>omega
structure Sgn (d:Nat) (σ:Int):Prop where
  num:Num F32 d (σ * U)
  one:σ=1∨σ=-1
theorem yGS:Sgn 1065353216 1:=⟨⟨false,8388608,-23,by decide,by decide,by rw[yAj (n:=1) (a:=23) (b:=0) (by decide) (by decide) (by decide)];simp⟩,.inl rfl⟩
theorem yHD:Sgn 3212836864 (-1):=⟨⟨true,8388608,-23,by decide,by decide,by rw[yAj (n:=1) (a:=23) (b:=0) (by decide) (by decide) (by decide)];simp⟩,.inr rfl⟩
variable {d:Nat} {σ:Int} {x y:Nat} {n k:Int}
theorem Sgn.mul(h:Sgn d σ)(hx:Six x n):Num F32 (yh .mul .f32 d x) (σ * n * P16):=by
  refine yE3 (k:=.f32) h.num hx.num ?_ (yCE .f32 ?_)
  · rw[Int.mul_assoc σ U,Int.mul_comm U,Int.mul_assoc,Int.mul_assoc,Int.mul_assoc]
  · have:=hx.low;rcases h.one with h|h<;>subst h<;>omega
theorem yNC(hx:Six x n)(hy:Six y k):Num F32 (yh .sub .f32 x y) ((n - k) * P16):=by
  rw[Int.sub_mul];refine yKN (k:=.f32) hx.num hy.num ?_
  rw[← Int.sub_mul];refine yCE .f32 ?_
  have:=hx.low;have:=hy.low;omega
theorem Sgn.step(h:Sgn d σ)(hx:Six x n)(hy:Six y k):Num F32 (yh .mul .f32 d (yh .sub .f32 x y)) (σ * (n - k) * P16):=by
  refine yE3 (k:=.f32) h.num (yNC hx hy) ?_ (yCE .f32 ?_)
  · rw[Int.mul_assoc σ U,Int.mul_comm U,Int.mul_assoc,Int.mul_assoc,Int.mul_assoc]
  · have:=hx.low;have:=hy.low;rcases h.one with h|h<;>subst h<;>omega
theorem yKz:(0:Int)=0 * P16:=by rw[Int.zero_mul]
theorem Sgn.up(h:Sgn d σ)(hx:Six x n)(hy:Six y k):yR .gtr .f32 (yh .mul .f32 d (yh .sub .f32 x y)) 0=decide (σ * k < σ * n):=by
  rw[y6Z (h.step hx hy) n0];apply decide_eq_decide.2;show (0:Int) < _ ↔ _
  rw[yKz,y3z];rcases h.one with h|h<;>subst h<;>omega
theorem Sgn.down(h:Sgn d σ)(hx:Six x n)(hy:Six y k):yR .lss .f32 (yh .mul .f32 d (yh .sub .f32 x y)) 0=decide (σ * n < σ * k):=by
  rw[yC1 (h.step hx hy) n0];apply decide_eq_decide.2;rw[yKz,y3z];rcases h.one with h|h<;>subst h<;>omega
theorem Sgn.same(h:Sgn d σ)(hx:Six x n)(hy:Six y k):yR .eql .f32 x y=decide (σ * n=σ * k):=by
  rw[yHP hx.num hy.num];refine decide_eq_decide.2 (yKW.trans ?_);rcases h.one with h|h<;>subst h<;>omega
noncomputable def sxs(σ:Int)(l:List Nat):List Int:=l.map fun x=>σ * sx x
theorem yIF(h:Sgn d σ)(l:List Nat)(hl:∀ x∈l,lvE x=0):∀ (m i:Nat) (beg:Int) (out:List Int) (q:i - 1 < l.length),i+m=l.length→1≤i→l.length≤4096→out.length+m≤memMax →
    y1g (fun i__ s__=>yB1 l d i__ s__.1 s__.2) (fun s__=>yBI l d s__.1 s__.2) m (i:Int) (beg,out)=some (out++prg (σ * sx l[i - 1]) beg i ((sxs σ l).drop i),0,())
  | 0,i,beg,out,q,hm,_,_,_=>by
    have:(sxs σ l).drop i=[]:=List.drop_eq_nil_of_le (by unfold sxs;simp;omega)
    rw[this,yEa];simp[prg,yBI]
  | m+1,i,beg,out,q,hm,hi,h96,hb=>by
    have hi2:i < l.length:=by omega
    have hd:(sxs σ l).drop i=σ * sx l[i]::(sxs σ l).drop (i+1):=by
      have hs:i < (sxs σ l).length:=by unfold sxs;simpa using hi2
      rw[← List.getElem_cons_drop (h:=hs)];simp[sxs]
    have hx:=y5k (hl l[i] (List.getElem_mem hi2));have hy:=y5k (hl l[i - 1] (List.getElem_mem q));have hw:IntKind.i64.wrap ((i:Int) - 1)=((i - 1:Nat):Int):=by rw[yEc (by omega) (by omega)];omega
    have ih:=fun beg out hb=>yIF h l hl m (i+1) beg out (by omega) (by omega) (by omega) h96 hb
    simp only[Nat.add_sub_cancel]at ih;rw[yFR];unfold yB1;simp only;rw[y5J,hw,y5J,List.getElem?_eq_getElem hi2,List.getElem?_eq_getElem q];simp only[Option.bind_some];rw[h.up hx hy,h.down hx hy,hd];rw[yDe];by_cases h1:σ * sx l[i - 1] < σ * sx l[i]
    · rw[bifT (yU h1),if_pos h1];simp only[Option.bind_some];exact ih (i:Int) out (by omega)
    · rw[bifF (yp h1),if_neg h1];by_cases h2:σ * sx l[i] < σ * sx l[i - 1]
      · rw[bifT (yU h2),if_pos h2];by_cases h3:0≤beg
        · rw[bifT (yU (show beg ≥ 0 from h3)),bifT (yU (by omega)),if_pos h3]
          simp only[Option.bind_some];rw[← List.append_assoc];exact ih (-1) (out++[beg]) (by simp;omega)
        · rw[bifF (yp (show ¬ beg ≥ 0 from h3)),if_neg h3]
          simp only[Option.bind_some,List.nil_append];exact ih (-1) out (by omega)
      · rw[bifF (yp h2),if_neg h2];simp only[Option.bind_some];exact ih beg out (by omega)
noncomputable def wat(σ:Int):List Nat→List Int
  | []=>[]
  | x::l=>rfr (σ * sx x) 1 (sxs σ l)
def lvEs(l:List Nat):Int:=if 4096 < l.length then 5 else y2E (l.map lvE)
theorem yJl(l:List Nat)(hl:l.length≤memMax):zI_M l (fun x=>zW_M x.1)=some (l.map lvE,()):=by
  unfold zI_M;rw[bifT (yU (y8p hl)),yB3 lvE l 0 [] (by simpa using hl) fun i e s he hs=>by
    unfold yJG;show Option.bind (zW_M e) _=_
    rw[yGg];simp only[Option.bind_some];rw[bifT (yU hs)]]
  rfl
theorem yFm{l:List Nat}(h:lvEs l=0):l.length≤4096∧∀ x∈l,lvE x=0:=by
  unfold lvEs at h;by_cases h1:4096 < l.length
  · rw[if_pos h1]at h;cases h
  · rw[if_neg h1]at h;exact ⟨by omega,fun x hx=>yBt h _ (List.mem_map.2 ⟨x,hx,rfl⟩)⟩
theorem y95(h:Sgn d σ)(l:List Nat):yAH l d=some (if lvEs l=0 then (wat σ l,0,())else ([],lvEs l,())):=by
  have hmem:memMax=68719476736:=rfl;unfold yAH;by_cases h1:4096 < l.length
  · rw[bifT (yU (by omega))]
    unfold lvEs;rw[if_pos h1];rfl
  · rw[bifF (yp (by omega)),yJl l (by omega)]
    simp only[Option.bind_some];rw[yGx _ (by simp[lenMax];omega)]
    simp only[Option.bind_some];have e:lvEs l=y2E (l.map lvE):=by unfold lvEs;rw[if_neg h1]
    rw[← e];by_cases h2:lvEs l=0
    · rw[if_pos h2,h2,bifF (by rfl),bifT (yU (by omega))]
      obtain ⟨h3,h4⟩:=yFm h2;cases l with
      | nil=>rfl
      | cons x l =>
        have:=yIF h (x::l) h4 l.length 1 (-1) [] (by simp) (by simp;omega) (by decide) h3 (by simp at h3 ⊢;omega)
        simp only[List.length_cons]at h3 ⊢;rw[show (((l.length+1:Nat):Int) - 1).toNat=l.length by omega]
        refine this.trans ?_
        rw[y9P];simp only[List.nil_append,show ¬ (0:Int)≤-1 by decide,if_false,ite_self]
        rfl
    · rw[if_neg h2,bifT (by simpa using h2)]
theorem yLm(l:List Nat):zU_M l=some (lvEs l,()):=by
  unfold zU_M lvEs;by_cases h1:4096 < l.length
  · rw[bifT (yU (by omega)),if_pos h1]
  · rw[bifF (yp (by omega)),if_neg h1,bifT (yU (by unfold lenMax;omega))]
    rw[y5F (fun x=>if lvE x != 0 then some (lvE x,())else none) l 0 fun i e he=>by
      unfold yJv;rw[yHU];simp only[Option.bind_some];cases (lvE e != 0)<;>rfl]
    have:∀ l:List Nat,l.findSome? (fun x=>if lvE x != 0 then some (lvE x,())else none)=if y2E (l.map lvE)=0 then none else some (y2E (l.map lvE),()):=by
      intro l;induction l with
      | nil=>rfl
      | cons x l ih =>
        rw[List.findSome?_cons,List.map_cons,y7K];by_cases h:lvE x=0
        · rw[show (lvE x != 0)=false by simp[h],h,yI6]
          exact ih
        · rw[show (lvE x != 0)=true by simp[h],yEZ h,if_neg h]
          rfl
    rw[this];by_cases h2:y2E (l.map lvE)=0
    · rw[if_pos h2,h2];rfl
    · rw[if_neg h2]
theorem y9h(l:List Int)(h:l.length < lenMax):zl_M l l=some (true,()):=by
  unfold zl_M;rw[bifF (show ((l.length:Int) != (l.length:Int))=false by simp),bifT (yU h),y5K l (fun p x r e=>by
    unfold yIq;rw[e,yFs p x r _ rfl];simp only[Option.bind_some];rw[bifF (by simp)]) l [] 0 rfl rfl]
  rfl
theorem y8e(σ:Int)(l:List Nat):(wat σ l).length≤l.length:=by
  cases l with
  | nil=>simp[wat]
  | cons x l =>
    have:=yIf (sxs σ l) (σ * sx x) 1;unfold wat;simp[sxs]at this ⊢;omega
end Go.Tw
