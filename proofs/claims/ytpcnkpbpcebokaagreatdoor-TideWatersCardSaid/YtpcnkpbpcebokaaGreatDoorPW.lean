import Derived.Test.YtpcnkpbpcebokaaGreatDoorPL
import Derived.Test.YtpcnkpbpcebokaaGreatDoorBWa
import Derived.Test.YtpcnkpbpcebokaaGreatDoorPA
set_option linter.all false
set_option maxRecDepth 100000
namespace Go.Tw
open Go.Vx Go.Vx.B Go.Proofs Ieee
def y4M(a:Int):List Int→Bool
  | []=>false
  | b::l=>if b=a then y4M a l else decide (b < a)
def prg(prev beg:Int)(i:Nat):List Int→List Int
  | []=>[]
  | a::l=>if prev < a then prg a i (i+1) l else if a < prev then (if 0≤beg then [beg]else [])++prg a (-1) (i+1) l else prg a beg (i+1) l
def rfr(prev:Int)(i:Nat):List Int→List Int
  | []=>[]
  | a::l=>(if prev < a∧y4M a l=true then [(i:Int)]else [])++rfr a (i+1) l
theorem y5L(a b:Int)(l:List Int):y4M a (b::l)=if b=a then y4M a l else decide (b < a):=rfl
theorem yDW(prev beg:Int)(i:Nat)(a:Int)(l:List Int):prg prev beg i (a::l)=if prev < a then prg a i (i+1) l else if a < prev then (if 0≤beg then [beg]else [])++prg a (-1) (i+1) l else prg a beg (i+1) l:=rfl
theorem y8Z(prev:Int)(i:Nat)(a:Int)(l:List Int):rfr prev i (a::l)=(if prev < a∧y4M a l=true then [(i:Int)]else [])++rfr a (i+1) l:=rfl
theorem y91:∀ (l:List Int) (prev beg:Int) (i:Nat),prg prev beg i l=(if y4M prev l=true then (if 0≤beg then [beg]else [])else [])++rfr prev i l
  | [],prev,beg,i=>by simp[prg,rfr,y4M]
  | a::l,prev,beg,i=>by
    rw[yDW,y8Z,y5L];by_cases h1:prev < a
    · rw[if_pos h1,y91 l,if_neg (show ¬ a=prev by omega),show decide (a < prev)=false from yr (by omega)]
      by_cases h2:y4M a l=true
      · simp[h1,h2]
      · simp[h2]
    · rw[if_neg h1];by_cases h3:a < prev
      · rw[if_pos h3,y91 l,if_neg (show ¬ a=prev by omega),yb h3,if_neg (show ¬ (prev < a∧y4M a l=true) by omega)]
        simp
      · have h4:a=prev:=by omega
        subst h4;rw[if_neg h3,y91 l,if_pos rfl,if_neg (show ¬ (a < a∧y4M a l=true) by omega)]
        simp
theorem yFc:∀ (l:List Int) (prev:Int) (i:Nat),(rfr prev i l).length≤l.length
  | [],_,_=>by simp[rfr]
  | a::l,prev,i=>by
    rw[y8Z];have:=yFc l a (i+1);simp only[List.length_append,List.length_cons];split<;>simp<;>omega
structure Sgn (d:Nat) (σ:Int):Prop where
  num:Num F32 d (σ * U)
  one:σ=1∨σ=-1
theorem yFS:Sgn 1065353216 1:=⟨⟨false,8388608,-23,by decide,by decide,by rw[yAo (n:=1) (a:=23) (b:=0) (by decide) (by decide) (by decide)];simp⟩,.inl rfl⟩
theorem yGx:Sgn 3212836864 (-1):=⟨⟨true,8388608,-23,by decide,by decide,by rw[yAo (n:=1) (a:=23) (b:=0) (by decide) (by decide) (by decide)];simp⟩,.inr rfl⟩
variable {d:Nat} {σ:Int} {x y:Nat} {n k:Int}
theorem Sgn.mul(h:Sgn d σ)(hx:Six x n):Num F32 (yd .mul .f32 d x) (σ * n * P16):=by
  refine yDH (k:=.f32) h.num hx.num ?_ (yBc .f32 ?_)
  · rw[Int.mul_assoc σ U,Int.mul_comm U,Int.mul_assoc,Int.mul_assoc,Int.mul_assoc]
  · have:=hx.low;rcases h.one with h|h<;>subst h<;>omega
theorem yN2(hx:Six x n)(hy:Six y k):Num F32 (yd .sub .f32 x y) ((n - k) * P16):=by
  rw[Int.sub_mul];refine yKT (k:=.f32) hx.num hy.num ?_
  rw[← Int.sub_mul];refine yBc .f32 ?_
  have:=hx.low;have:=hy.low;omega
theorem Sgn.step(h:Sgn d σ)(hx:Six x n)(hy:Six y k):Num F32 (yd .mul .f32 d (yd .sub .f32 x y)) (σ * (n - k) * P16):=by
  refine yDH (k:=.f32) h.num (yN2 hx hy) ?_ (yBc .f32 ?_)
  · rw[Int.mul_assoc σ U,Int.mul_comm U,Int.mul_assoc,Int.mul_assoc,Int.mul_assoc]
  · have:=hx.low;have:=hy.low;rcases h.one with h|h<;>subst h<;>omega
theorem yJz:(0:Int)=0 * P16:=by rw[Int.zero_mul]
theorem Sgn.up(h:Sgn d σ)(hx:Six x n)(hy:Six y k):yY .gtr .f32 (yd .mul .f32 d (yd .sub .f32 x y)) 0=decide (σ * k < σ * n):=by
  rw[y8c (h.step hx hy) n0];apply decide_eq_decide.2;show (0:Int) < _ ↔ _
  rw[yJz,y55];rcases h.one with h|h<;>subst h<;>omega
theorem Sgn.down(h:Sgn d σ)(hx:Six x n)(hy:Six y k):yY .lss .f32 (yd .mul .f32 d (yd .sub .f32 x y)) 0=decide (σ * n < σ * k):=by
  rw[y9F (h.step hx hy) n0];apply decide_eq_decide.2;rw[yJz,y55];rcases h.one with h|h<;>subst h<;>omega
theorem Sgn.less(h:Sgn d σ)(hx:Six x n)(hy:Six y k):yY .lss .f32 (yd .mul .f32 d x) (yd .mul .f32 d y)=decide (σ * n < σ * k):=by
  rw[y9F (h.mul hx) (h.mul hy)];exact decide_eq_decide.2 y55
theorem Sgn.same(h:Sgn d σ)(hx:Six x n)(hy:Six y k):yY .eql .f32 x y=decide (σ * n=σ * k):=by
  rw[yHp hx.num hy.num];refine decide_eq_decide.2 (yQL.trans ?_);rcases h.one with h|h<;>subst h<;>omega
noncomputable def sxs(σ:Int)(l:List Nat):List Int:=l.map fun x=>σ * sx x
theorem yHy(h:Sgn d σ)(l:List Nat)(hl:∀ x∈l,lvE x=0):∀ (m i:Nat) (beg:Int) (out:List Int) (q:i - 1 < l.length),i+m=l.length→1≤i→l.length≤4096→out.length+m≤memMax →
    y1b (fun i__ s__=>yB8 l d i__ s__.1 s__.2) (fun s__=>y9q l d s__.1 s__.2) m (i:Int) (beg,out)=some (out++prg (σ * sx l[i - 1]) beg i ((sxs σ l).drop i),0,())
  | 0,i,beg,out,q,hm,_,_,_=>by
    have:(sxs σ l).drop i=[]:=List.drop_eq_nil_of_le (by unfold sxs;simp;omega)
    rw[this,y8N];simp[prg,y9q]
  | m+1,i,beg,out,q,hm,hi,h96,hb=>by
    have hi2:i < l.length:=by omega
    have hd:(sxs σ l).drop i=σ * sx l[i]::(sxs σ l).drop (i+1):=by
      have hs:i < (sxs σ l).length:=by unfold sxs;simpa using hi2
      rw[← List.getElem_cons_drop (h:=hs)];simp[sxs]
    have hx:=yAz (hl l[i] (List.getElem_mem hi2));have hy:=yAz (hl l[i - 1] (List.getElem_mem q));have hw:IntKind.i64.wrap ((i:Int) - 1)=((i - 1:Nat):Int):=by rw[yLU (by omega) (by omega)];omega
    have ih:=fun beg out hb=>yHy h l hl m (i+1) beg out (by omega) (by omega) (by omega) h96 hb
    simp only[Nat.add_sub_cancel]at ih;rw[y7x];unfold yB8;simp only;rw[y3b,hw,y3b,List.getElem?_eq_getElem hi2,List.getElem?_eq_getElem q];simp only[Option.bind_some];rw[h.up hx hy,h.down hx hy,hd];rw[yDW];by_cases h1:σ * sx l[i - 1] < σ * sx l[i]
    · rw[bifT (yb h1),if_pos h1];simp only[Option.bind_some];exact ih (i:Int) out (by omega)
    · rw[bifF (yr h1),if_neg h1];by_cases h2:σ * sx l[i] < σ * sx l[i - 1]
      · rw[bifT (yb h2),if_pos h2];by_cases h3:0≤beg
        · rw[bifT (yb (show beg ≥ 0 from h3)),bifT (yb (by omega)),if_pos h3]
          simp only[Option.bind_some];rw[← List.append_assoc];exact ih (-1) (out++[beg]) (by simp;omega)
        · rw[bifF (yr (show ¬ beg ≥ 0 from h3)),if_neg h3]
          simp only[Option.bind_some,List.nil_append];exact ih (-1) out (by omega)
      · rw[bifF (yr h2),if_neg h2];simp only[Option.bind_some];exact ih beg out (by omega)
theorem yHO(h:Sgn d σ)(l:List Nat)(hl:∀ x∈l,lvE x=0)(h96:l.length≤4096)(i:Nat)(hi:1≤i)(hi2:i < l.length)(q:i - 1 < l.length)(out:List Int)(ho:out.length+1≤memMax):∀ (r k m:Nat),k+r=l.length→r < m →
    y33 (fun s__=>y5k l d (i:Int) out s__) m (k:Int)=some (.inr (out++if σ * sx l[i - 1] < σ * sx l[i]∧y4M (σ * sx l[i]) ((sxs σ l).drop k)=true then [(i:Int)]else []))
  | 0,k,m,hk,hm=>by
    obtain ⟨m,rfl⟩:∃ j,m=j+1:=⟨m - 1,by omega⟩
    have:(sxs σ l).drop k=[]:=List.drop_eq_nil_of_le (by unfold sxs;simp;omega)
    rw[this];unfold y33 y5k y4H;rw[bifF (yr (by omega)),bifF (yr (by omega))]
    simp[y4M]
  | r+1,k,m,hk,hm=>by
    obtain ⟨m,rfl⟩:∃ j,m=j+1:=⟨m - 1,by omega⟩
    have hk2:k < l.length:=by omega
    have hd:(sxs σ l).drop k=σ * sx l[k]::(sxs σ l).drop (k+1):=by
      have hs:k < (sxs σ l).length:=by unfold sxs;simpa using hk2
      rw[← List.getElem_cons_drop (h:=hs)];simp[sxs]
    have hx:=yAz (hl l[i] (List.getElem_mem hi2));have hy:=yAz (hl l[i - 1] (List.getElem_mem q));have hz:=yAz (hl l[k] (List.getElem_mem hk2));have hw:IntKind.i64.wrap ((i:Int) - 1)=((i - 1:Nat):Int):=by rw[yLU (by omega) (by omega)];omega
    rw[hd,y5L];show Option.bind (y5k l d (i:Int) out (k:Int)) _=_
    have e1:y5k l d (i:Int) out (k:Int)=(bif decide (σ * sx l[k]=σ * sx l[i])then some (Sum.inr ((k+1:Nat):Int))else Option.map Sum.inl (y4H l d (i:Int) (k:Int) out)):=by
      unfold y5k;rw[bifT (yb (by omega)),y3b,List.getElem?_eq_getElem hk2,y3b,List.getElem?_eq_getElem hi2]
      simp only[Option.bind_some];rw[h.same hz hx,yLU (by omega) (by omega)]
      rfl
    rw[e1];by_cases h1:σ * sx l[k]=σ * sx l[i]
    · rw[bifT (yb h1),if_pos h1];exact yHO h l hl h96 i hi hi2 q out ho r (k+1) m (by omega) (by omega)
    · rw[bifF (yr h1),if_neg h1];have e2:y4H l d (i:Int) (k:Int) out=some (Sum.inr (out++if σ * sx l[i - 1] < σ * sx l[i]∧decide (σ * sx l[k] < σ * sx l[i])=true then [(i:Int)]else [])):=by
        unfold y4H;rw[bifT (yb (by omega)),hw,y3b,List.getElem?_eq_getElem q,y3b,List.getElem?_eq_getElem hi2]
        simp only[Option.bind_some];rw[h.less hy hx];by_cases h2:σ * sx l[i - 1] < σ * sx l[i]
        · rw[bifT (yb h2),y3b,List.getElem?_eq_getElem hk2];simp only[Option.bind_some];rw[h.less hz hx];by_cases h3:σ * sx l[k] < σ * sx l[i]
          · rw[bifT (yb h3),bifT (yb ho),if_pos ⟨h2,yb h3⟩]
          · rw[bifF (yr h3),if_neg (fun hh=>h3 (of_decide_eq_true hh.2))]
            simp
        · rw[bifF (yr h2),if_neg (fun hh=>h2 hh.1)]
          simp
      rw[e2];rfl
theorem yGc(h:Sgn d σ)(l:List Nat)(hl:∀ x∈l,lvE x=0)(h96:l.length≤4096):∀ (m i:Nat) (out:List Int) (q:i - 1 < l.length),i+m=l.length→1≤i→out.length+m≤memMax →
    y1b (fun i__ s__=>yAh l d i__ s__) (fun s__=>yB7 l d s__) m (i:Int) out=some (out++rfr (σ * sx l[i - 1]) i ((sxs σ l).drop i),())
  | 0,i,out,q,hm,_,_=>by
    have:(sxs σ l).drop i=[]:=List.drop_eq_nil_of_le (by unfold sxs;simp;omega)
    rw[this,y8N];simp[rfr,yB7]
  | m+1,i,out,q,hm,hi,hb=>by
    have hi2:i < l.length:=by omega
    have hd:(sxs σ l).drop i=σ * sx l[i]::(sxs σ l).drop (i+1):=by
      have hs:i < (sxs σ l).length:=by unfold sxs;simpa using hi2
      rw[← List.getElem_cons_drop (h:=hs)];simp[sxs]
    rw[y7x];unfold yAh;rw[yHO h l hl h96 i hi hi2 q out (by omega) (l.length - i) i wMax (by omega) (by unfold wMax;omega)]
    simp only[Option.bind_some];have hf:y4M (σ * sx l[i]) ((sxs σ l).drop i)=y4M (σ * sx l[i]) ((sxs σ l).drop (i+1)):=by
      rw[hd,y5L,if_pos rfl]
    rw[hf,hd,y8Z];have ih:=yGc h l hl h96 m (i+1) (out++if σ * sx l[i - 1] < σ * sx l[i]∧y4M (σ * sx l[i]) ((sxs σ l).drop (i+1))=true then [(i:Int)]else []) (by omega) (by omega) (by omega) (by
      split<;>simp<;>omega)
    simp only[Nat.add_sub_cancel]at ih;rw[← List.append_assoc];exact ih
noncomputable def wat(σ:Int):List Nat→List Int
  | []=>[]
  | x::l=>rfr (σ * sx x) 1 (sxs σ l)
theorem yGo(h:Sgn d σ)(l:List Nat)(hl:∀ x∈l,lvE x=0)(h96:l.length≤4096):yDn l d=some (wat σ l,()):=by
  have hmem:memMax=68719476736:=rfl;unfold yDn;rw[bifT (yb (by omega))]
  cases l with
  | nil=>rfl
  | cons x l =>
    have:=yGc h (x::l) hl h96 l.length 1 [] (by simp) (by simp;omega) (by decide) (by simp at h96 ⊢;omega)
    simp only[List.length_cons]at h96 ⊢;rw[show (((l.length+1:Nat):Int) - 1).toNat=l.length by omega]
    refine this.trans ?_
    rfl
def lvEs(l:List Nat):Int:=if 4096 < l.length then 5 else y3B (l.map lvE)
theorem yIv(l:List Nat)(hl:l.length≤memMax):zI_M l (fun x=>zW_M x.1)=some (l.map lvE,()):=by
  unfold zI_M;rw[bifT (yb (y94 hl)),y9v lvE l 0 [] (by simpa using hl) fun i e s he hs=>by
    unfold yIS;show Option.bind (zW_M e) _=_
    rw[yFy];simp only[Option.bind_some];rw[bifT (yb hs)]]
  rfl
theorem yFx{l:List Nat}(h:lvEs l=0):l.length≤4096∧∀ x∈l,lvE x=0:=by
  unfold lvEs at h;by_cases h1:4096 < l.length
  · rw[if_pos h1]at h;cases h
  · rw[if_neg h1]at h;exact ⟨by omega,fun x hx=>yCS h _ (List.mem_map.2 ⟨x,hx,rfl⟩)⟩
theorem yHB(h:Sgn d σ)(l:List Nat):yA3 l d=some (if lvEs l=0 then (wat σ l,0,())else ([],lvEs l,())):=by
  have hmem:memMax=68719476736:=rfl;unfold yA3;by_cases h1:4096 < l.length
  · rw[bifT (yb (by omega))]
    unfold lvEs;rw[if_pos h1];rfl
  · rw[bifF (yr (by omega)),yIv l (by omega)]
    simp only[Option.bind_some];rw[yI1 _ (by simp[lenMax];omega)]
    simp only[Option.bind_some];have e:lvEs l=y3B (l.map lvE):=by unfold lvEs;rw[if_neg h1]
    rw[← e];by_cases h2:lvEs l=0
    · rw[if_pos h2,h2,bifF (by rfl),bifT (yb (by omega))]
      obtain ⟨h3,h4⟩:=yFx h2;cases l with
      | nil=>rfl
      | cons x l =>
        have:=yHy h (x::l) h4 l.length 1 (-1) [] (by simp) (by simp;omega) (by decide) h3 (by simp at h3 ⊢;omega)
        simp only[List.length_cons]at h3 ⊢;rw[show (((l.length+1:Nat):Int) - 1).toNat=l.length by omega]
        refine this.trans ?_
        rw[y91];simp only[List.nil_append,show ¬ (0:Int)≤-1 by decide,if_false,ite_self]
        rfl
    · rw[if_neg h2,bifT (by simpa using h2)]
theorem yKw(l:List Nat):zU_M l=some (lvEs l,()):=by
  unfold zU_M lvEs;by_cases h1:4096 < l.length
  · rw[bifT (yb (by omega)),if_pos h1]
  · rw[bifF (yr (by omega)),if_neg h1,bifT (yb (by unfold lenMax;omega))]
    rw[y5M (fun x=>if lvE x != 0 then some (lvE x,())else none) l 0 fun i e he=>by
      unfold yJ0;rw[yHA];simp only[Option.bind_some];cases (lvE e != 0)<;>rfl]
    have:∀ l:List Nat,l.findSome? (fun x=>if lvE x != 0 then some (lvE x,())else none)=if y3B (l.map lvE)=0 then none else some (y3B (l.map lvE),()):=by
      intro l;induction l with
      | nil=>rfl
      | cons x l ih =>
        rw[List.findSome?_cons,List.map_cons,y6n];by_cases h:lvE x=0
        · rw[show (lvE x != 0)=false by simp[h],h,yH3]
          exact ih
        · rw[show (lvE x != 0)=true by simp[h],yEU h,if_neg h]
          rfl
    rw[this];by_cases h2:y3B (l.map lvE)=0
    · rw[if_pos h2,h2];rfl
    · rw[if_neg h2]
theorem y2z(l:List Int)(h:l.length < lenMax):zk_M l l=some (true,()):=by
  unfold zk_M;rw[bifF (show ((l.length:Int) != (l.length:Int))=false by simp),bifT (yb h),y7v l (fun p x r e=>by
    unfold yIm;rw[e,yM1 p x r _ rfl];simp only[Option.bind_some];rw[bifF (by simp)]) l [] 0 rfl rfl]
  rfl
theorem yHz(σ:Int)(l:List Nat):(wat σ l).length≤l.length:=by
  cases l with
  | nil=>simp[wat]
  | cons x l =>
    have:=yFc (sxs σ l) (σ * sx x) 1;unfold wat;simp[sxs]at this ⊢;omega
theorem yI4(l:List Nat):zZ_M l=some (true,()):=by
  have hmem:memMax=68719476736:=rfl;have hlm:lenMax=9223372036854775808:=rfl;unfold zZ_M zZ_m;rw[yDp];simp only[Option.bind_some,Bool.not_true,cond_false];have main:l.length≤4097→y5x 0 l=some (true,()):=fun hl=>by
    unfold y5x;unfold yJB yI5 yIP yJX;rw[bifT (yb (by omega)),yHB yFS,yHB yGx,yKw]
    simp only[Option.bind_some];rw[bifT (yb (by omega))]
    by_cases h:lvEs l=0
    · obtain ⟨h1,h2⟩:=yFx h;have w1:=yHz 1 l;have w2:=yHz (-1) l;simp only[if_pos h];rw[bifT (by rw[h];rfl),yGo yFS l h2 h1,yGo yGx l h2 h1]
      simp only[Option.bind_some];unfold y66;rw[bifT (by rw[h];rfl),y2z (wat 1 l) (by omega)]
      simp only[Option.bind_some,cond_true];rw[bifT (by rw[h];rfl),y2z (wat (-1) l) (by omega)]
      rfl
    · simp only[if_neg h];rw[bifF (by simpa using h)]
      unfold y66;simp only[y2z [] (by simp[lenMax]),beq_self_eq_true,cond_true,Option.bind_some]
  by_cases h1:(l.length:Int) > 32
  · rw[bifT (yb h1)];by_cases h2:l.length=4097
    · rw[bifF (by rw[h2];rfl)]
      exact main (by omega)
    · rw[bifT (by simp;omega)]
  · rw[bifF (yr h1)];exact main (by omega)
end Go.Tw
