import Derived.Test.YtpcnkpbpcebokaaGreatDoorVC
import Derived.RangeFuncLeaves
import Derived.RangeFuncRecord
import Derived.OrdersIn
import Derived.LoopNIn
import Derived.Scope
import Derived.RangeFuncNested
import Derived.Deep.Slices
import Derived.OpenShut
import Derived.ReadAgain
import Derived.ChangeBears
import Derived.Deep.DeepHandedRow
import Derived.WideKeyArgs
import Derived.ChangeSame
import Derived.ChangeVars
import Derived.RowKit
import Derived.JoinedCond
set_option linter.all false
open List (all_eq_true any_cons any_eq_false append_assoc append_nil drop_left ext_getElem? getD_eq_getElem?_getD getElem?_append getElem?_append_left getElem?_append_right getElem?_cons_zero getElem?_drop getElem?_eq_getElem getElem?_eq_none getElem?_map getElem?_replicate getElem?_set getElem?_set_ne getElem?_set_self getElem?_take isEmpty_iff length_append length_drop length_set length_take map_cons mem_append mem_cons mem_cons_of_mem mem_cons_self mem_iff_getElem? mem_map mem_of_getElem? mem_range nil_append nodup_cons nodup_nil take_left)
open Option (bind_assoc bind_eq_some_iff bind_some map_eq_some_iff map_none map_some mem_toList)
open Nat (add_assoc add_comm add_mul le_refl lt_or_ge min_eq_left mul_le_mul_right succ_mul zero_add)
open Bool (and_eq_true false_eq_true not_eq_true not_eq_true' or_eq_true)
section
namespace Go.Vx
open Go.RowKit
variable [GT]
section
variable {P:Program} {A0:Nat->Prop} {w0:Base} {ρ:Places} {s:St} {a:Act} {w w':World} {g:G} {R:Type} {K:St->Option R} {r:R} {o:Oper}
theorem y0t{t t' ty e:TypeId}{i:TypeInfo}(ht:P.underlying t=some (.slice e))(hi:P.info? e=some i){p q:Option Addr}{n c m c':Nat}(hn:min m n=0) :
  (Builtin.copy_ #[t,t'] ty #[.slice p n c,.slice q m c']).run P w=.ok (.int .i64 0) w:=by
 cases p<;>cases q<;>simp[Builtin.copy_,run_underlying ht,sizeOf,typeInfo,hi,Builtin.lenOf,Builtin.firstCells,hn,storeCells,loadCells,loadCellsFrom,goInt]
theorem yCb{t t' ty e:TypeId}{i:TypeInfo}(ht:P.underlying t=some (.slice e))(hi:P.info? e=some i){b n c m c' k:Nat}{ad:Addr}{cs:List Value}{cur:Array Value}{e':TypeId}
  (hk:min m n=k) (hl:cs.length=k * i.size) (hc:∀ j v,cs[j]?=some v->w.cell? (ad.add j)=some v) (h1:∀ v∈cs,v.oneCell'=true) (hg:w.heap[b]?=some (.cells cur e' (0,0))) (hfit:cs.length<=cur.size) :
  (Builtin.copy_ #[t,t'] ty #[.slice (some ⟨b,0,none⟩) n c,.slice (some ad) m c']).run P w=.ok (.int .i64 (k:Int)) (w.setRow b (cs++cur.toList.drop cs.length).toArray):=by
 have hf:=run_firstCells_some (P:=P) w i.size k ad m c' cs hl hc;have hst:=run_storeCells_at P b 0 e' cs 0 cur w hg (by simpa using hfit) h1
 simp only[zero_add,List.take_zero,nil_append]at hst;simp[Builtin.copy_,run_underlying ht,sizeOf,typeInfo,hi,Builtin.lenOf,hk,hf,hst,goInt]
theorem yII{t t' ty e:TypeId}{i:TypeInfo}(ht:P.underlying t=some (.slice e))(hi:P.info? e=some i){b off n c m c' k:Nat}{ad:Addr}{cs:List Value}{cur:Array Value}{e':TypeId}
  (hk:min m n=k) (hl:cs.length=k * i.size) (hc:∀ j v,cs[j]?=some v->w.cell? (ad.add j)=some v) (h1:∀ v∈cs,v.oneCell'=true) (hg:w.heap[b]?=some (.cells cur e' (0,0))) (hfit:off+cs.length<=cur.size) :
  (Builtin.copy_ #[t,t'] ty #[.slice (some ⟨b,off,none⟩) n c,.slice (some ad) m c']).run P w=.ok (.int .i64 (k:Int)) (w.setRow b (cur.toList.take off++cs++cur.toList.drop (off+cs.length)).toArray):=by
 have hf:=run_firstCells_some (P:=P) w i.size k ad m c' cs hl hc;have hst:=run_storeCells_at P b off e' cs 0 cur w hg (by simpa using hfit) h1
 simp only[Nat.add_zero]at hst;simp[Builtin.copy_,run_underlying ht,sizeOf,typeInfo,hi,Builtin.lenOf,hk,hf,hst,goInt]
theorem y9P(hT:yw P g.T)(h:Rel P A0 w0 ρ s a w){args:Array Operand}{ts:Array TypeId}(ho:o.op=.call { callee:=.builtin .copy,args,argTypes:=ts }){b x:Operand}{t t':TypeId}(hargs:args.toList=[b,x])(hts:ts.toList=[t,t'])
  {i:TyI} {β n:Nat} (hi:yV g.T t=some i) (hb:y9 g.T 0 s b=.nO β n) (hk:y9m s o i β n (y9 g.T t' s x) K=some r):Eff P A0 w0 a w o K r:=by
 obtain ⟨nq,hnq,hbv⟩:∃ q,(ρ β).ns[n]?=some q/\a.eval b=.slice (q.1.map λ b=>⟨b,0,none⟩) q.2.1 q.2.2:=by
  have:=(y3 (T:=g.T) h 0 b).1;rw[hb]at this;exact this
 unfold y9m at hk;split at hk;rotate_left
 ·cases hk
 rename_i e u q e' v xs hch;obtain ⟨hty,hk1⟩:=yG hk;obtain ⟨y,hy,hk2⟩:=bind_eq_some_iff.1 hk1;obtain ⟨zs,hzs,hk3⟩:=bind_eq_some_iff.1 hk2;obtain ⟨ys,hys,hk4⟩:=bind_eq_some_iff.1 hk3;obtain ⟨y',hy',hk5⟩:=bind_eq_some_iff.1 hk4;clear hk hk1 hk2 hk3 hk4;cases hl:decide (List.length ys=List.length (show List v.den from zs))with
 |false=>rw[hl]at hk5;cases hk5
 |true =>
 rw[hl]at hk5;simp only[cond_true]at hk5;have hl:List.length ys=List.length (show List v.den from zs):=of_decide_eq_true hl
 have hc:=getD_some hch;obtain ⟨hu,hF,hs0⟩:=yS (hT.shape hi) (.inl hty);obtain ⟨inf,d,f1,f2,f3,f4,f5,f6⟩:=hF.ex;obtain ⟨l,h1,h2⟩:=y01 (y3 (T:=g.T) h t' x).1 hys;have hwhere:=yFG hargs;have hts':=yFN hts;subst hwhere hts';have hrun:(execOp a.eval o).run P w=Result.andThen ((Builtin.copy_ #[t,t'] o.type #[a.eval b,a.eval x]).run P w) λ v w'=>.ok (.value v) w':=by
  simp[execOp,ho,resolve,invoke,builtin]
 have hav:a.eval x=(Ty.slice v).wrap l:=h2;have hst:=(h.cH β _ hc).1;obtain ⟨bo,nq2,lrow,hbo,hnq2,_,hN0⟩:=y62 hst hy;rw[hnq]at hnq2;cases hnq2;have hn:=(List.getElem?_eq_some_iff.1 hy).1;obtain ⟨zs',hzs',_,_,hzl,hsr⟩:=hN0.comp;rw[hzs]at hzs';cases hzs';have hyl:nq.2.1=List.length ys:=hzl.trans hl.symm;rcases Nat.eq_zero_or_pos (List.length ys)with hz0|hz0
 ·
  have e1:ys=[]:=List.eq_nil_of_length_eq_zero hz0;have e2:zs=([]:List v.den):=List.eq_nil_of_length_eq_zero (hl.symm.trans hz0);have e3:y'=y:=by
   have h3:=yIK _ _ _ _ _ hzs;rw[e2]at h3;rw[e1,h3]at hy';cases hy';rfl
  have hset:s.cH.set β (some (Chunk.nst e u q e' v (xs.set n y')))=s.cH:=by
   have hxs:xs.set n y'=xs:=by
    rw[e3];apply ext_getElem?;intro j;by_cases hj:n=j
    ·subst hj;rw[getElem?_set_self hn,hy]
    ·rw[getElem?_set_ne hj]
   rw[hxs];apply ext_getElem?;intro j;by_cases hj:β=j
   ·subst hj;rw[getElem?_set_self (List.getElem?_eq_some_iff.1 hc).1,hc]
   ·rw[getElem?_set_ne hj]
  rw[hset,hz0]at hk5;have hr:(Builtin.copy_ #[t,t'] o.type #[a.eval b,a.eval x]).run P w=.ok (.int .i64 0) w:=by
   rcases y0A h1 with ⟨_,p,c,rfl⟩|⟨b1,off,c,m,rfl,_,_⟩
   ·rw[hbv,hav];exact y0t hu f1 (by simp)
   ·rw[hbv,hav];exact y0t hu f1 (by omega)
  exact Eff.val (by rw[hrun,hr];rfl) (h.put o.dst (sv:=.val (.int .i64) ((0:Nat):Int)) trivial (y24 .i64 0)) hk5
 rcases y0A h1 with ⟨e1,p,c,rfl⟩|⟨b1,off,c,m,rfl,hm1,hm2⟩
 ·rw[e1]at hz0;simp at hz0
 obtain ⟨z0,hz⟩:∃ z0,(show List v.den from zs)[0]?=some z0:=⟨_,getElem?_eq_getElem (by omega)⟩
 obtain ⟨b2,hb2,vs,hg,hle,hm,hvs,_,_⟩:=hsr.at hz;have hml:m.length=List.length ys * v.size:=hm2.length;have e1:vs.toList.length=vs.size:=Array.length_toList;have hvk:List.length ys * v.size<=vs.size:=by rw[hvs];exact mul_le_mul_right _ (by omega)
 have hr:=yCb (P:=P) (w:=w) (t:=t) (t':=t') (ty:=o.type) hu f1 (b:=b2) (n:=nq.2.1) (c:=nq.2.2) (m:=List.length ys) (c':=c) (k:=List.length ys) (ad:=⟨b1,off,Option.none⟩) (cs:=m) (cur:=vs) (e':=e')
  (by omega) (by rw[hml,f3]) (λ j v hj=>by rw[y0G];exact hm1 j v hj) (λ v hv=>yp (y6.plain hm2 v hv)) hg (by omega)
 have hbs:some b2∈(ρ β).subs:=by
  obtain ⟨⟨_,hsb,_⟩,_⟩:=hst;rw[hsb,<- hb2];exact mem_map.2 ⟨nq,mem_of_getElem? hnq,rfl⟩
 have hAb:Av A0 ρ s.cH b2:=.inl (.inr ⟨β,_,hc,hbs⟩);obtain ⟨⟨hxl,hsb,hnl⟩,hdis,hrest⟩:=hst;have hW:=h.writeSub (w':=w.setRow b2 (m++vs.toList.drop m.length).toArray) (ch':=.nst e u q e' v (xs.set n y')) hc hbs (λ k hk=>setRow_other w b2 k _ hk) (y0i _ _ _) rfl rfl rfl trivial (λ A hA=>by
  have hK:Keep (Av A0 ρ s.cH) w (w.setRow b2 (m++vs.toList.drop m.length).toArray):=λ k hk hkA=>setRow_other w b2 k _ (λ e=>hkA (e ▸ hAb))
  have hA1:∀ k,k < w.heap.size->A k->Av A0 ρ s.cH k:=λ k _ hk=>(hA k).1 hk
  refine ⟨⟨by simpa using hxl,hsb,by simpa using hnl⟩,hdis,?_⟩
  rcases hrest with ⟨a1,_⟩|⟨b',vs',hb',hg',hle',hm',hvs',hel⟩
  ·rw[hbo]at a1;cases a1
  have hbb:b'≠b2:=λ e=>h.subs.apart β β _ _ b2 hc hc hbs (e ▸ hb')
  refine .inr ⟨b',vs',hb',(setRow_other w b2 b' _ hbb).trans hg',hle',hm',hvs',λ k x hk=>?_⟩
  by_cases hnk:n=k
  ·subst hnk;rw[getElem?_set_self hn]at hk;cases hk;obtain ⟨q1,hq1,x0,l0,ys2,g1,g2,g3,g4,g5⟩:=hel n y hy;rw[hnq]at hq1;cases hq1;refine ⟨nq,hnq,x0,l0,ys,g1.mono hK hA1,y5D g2 hy',g3,hyl,nq.2.2,by rw[hyl],.inr ⟨b2,_,hb2,setRow_heap w b2 vs _ e' _ hg,by omega,hm,?_,λ k x hk=>?_⟩⟩
   ·simp only[List.size_toArray,length_append,length_drop];omega
   ·rw[List.toList_toArray];simp only[y6]at hm2;have hkl:=(List.getElem?_eq_some_iff.1 hk).1;have h5:(k+1) * v.size<=List.length ys * v.size:=mul_le_mul_right _ hkl;rw[succ_mul]at h5;rw[List.drop_append_of_le_length (by omega),List.take_append_of_le_length (by rw[length_drop];omega)]
    exact (hm2.2.2 k x hk).mono hK hA1
  ·rw[getElem?_set_ne hnk]at hk;obtain ⟨q1,hq1,hq2⟩:=hel k x hk;refine ⟨q1,hq1,hq2.frame (λ c hc1 _=>setRow_other w b2 c _ λ e=>?_) hK hA1⟩
   subst e;have p1:(ρ β).subs[k]?=some (some c):=by rw[hsb,getElem?_map,hq1,<- hc1];rfl
   have p2:(ρ β).subs[n]?=some (some c):=by rw[hsb,getElem?_map,hnq,<- hb2];rfl
   exact hnk (hdis n k c p2 p1))
 refine Eff.val (v:=.int .i64 ((List.length ys:Nat):Int)) ?_ (hW.put o.dst (sv:=.val (.int .i64) ((List.length ys:Nat):Int)) trivial (y24 .i64 _)) hk5;rw[hrun,hbv,hav,hb2];rw[show Option.map (λ b=>(⟨b,0,Option.none⟩:Addr)) (some b2)=some ⟨b2,0,Option.none⟩from rfl]
 rw[show (Ty.slice v).wrap [Value.slice (some ⟨b1,off,Option.none⟩) (List.length ys) c]=Value.slice (some ⟨b1,off,Option.none⟩) (List.length ys) c from rfl]
 rw[hr];rfl
theorem yBT(hT:yw P g.T)(h:Rel P A0 w0 ρ s a w){args:Array Operand}{ts:Array TypeId}(ho:o.op=.call { callee:=.builtin .copy,args,argTypes:=ts })
  (hk:effK g s o K=some r):Eff P A0 w0 a w o K r:=by
 simp only[effK,ho]at hk;split at hk
 ·rename_i b x t t' hargs hts;have hS:=h.settle (y9 g.T t' s x);generalize s.settle (y9 g.T t' s x)=s1 at hk hS;split at hk
  ·rename_i i β hi hb;split at hk
   ·rename_i e u xs nn hch;obtain ⟨hty,hk1⟩:=yG hk;clear hk;obtain ⟨ys,hy,hk⟩:=bind_eq_some_iff.1 hk1;have hc:=getD_some hch;obtain ⟨hu,hF,hs0⟩:=yS (hT.shape hi) (.inl hty);obtain ⟨inf,d,f1,f2,f3,f4,f5,f6⟩:=hF.ex;obtain ⟨l,h1,h2⟩:=y01 (y3 (T:=g.T) hS t' x).1 hy;have hbv:a.eval b=.slice ((ρ β).blk.map λ b=>⟨b,0,none⟩) (ρ β).len (ρ β).cap:=by
     have:=(y3 (T:=g.T) hS 0 b).1;rw[hb]at this;exact this
    have hwhere:=yFG hargs;have hts':=yFN hts;subst hwhere hts';have hrun:(execOp a.eval o).run P w=Result.andThen ((Builtin.copy_ #[t,t'] o.type #[a.eval b,a.eval x]).run P w) λ v w'=>.ok (.value v) w':=by
     simp[execOp,ho,resolve,invoke,builtin]
    have hav:a.eval x=(Ty.slice u).wrap l:=h2;obtain ⟨hxl,hnn,hch1⟩:=(hS.cH β _ hc).1;have hset:s1.cH.set β (some (Chunk.arr e u xs nn))=s1.cH:=by
     apply ext_getElem?;intro j;by_cases hj:β=j
     ·subst hj;rw[getElem?_set_self (List.getElem?_eq_some_iff.1 hc).1,hc]
     ·rw[getElem?_set_ne hj]
    have none:(ys:List u.den).take xs.length++xs.drop (List.length ys)=xs->min (List.length ys) xs.length=0->(Builtin.copy_ #[t,t'] o.type #[a.eval b,a.eval x]).run P w=.ok (.int .i64 0) w->Eff P A0 w0 a w o K r:=by
     intro e1 e2 hr;rw[e1,hset,e2]at hk;exact Eff.val (by rw[hrun,hr];rfl) (hS.put o.dst (sv:=.val (.int .i64) ((0:Nat):Int)) trivial (y24 .i64 0)) hk
    rcases y0A h1 with ⟨rfl,p,c,rfl⟩|⟨b1,off,c,m,rfl,hm1,hm2⟩
    ·refine none (by simp) (by simp) ?_
     rw[hbv,hav];exact y0t hu f1 (by simp)
    ·rcases hch1 with ⟨q0,q1,q2⟩|⟨b0,vs,hb0,hg,hle,hcm,hvs,hel⟩
     ·have hx:xs=[]:=List.eq_nil_of_length_eq_zero (by omega)
      subst hx;refine none (by simp) (by simp) ?_
      rw[hbv,hav,q1];exact y0t hu f1 (by simp)
     ·have hml:=hm2.length;have e0:vs.toList.length=vs.size:=Array.length_toList;generalize hkk:min (List.length ys) xs.length=k at hk;have hmk:k * u.size<=m.length:=by rw[hml];exact mul_le_mul_right _ (by omega)
      have hvk:k * u.size<=vs.size:=by rw[hvs];exact mul_le_mul_right _ (by omega)
      have hcl:(m.take (k * u.size)).length=k * u.size:=by rw[length_take];omega
      have hr:=yCb (P:=P) (w:=w) (t:=t) (t':=t') (ty:=o.type) hu f1 (b:=b0) (n:=(ρ β).len) (c:=(ρ β).cap) (m:=List.length ys) (c':=c) (k:=k) (ad:=⟨b1,off,Option.none⟩) (cs:=m.take (k * u.size)) (cur:=vs) (e':=e)
       (by omega) (by rw[hcl,f3]) (λ j v hj=>by
        rw[y0G];rw[getElem?_take]at hj;split at hj
        ·exact hm1 j v hj
        ·cases hj) (λ v hv=>yp (y6.plain hm2 v (List.mem_of_mem_take hv))) hg (by omega)
      rw[hcl]at hr;have hAb:Av A0 ρ s1.cH b0:=.inr ⟨β,_,hc,hb0⟩;have hxs':((ys:List u.den).take xs.length++xs.drop (List.length ys)).length=xs.length:=by simp;omega
      have hW:=hS.write (w':=w.setRow b0 (m.take (k * u.size)++vs.toList.drop (k * u.size)).toArray) (ch':=.arr e u ((ys:List u.den).take xs.length++xs.drop (List.length ys)) nn) hc hb0
       (λ k hk=>setRow_other w b0 k _ hk) (y0i _ _ _) rfl rfl rfl trivial (λ A hA=>by
        have hK:Keep (Av A0 ρ s1.cH) w (w.setRow b0 (m.take (k * u.size)++vs.toList.drop (k * u.size)).toArray):=λ k hk hkA=>setRow_other w b0 k _ (λ e=>hkA (e ▸ hAb))
        have hA1:∀ k,k < w.heap.size->A k->Av A0 ρ s1.cH k:=λ k _ hk=>(hA k).1 hk
        refine ⟨hxs'.trans hxl,hnn,.inr ⟨b0,_,hb0,setRow_heap w b0 vs _ e _ hg,hle,hcm,?_,λ j x hj=>?_⟩⟩
        ·simp only[List.size_toArray,length_append,length_drop,hcl];omega
        ·rw[List.toList_toArray];simp only[y6]at hm2;have hml2:m.length=List.length ys * u.size:=hml;rcases lt_or_ge j k with hjk|hjk
         ·have hjk':j * u.size+u.size<=k * u.size:=by rw[<- succ_mul];exact mul_le_mul_right _ hjk
          rw[List.drop_append_of_le_length (by omega),List.take_append_of_le_length (by rw[length_drop];omega),List.drop_take,List.take_take,min_eq_left (by omega)]
          have hyj:(ys:List u.den)[j]?=some x:=by
           rw[getElem?_append_left (by rw[length_take];omega),getElem?_take,if_pos (by omega)]at hj
           exact hj
          exact (hm2.2.2 j x hyj).mono hK hA1
         ·have hjk':k * u.size<=j * u.size:=mul_le_mul_right _ hjk;have hjx:j < xs.length:=by rw[<- hxs'];exact (List.getElem?_eq_some_iff.1 hj).1
          have hyk:List.length ys=k:=by omega
          have e5:(m.take (k * u.size)++vs.toList.drop (k * u.size)).drop (j * u.size)=vs.toList.drop (j * u.size):=by
           rw[List.drop_append,List.drop_eq_nil_of_le (as:=m.take (k * u.size)) (by omega),nil_append,List.drop_drop,hcl]
           congr 1
           omega
          rw[e5];have hxj:xs[j]?=some x:=by
           rw[getElem?_append_right (by rw[length_take];omega),getElem?_drop]at hj
           rw[length_take]at hj;rw[<- hj];congr 1
           omega
          exact (hel j x hxj).mono hK hA1)
      refine Eff.val (v:=.int .i64 (k:Int)) ?_ (hW.put o.dst (sv:=.val (.int .i64) ((k:Nat):Int)) trivial (y24 .i64 _)) hk;rw[hrun,hbv,hav,hb0];rw[show Option.map (λ b=>(⟨b,0,Option.none⟩:Addr)) (some b0)=some ⟨b0,0,Option.none⟩from rfl]
      rw[show (Ty.slice u).wrap [Value.slice (some ⟨b1,off,Option.none⟩) (List.length ys) c]=Value.slice (some ⟨b1,off,Option.none⟩) (List.length ys) c from rfl]
      rw[hr];rfl
   ·cases hk
  ·rename_i i β m hi hb;exact y9P hT hS ho hargs hts hi hb hk
  ·rename_i i β n sz hi hb;split at hk
   ·rename_i e u xs nn hch;obtain ⟨⟨hty,hsz⟩,hk1⟩:=yG hk;clear hk;subst hsz;obtain ⟨ys,hy,hk⟩:=bind_eq_some_iff.1 hk1;have hc:=getD_some hch;obtain ⟨hu,hF,hs0⟩:=yS (hT.shape hi) (.inl hty);obtain ⟨inf,d,f1,f2,f3,f4,f5,f6⟩:=hF.ex;obtain ⟨l,h1,h2⟩:=y01 (y3 (T:=g.T) hS t' x).1 hy;have hbv:a.eval b=.slice (if (ρ β).cap=n then (ρ β).blk.map λ b=>⟨b,0,none⟩else (ρ β).blk.map λ b=>⟨b,n * u.size,none⟩) ((ρ β).len - n) ((ρ β).cap - n):=by
     have:=(y3 (T:=g.T) hS 0 b).1;rw[hb]at this;exact this
    have hwhere:=yFG hargs;have hts':=yFN hts;subst hwhere hts';have hrun:(execOp a.eval o).run P w=Result.andThen ((Builtin.copy_ #[t,t'] o.type #[a.eval b,a.eval x]).run P w) λ v w'=>.ok (.value v) w':=by
     simp[execOp,ho,resolve,invoke,builtin]
    have hav:a.eval x=(Ty.slice u).wrap l:=h2;obtain ⟨hxl,hnn,hch1⟩:=(hS.cH β _ hc).1;generalize hkk:min (List.length ys) (xs.length - n)=k at hk;have etk:(ys:List u.den).take (xs.length - n)=(ys:List u.den).take k:=by
     rw[<- hkk];rcases Nat.le_total (List.length ys) (xs.length - n)with hle|hle
     ·rw[min_eq_left hle,List.take_of_length_le hle,List.take_of_length_le (le_refl _)]
     ·rw[Nat.min_eq_right hle]
    rw[etk]at hk;rcases Nat.eq_zero_or_pos k with hk0|hk0
    ·subst hk0;have hset:s1.cH.set β (some (Chunk.arr e u xs nn))=s1.cH:=by
      apply ext_getElem?;intro j;by_cases hj:β=j
      ·subst hj;rw[getElem?_set_self (List.getElem?_eq_some_iff.1 hc).1,hc]
      ·rw[getElem?_set_ne hj]
     rw[show xs.take n++(ys:List u.den).take 0++xs.drop (n+0)=xs by simp,hset]at hk
     have hr:(Builtin.copy_ #[t,t'] o.type #[a.eval b,a.eval x]).run P w=.ok (.int .i64 0) w:=by
      rcases y0A h1 with ⟨rfl,p,c,rfl⟩|⟨b1,off,c,m,rfl,hm1,hm2⟩
      ·rw[hbv,hav];exact y0t hu f1 (by simp)
      ·rw[hbv,hav];exact y0t hu f1 (by omega)
     exact Eff.val (by rw[hrun,hr];rfl) (hS.put o.dst (sv:=.val (.int .i64) ((0:Nat):Int)) trivial (y24 .i64 0)) hk
    ·rcases y0A h1 with ⟨rfl,p,c,rfl⟩|⟨b1,off,c,m,rfl,hm1,hm2⟩
     ·simp at hkk;omega
     rcases hch1 with ⟨q0,q1,q2⟩|⟨b0,vs,hb0,hg,hle,hcm,hvs,hel⟩
     ·omega
     have hml:=hm2.length;have hml2:m.length=List.length ys * u.size:=hml;have e0:vs.toList.length=vs.size:=Array.length_toList;have hcl:(m.take (k * u.size)).length=k * u.size:=by
      have:k * u.size<=m.length:=by rw[hml2];exact mul_le_mul_right _ (by omega)
      rw[length_take];omega
     have hnk:n+k<=xs.length:=by omega
     have hfit:n * u.size+k * u.size<=vs.toList.length:=by
      rw[e0,hvs,<- add_mul];exact mul_le_mul_right _ (by omega)
     have hr:=yII (P:=P) (w:=w) (t:=t) (t':=t') (ty:=o.type) hu f1 (b:=b0) (off:=n * u.size) (n:=(ρ β).len - n) (c:=(ρ β).cap - n) (m:=List.length ys) (c':=c) (k:=k) (ad:=⟨b1,off,Option.none⟩) (cs:=m.take (k * u.size)) (cur:=vs) (e':=e)
      (by omega) (by rw[hcl,f3]) (λ j v hj=>by
       rw[y0G];rw[getElem?_take]at hj;split at hj
       ·exact hm1 j v hj
       ·cases hj) (λ v hv=>yp (y6.plain hm2 v (List.mem_of_mem_take hv))) hg (by rw[hcl];omega)
     rw[hcl]at hr;have hAb:Av A0 ρ s1.cH b0:=.inr ⟨β,_,hc,hb0⟩;have hxs':(xs.take n++(ys:List u.den).take k++xs.drop (n+k)).length=xs.length:=by
      simp only[length_append,length_take,length_drop];omega
     have hW:=hS.write (w':=w.setRow b0 (vs.toList.take (n * u.size)++m.take (k * u.size)++vs.toList.drop (n * u.size+k * u.size)).toArray) (ch':=.arr e u (xs.take n++(ys:List u.den).take k++xs.drop (n+k)) nn) hc hb0
      (λ k hk=>setRow_other w b0 k _ hk) (y0i _ _ _) rfl rfl rfl trivial (λ A hA=>by
       have hK:Keep (Av A0 ρ s1.cH) w (w.setRow b0 (vs.toList.take (n * u.size)++m.take (k * u.size)++vs.toList.drop (n * u.size+k * u.size)).toArray):=λ k hk hkA=>setRow_other w b0 k _ (λ e=>hkA (e ▸ hAb))
       have hA1:∀ k,k < w.heap.size->A k->Av A0 ρ s1.cH k:=λ k _ hk=>(hA k).1 hk
       refine ⟨hxs'.trans hxl,hnn,.inr ⟨b0,_,hb0,setRow_heap w b0 vs _ e _ hg,hle,hcm,?_,λ j x hj=>?_⟩⟩
       ·simp only[List.size_toArray,length_append,length_take,length_drop,hcl];omega
       ·rw[List.toList_toArray];simp only[y6]at hm2;have hw:=y15 (l:=vs.toList) (m:=m.take (k * u.size)) (o:=n * u.size) (by rw[hcl];exact hfit)
        rw[hcl]at hw;have hx2:(ys:List u.den).length=List.length ys:=rfl;rcases lt_or_ge j n with hjn|hjn
        ·have h5:(j+1) * u.size<=n * u.size:=mul_le_mul_right _ hjn;rw[succ_mul]at h5;have e5:((vs.toList.take (n * u.size)++m.take (k * u.size)++vs.toList.drop (n * u.size+k * u.size)).drop (j * u.size)).take u.size=(vs.toList.drop (j * u.size)).take u.size:=by
          apply ext_getElem?;intro q;rw[y0F,y0F];split
          ·rw[hw,if_pos (by omega)]
          ·rfl
         rw[e5];have hxj:xs[j]?=some x:=by
          rw[append_assoc,getElem?_append_left (by rw[length_take];omega),getElem?_take,if_pos hjn]at hj
          exact hj
         exact (hel j x hxj).mono hK hA1
        ·rcases lt_or_ge j (n+k)with hjk|hjk
         ·have h5:n * u.size<=j * u.size:=mul_le_mul_right _ hjn;have h6:(j+1) * u.size<=(n+k) * u.size:=mul_le_mul_right _ hjk;rw[succ_mul,add_mul]at h6;have h7:(j - n) * u.size=j * u.size - n * u.size:=Nat.sub_mul ..;have e5:((vs.toList.take (n * u.size)++m.take (k * u.size)++vs.toList.drop (n * u.size+k * u.size)).drop (j * u.size)).take u.size=(m.drop ((j - n) * u.size)).take u.size:=by
           apply ext_getElem?;intro q;rw[y0F,y0F];split
           ·rw[hw,if_neg (by omega),if_pos (by omega),getElem?_take,if_pos (by omega)]
            congr 1
            omega
           ·rfl
          rw[e5];have hyj:(ys:List u.den)[j - n]?=some x:=by
           have hln:(xs.take n).length=n:=by rw[length_take];omega
           rw[append_assoc,getElem?_append_right (by omega),hln,getElem?_append_left (by rw[length_take];omega),getElem?_take,if_pos (by omega)]at hj
           exact hj
          exact (hm2.2.2 (j - n) x hyj).mono hK hA1
         ·have h5:(n+k) * u.size<=j * u.size:=mul_le_mul_right _ hjk;rw[add_mul]at h5;have e5:((vs.toList.take (n * u.size)++m.take (k * u.size)++vs.toList.drop (n * u.size+k * u.size)).drop (j * u.size)).take u.size=(vs.toList.drop (j * u.size)).take u.size:=by
           apply ext_getElem?;intro q;rw[y0F,y0F];split
           ·rw[hw,if_neg (by omega),if_neg (by omega)]
           ·rfl
          rw[e5];have hxj:xs[j]?=some x:=by
           have hln:(xs.take n++(ys:List u.den).take k).length=n+k:=by rw[length_append,length_take,length_take];omega
           rw[getElem?_append_right (by omega),hln,getElem?_drop]at hj
           rw[<- hj];congr 1
           omega
          exact (hel j x hxj).mono hK hA1)
     refine Eff.val (v:=.int .i64 (k:Int)) ?_ (hW.put o.dst (sv:=.val (.int .i64) ((k:Nat):Int)) trivial (y24 .i64 _)) hk;rw[hrun,hbv,hav,hb0,if_neg (by omega)]
     rw[show Option.map (λ b=>(⟨b,n * u.size,Option.none⟩:Addr)) (some b0)=some ⟨b0,n * u.size,Option.none⟩from rfl]
     rw[show (Ty.slice u).wrap [Value.slice (some ⟨b1,off,Option.none⟩) (List.length ys) c]=Value.slice (some ⟨b1,off,Option.none⟩) (List.length ys) c from rfl]
     rw[hr];rfl
   ·cases hk
  ·cases hk
 ·cases hk
theorem yDP(hT:yw P g.T)(h:Rel P A0 w0 ρ s a w){t:TypeId}{x lo:Operand}(ho:o.op=.slice t x (some lo) none none)(hk:effK g s o K=some r):Eff P A0 w0 a w o K r:=by
 simp only[effK,ho]at hk;split at hk
 ·rename_i i β kd n hi hx hlo;split at hk
  ·rename_i e u xs nn hch;obtain ⟨hel,hk1⟩:=yG hk;clear hk;cases hb:(decide (0<=n) && decide (n<=(List.length xs:Int)))with
   |false=>rw[hb]at hk1;cases hk1
   |true =>
    rw[hb,cond_true]at hk1;simp only[and_eq_true,decide_eq_true_eq]at hb;obtain ⟨h0,h1⟩:=hb;have hc:=getD_some hch;obtain ⟨hu,hF,_⟩:=yS (hT.shape hi) (y1u hel);have hxv:a.eval x=.slice ((ρ β).blk.map λ b=>⟨b,0,none⟩) (ρ β).len (ρ β).cap:=by
     have:=(y3 (T:=g.T) h t x).1;rw[hx]at this;exact this
    have hin:β < s.cH.length:=by
     have:=(y3 (T:=g.T) h t x).2;rw[hx]at this;exact this
    have hlv:a.eval lo=.int kd n:=by
     have:=(y3 (T:=g.T) h 0 lo).1;rw[hlo]at this;exact yy this
    obtain ⟨hxl,_,hch1⟩:=(h.cH β _ hc).1;have hle:(ρ β).len<=(ρ β).cap:=by
     rcases hch1 with ⟨_,q1,q2⟩|⟨b0,vs,_,_,hle,_⟩
     ·omega
     ·exact hle
    have hbs:=y0n (P:=P) (w:=w) (a:=a) (sl:=true) (len:=(ρ β).len) (cap:=(ρ β).cap) (lo:=some lo) (hi:=none) (l:=some n) (h:=none) (x:=n.toNat) (y:=(ρ β).len) (.inr ⟨lo,n,kd,rfl,rfl,hlv⟩) (.inl ⟨rfl,rfl⟩)
     (.inr ⟨n,rfl,h0,rfl,hxl ▸ h1⟩) (.inl ⟨rfl,rfl⟩) hle
    have hrun:=y2X (P:=P) (w:=w) (t:=t) (p:=(ρ β).blk.map λ b=>⟨b,0,none⟩) hu hF hbs
    have hex:execOp a.eval o=(do pure (.value (<- Instr.sliceAt t (a.eval x) ((some lo).map a.eval) ((none:Option Operand).map a.eval) none))):=by simp only[execOp,ho,map_none]
    refine Eff.val (w':=w) (v:=.slice (if (ρ β).cap=n.toNat then (ρ β).blk.map λ b=>⟨b,0,none⟩else (ρ β).blk.map λ b=>⟨b,n.toNat * u.size,none⟩) ((ρ β).len - n.toNat) ((ρ β).cap - n.toNat)) ?_ (h.put o.dst (sv:=.oS β n.toNat u.size) hin rfl) hk1
    have e1:(if (ρ β).cap=n.toNat then (ρ β).blk.map (λ b=>(⟨b,0,none⟩:Addr))else ((ρ β).blk.map λ b=>(⟨b,0,none⟩:Addr)).map (·.add (n.toNat * u.size))) =
      if (ρ β).cap=n.toNat then (ρ β).blk.map (λ b=>(⟨b,0,none⟩:Addr))else (ρ β).blk.map λ b=>(⟨b,n.toNat * u.size,none⟩:Addr):=by
     cases (ρ β).blk with
     |none=>rfl
     |some b=>simp[y0G]
    rw[e1]at hrun;rw[hex,hxv];simp only[map_some,map_none]at hrun ⊢;simp only[Sem.run_bind,hrun,Result.andThen_ok,Sem.run_pure]
  ·cases hk
 ·cases hk
theorem yA4(hE:∀ e∈g.E,FnOK P e)(hT:yw P g.T)(h:Rel P A0 w0 ρ s a w)(hk:effK g s o K=some r):Eff P A0 w0 a w o K r:=by
 cases ho:o.op with
 |box e x=>exact yD4 hT h ho hk
 |alloc e=>exact y9C hT h ho hk
 |store t ad x=>exact y9N hE hT h ho hk
 |makeSlice t l c=>exact yAq hT h ho hk
 |makeMap t x =>
  cases x with
  |none=>exact y6w h ho hk
  |some x=>simp only[effK,ho]at hk;cases hk
 |range t x=>exact y9W hT h ho hk
 | next it b =>
  cases b with
  |true=>exact yES h ho (by simpa only[effK,ho]using hk)
  |false=>simp only[effK,ho]at hk;cases hk
 |insert t m key x=>exact yAF hE hT h (.inl ho) (by simpa only[effK,ho]using hk)
 |mapUpdate t m key x=>exact yAF hE hT h (.inr ho) (by simpa only[effK,ho]using hk)
 |buildSlice t n ps=>exact y9S hE hT h ho hk
 |build t ps=>exact y6T hE hT h ho hk
 |slice t x lo hi mx =>
  cases lo with
  |none=>simp only[effK,ho]at hk;cases hk
  |some lo =>
   cases hi with
   |some hi=>simp only[effK,ho]at hk;cases hk
   |none =>
    cases mx with
    |some mx=>simp only[effK,ho]at hk;cases hk
    |none=>exact yDP hT h ho hk
 |assign x =>
  cases x with
  |const v =>
   cases v with
   |slice p n c =>
    cases p with
    |none =>
     cases n with
     |zero =>
      cases c with
      |zero=>exact yD5 h ho hk
      |succ c=>simp only[effK,ho]at hk;cases hk
     |succ n=>simp only[effK,ho]at hk;cases hk
    |some p=>simp only[effK,ho]at hk;cases hk
   |_=>simp only[effK,ho]at hk;cases hk
  |_=>simp only[effK,ho]at hk;cases hk
 |call c =>
  obtain ⟨callee,args,ts⟩:=c;cases callee with
  |builtin b =>
   cases b with
   |append=>exact y8s hT h ho hk
   |copy=>exact yBT hT h ho hk
   |unsafeString=>exact yAe hT h ho hk
   |_=>simp only[effK,ho]at hk;cases hk
  |_=>simp only[effK,ho]at hk;cases hk
 |_=>simp only[effK,ho]at hk;cases hk
end
end Go.Vx
end
section
namespace Go.Vx
open Go.RowKit
variable [GT]
section
variable {P:Program} {A0:Nat->Prop} {w0:Base} {ρ:Places} {s:St} {a:Act} {w w':World} {g:G} {R:Type} {K:St->Option R} {r:R} {o:Oper}
def y3V(ro:Option Nat):Fence:={ Fence.wide with round:=ro }
omit [GT] in
theorem yFV{ro:Option Nat}{n:Nat}{f:FuncId}{args:Array Value}{Q:Ending->World->Prop}:CallsIn (y3V ro) n P f args w Q ↔ Calls P f args w Q:=callsIn_wide (n:=n)
omit [GT] in
theorem yKY{ro ro':Option Nat}{n l:Nat}{f:FuncId}{tmps:Array Value}{x y:Code}{Q:Ending->World->Prop}(h:RoundIn (y3V ro) n P l f tmps x y w Q):RoundIn (y3V ro') n P l f tmps x y w Q:=h
def OpTo(P:Program)(ro:Option Nat)(o:Oper)(a:Act)(w:World)(N:Act->World->Prop):Prop:=
 ∀ (next:Act->World->Prop) (Q:Exit->Act->World->Prop),(∀ a' w',N a' w'->next a' w')->o.wpIn (y3V ro) 0 P a w next Q
omit [GT] in
theorem OpTo.of_calls{ro:Option Nat}{N:Act->World->Prop}{n:FuncId}{args:Array Value}{Q:Ending->World->Prop}(hnd:∀ c,o.op≠.defer c)(hrun:(execOp a.eval o).run P w=.ok (.enter n args) w)(hc:Calls P n args w Q)
  (hQ:∀ e w',Q e w'->∃ v,e=.returned v/\N (a.put o.dst v) w'):OpTo P ro o a w N:=by
 intro next Q' hn
 refine ⟨λ _ _=>trivial,?_⟩
 rw[Oper.semAt_eq _ _ _ hnd,hrun,Oper.uponIn_enter];refine ⟨λ h=>(by cases h),yFV.2 (hc.mono λ e w' hq=>?_)⟩
 obtain ⟨v,rfl,h⟩:=hQ e w' hq;exact hn _ _ h
def Goes(P:Program)(A0:Nat->Prop)(w0:Base)(K:St->Option R)(r:R)(a:Act)(w:World):Prop:=
 ∃ ρ s,Rel P A0 w0 ρ s a w/\K s=some r
theorem Eff.opTo(h:Eff P A0 w0 a w o K r)(hnd:∀ c,o.op≠.defer c):OpTo P w0.ro o a w (Goes P A0 w0 K r):=by
 obtain ⟨a',w',ρ',s',h1,h2,h3⟩:=h;intro next Q hn
 refine ⟨λ _ _=>trivial,?_⟩
 rw[Oper.semAt_eq _ _ _ hnd];rcases h1 with ⟨v,h1,rfl⟩|⟨h1,rfl⟩
 ·rw[h1];exact hn _ _ ⟨ρ',s',h2,h3⟩
 ·rw[h1];exact hn _ _ ⟨ρ',s',h2,h3⟩
theorem y5G{args:Array Operand}{ts:Array TypeId}{f:Operand}(ho:o.op=.call { callee:=.value f,args,argTypes:=ts }){n:FuncId}{first caps:List Value}
  (hf:a.eval f=.func (.func n) first.toArray caps.toArray) (hE:y3g P n) :
  (execOp a.eval o).run P w=.ok (.enter n ((first++args.toList.map a.eval++caps).toArray)) w:=by
 obtain ⟨fn,h1,h2,h3⟩:=hE;have e1:(first.toArray++args.map a.eval++caps.toArray)=(first++args.toList.map a.eval++caps).toArray:=by
  apply Array.toList_inj.1;simp
 simp only[execOp,ho,resolve,hf,Deferred.ofValue,Sem.run_bind,Sem.run_pure,Result.andThen_ok,invoke,callFunc,e1];simp[h1];rw[if_neg (by simpa using h2),if_neg (by intro hb;rw[hb]at h3;cases h3)]
variable (hE:∀ e∈g.E,FnOK P e)
include hE
theorem y2Z{A A':Nat->Prop}{cs:List (Option Chunk)}(hA:∀ n,n < w.heap.size->A' n->A n)
  (hc:∀ β ch,cs[β]?=some (some ch)->yB P A w ρ (ρ β) ch/\∀ b,(ρ β).blk=some b->¬ A' b) :
  ∀ {t:Ty} {svs:List SV} {vs:List Value} {x:t.den},yD P A w ρ svs vs->y1V g.E cs t svs=some x->∃ l,y6 P t A' w x l/\t.group l=vs:=by
 intro t;induction t with
 |unit =>
  intro svs vs x hr h;cases svs with
  |cons _ _=>simp[y1V]at h
  |nil=>exact ⟨[],rfl,by have:=hr.1;simp at this;simp[Ty.group,this]⟩
 |pair a b iha ihb =>
  intro svs vs x hr h;cases svs with
  |nil=>simp[y1V]at h
  |cons sv l =>
   simp only[y1V,bind_eq_some_iff,map_eq_some_iff]at h;obtain ⟨p,hp,q,hq,rfl⟩:=h;cases vs with
   |nil=>have:=hr.1;simp at this
   |cons v vs =>
    obtain ⟨v',hv',h0⟩:=hr.2 0 sv rfl;simp at hv';subst hv';obtain ⟨l1,h1,rfl⟩:=y56 hE hA hc h0 hp;obtain ⟨l2,h3,h4⟩:=ihb (vs:=vs) ⟨by have:=hr.1;simpa using this,λ i sv hi=>by simpa using hr.2 (i+1) sv (by simpa using hi)⟩ hq
    refine ⟨l1++l2,⟨l1,l2,rfl,h1,h3⟩,?_⟩;have e1:(l1++l2).take a.size=l1:=by rw[<- h1.length,take_left]
    have e2:(l1++l2).drop a.size=l2:=by rw[<- h1.length,drop_left]
    simp only[Ty.group,e1,e2,h4]
 |_=>intro svs vs x hr h;simp[y1V]at h
omit hE in
theorem y1k(h:Rel P A0 w0 ρ s a w):∀ (xs:List Operand) (ts:List TypeId),yD P (Av A0 ρ s.cH) w ρ (y2m g.T s xs ts) (xs.map a.eval)
 |[],_=>⟨rfl,λ i sv hi=>by simp[y2m]at hi⟩
 |x::l,ts=>by
  have ih:=y1k h l ts.tail;refine ⟨by simpa[y2m]using ih.1,λ i sv hi=>?_⟩
  cases i with
  |zero =>
   simp[y2m]at hi;subst hi;exact ⟨a.eval x,rfl,(y3 h _ x).1⟩
  |succ i =>
   obtain ⟨v,h1,h2⟩:=ih.2 i sv (by simpa[y2m]using hi)
   exact ⟨v,by simpa using h1,h2⟩
omit hE in
theorem y1q{A:Nat->Prop}:∀ {cs:List Cap} {vs:List Value},yg P A w ρ cs vs->yD P A w ρ (y1e cs) vs
 |[],[],_=>⟨rfl,λ i sv hi=>by simp[y1e]at hi⟩
 |[],_::_,h=>h.elim
 |_::_,[],h=>by rename_i c cs;cases c<;>exact h.elim
 |c::cs,v::vs,h=>by
  have ih:=y1q h.2;have h0:=h.1;cases c with
  |box β =>
   refine ⟨by simpa[y1e]using ih.1,λ i sv hi=>?_⟩
   cases i with
   |zero=>simp[y1e]at hi;subst hi;exact ⟨v,rfl,h0⟩
   |succ i =>
    obtain ⟨u,h1,h2⟩:=ih.2 i sv (by simpa[y1e]using hi)
    exact ⟨u,by simpa using h1,h2⟩
  |val t x =>
   refine ⟨by simpa[y1e]using ih.1,λ i sv hi=>?_⟩
   cases i with
   |zero=>simp[y1e]at hi;subst hi;exact ⟨v,rfl,h0⟩
   |succ i =>
    obtain ⟨u,h1,h2⟩:=ih.2 i sv (by simpa[y1e]using hi)
    exact ⟨u,by simpa using h1,h2⟩
omit hE in
theorem y8y{A:Nat->Prop}{n:Nat}:∀ {t:Ty} {y:t.den} {l:List Value},y6 P t A w y l->yF P A w ρ (yBG t y) (pack (t.group l))/\(yBG t y).inn n:=by
 intro t y l h;cases t with
 |pair a b =>
  cases b with
  |unit =>
   simp only[y6]at h;obtain ⟨l1,l2,rfl,h1,h2⟩:=h;have e1:(l1++l2).take a.size=l1:=by rw[<- h1.length,take_left]
   exact ⟨⟨l1,h1,by simp[pack,Ty.group,e1]⟩,trivial⟩
  |pair b c =>
   exact ⟨⟨l,h,by simp[pack,Ty.group]⟩,trivial⟩
  |_=>exact ⟨trivial,trivial⟩
 |unit =>
  simp only[y6]at h;subst h;exact ⟨⟨[],rfl,rfl⟩,trivial⟩
 |_=>exact ⟨trivial,trivial⟩
def Does(P:Program)(S:Nat->Prop)(w:World)(n:FuncId)(cv:List Value)(ta tr:Ty)(m:ta.den->Option tr.den)(first caps:List Value):Prop:=
 ∀ (A':Nat->Prop) (x:ta.den) (l vs:List Value) (y:tr.den),y4x A' w->(∀ n,A' n->n < w.heap.size)->(∀ n,A' n->S n)->y6 P ta A' w x l->ta.group l=vs++cv->m x=some y ->
  Calls P n (first++vs++caps).toArray w λ ex w'=>∃ ly,ex=.returned (pack (tr.group ly))/\y6 P tr A' w' y ly/\Below w.heap.size w w'
omit hE in
theorem Does.opTo{args:Array Operand}{ts:Array TypeId}{f:Operand}(ho:o.op=.call { callee:=.value f,args,argTypes:=ts }){n:FuncId}{cv first caps:List Value}{ta tr:Ty}{m:ta.den->Option tr.den}{A':Nat->Prop}
  {s:St} (h:Rel P A0 w0 ρ s a w) (hn:y3g P n) (hf:a.eval f=.func (.func n) first.toArray caps.toArray) (hd:Does P (λ n=>Av A0 ρ s.cH n) w n cv ta tr m first caps)
  (hA':∀ n,A' n->Av A0 ρ s.cH n) {x:ta.den} {l:List Value} {y:tr.den} (hx:y6 P ta A' w x l) (hg:ta.group l=args.toList.map a.eval++cv) (hy:m x=some y)
  (hres:tr.flat=true\/∀ n,Av A0 ρ s.cH n->A' n) (hk:K (s.put o.dst (yBG tr y))=some r):OpTo P w0.ro o a w (Goes P A0 w0 K r):=by
 refine OpTo.of_calls (by rw[ho];intro c hc;cases hc) (y5G ho hf hn) (hd A' x l _ y (λ p hp=>⟨λ hb=>(h.globW p hp).1 (hA' _ hb),(h.globW p hp).2⟩) (λ n hn=>h.av_lt (hA' n hn)) hA' hx hg hy) ?_
 rintro e w' ⟨ly,rfl,h1,h2⟩
 have h1':y6 P tr (Av A0 ρ s.cH) w' y ly:=by
  rcases hres with hr|hr
  ·exact yHi hr h1
  ·exact h1.mono (λ _ _ _=>rfl) (λ n _ hn=>hr n hn)
 obtain ⟨h3,h4⟩:=y8y (ρ:=ρ) (n:=s.cH.length) h1';exact ⟨_,rfl,ρ,_,(h.step h2).put o.dst h4 h3,hk⟩
theorem y4J(h:Rel P A0 w0 ρ s a w){args:Array Operand}{ts:Array TypeId}{f:Operand}(ho:o.op=.call { callee:=.value f,args,argTypes:=ts }){n:FuncId}{cv first caps:List Value}{ta tr:Ty}{m:ta.den->Option tr.den}{dr:Bool}
  (hn:y3g P n) (hf:a.eval f=.func (.func n) first.toArray caps.toArray) (hd:Does P (Av A0 ρ s.cH) w n cv ta tr m first caps) {cs:St->List SV} (hcs:yD P (Av A0 ρ s.cH) w ρ (cs s) cv) (hcs':∀ xs,yD P (Av A0 ρ (settleAll xs s).cH) w ρ (cs (settleAll xs s)) cv)
  (hsub:∀ (xs:List Operand) (n:Nat),Av A0 ρ (settleAll xs s).cH n->Av A0 ρ s.cH n)
  (hk:y12 g ta tr m s { callee:=.value f,args,argTypes:=ts } cs dr o.dst K=some r):OpTo P w0.ro o a w (Goes P A0 w0 K r):=by
 unfold y12 at hk;split at hk
 ·rename_i hfl;have hfl:=(and_eq_true _ _ ▸ hfl:tr.flat=true/\_).1;obtain ⟨x,hx,hk1⟩:=bind_eq_some_iff.1 hk;obtain ⟨y,hy,hk2⟩:=bind_eq_some_iff.1 hk1;obtain ⟨l,h1,h2⟩:=y2Z hE (A':=λ _=>False) (λ _ _ h=>h.elim) (λ β ch hb=>⟨(h.cH β ch hb).1,λ _ _ h=>h⟩) ((y1k (g:=g) h args.toList ts.toList).append hcs) hx
  exact Does.opTo ho h hn hf hd (λ _ h=>h.elim) h1 h2 hy (.inl hfl) hk2
 ·split at hk
  ·obtain ⟨x,hx,hk1⟩:=bind_eq_some_iff.1 hk;obtain ⟨y,hy,hk2⟩:=bind_eq_some_iff.1 hk1;obtain ⟨l,h1,h2⟩:=y2Z hE (A':=Av A0 ρ s.cH) (cs:=[]) (λ _ _ h=>h) (λ β ch hb=>by simp at hb) ((y1k (g:=g) h args.toList ts.toList).append hcs) hx
   exact Does.opTo ho h hn hf hd (λ _ h=>h) h1 h2 hy (.inr λ _ h=>h) hk2
  ·simp only at hk;have hsub':=hsub (args.toList++[f]);have hS:=Rel.settleAll (args.toList++[f]) h;have hcs1:=hcs' (args.toList++[f]);generalize settleAll (args.toList++[f]) s=s1 at hk hS hsub' hcs1;obtain ⟨x,hx,hk1⟩:=bind_eq_some_iff.1 hk;obtain ⟨y,hy,hk2⟩:=bind_eq_some_iff.1 hk1;obtain ⟨l,h1,h2⟩:=y2Z hE (A':=Av A0 ρ s1.cH) (cs:=[]) (λ _ _ h=>h) (λ β ch hb=>by simp at hb) ((y1k (g:=g) hS args.toList ts.toList).append hcs1) hx
   refine Does.opTo ho hS hn hf (λ A' x l vs y hG' hA1 hA2=>hd A' x l vs y hG' hA1 (λ n hn=>hsub' n (hA2 n hn))) (λ _ h=>h) h1 h2 hy (.inr λ _ h=>h) hk2
end
section
variable {P:Program} {A0:Nat->Prop} {w0:Base} {ρ:Places} {s:St} {a:Act} {w w':World} {g:G} {R:Type} {K:St->Option R} {r:R} {o:Oper}
theorem y4G{n:Nat}(β:Nat)(h:Av A0 ρ (s.freeze β).cH n):Av A0 ρ s.cH n:=by
 unfold St.freeze at h;split at h
 ·exact y0f h
 ·split at h
  ·exact y0f h
  ·exact h
 ·exact y0f h
 ·exact y0f h
 ·exact y0f h
 ·split at h
  ·exact y0f h
  ·exact h
 ·exact h
theorem y3Z{n:Nat}:∀ (cs:List Cap) {s:St},Av A0 ρ (freezeCaps cs s).cH n->Av A0 ρ s.cH n
 |[],_,h=>h
 |.box β::cs,_,h=>y4G β (y3Z cs h)
 |.val _ _::cs,_,h=>y3Z cs h
theorem y9x{n:Nat}(sv:SV)(h:Av A0 ρ (s.settle1 sv).cH n):Av A0 ρ s.cH n:=by
 unfold St.settle1 at h;split at h
 ·exact y4G _ h
 ·exact y4G _ h
 ·exact y3Z _ h
 ·exact h
theorem y3w{n:Nat}:∀ (l:List SV) {s:St},Av A0 ρ (settleCells1 l s).cH n->Av A0 ρ s.cH n
 |[],_,h=>h
 |sv::l,_,h=>y9x sv (y3w l h)
theorem yM7{n:Nat}(sv:SV)(h:Av A0 ρ (s.settle sv).cH n):Av A0 ρ s.cH n:=by
 unfold St.settle at h;split at h
 ·have h1:=y4G _ h;split at h1
  ·exact y3w _ h1
  ·exact h1
 ·exact y4G _ h
 ·exact y9x _ h
theorem y1E{n:Nat}:∀ (xs:List Operand) {s:St},Av A0 ρ (settleAll xs s).cH n->Av A0 ρ s.cH n
 |[],_,h=>h
 |.tmp t::l,_,h=>yM7 _ (y1E l h)
 |.const _::l,_,h=>y1E l h
 |.global _::l,_,h=>y1E l h
 |.func _::l,_,h=>y1E l h
theorem y6B{i β:Nat}{f:SV->SV}(hf:f .undef=.undef):(s.sub β f).get i=f (s.get i):=by
 rw[St.get_def,St.get_def,show (s.sub β f).slots=s.slots.map f from Slots.toList_map _ _]
 simp only[getD_eq_getElem?_getD,getElem?_map];cases s.slots[i]? with
 |none=>simp[hf]
 |some x=>rfl
theorem y2B{i β:Nat}{n:FuncId}{caps:List Cap}(h:s.get i=.clo n caps):∃ caps',(s.freeze β).get i=.clo n caps':=by
 unfold St.freeze;split
 ·rw[y6B rfl,h];exact ⟨caps,rfl⟩
 ·split
  ·rw[y6B rfl,h];exact ⟨_,rfl⟩
  ·exact ⟨caps,h⟩
 ·rw[y6B rfl,h];exact ⟨caps,rfl⟩
 ·rw[y6B rfl,h];exact ⟨caps,rfl⟩
 ·rw[y6B rfl,h];exact ⟨caps,rfl⟩
 ·split
  ·rw[y6B rfl,h];exact ⟨_,rfl⟩
  ·exact ⟨caps,h⟩
 ·exact ⟨caps,h⟩
theorem y2n{i:Nat}{n:FuncId}:∀ (cs:List Cap) {s:St} {caps:List Cap},s.get i=.clo n caps->∃ caps',(freezeCaps cs s).get i=.clo n caps'
 |[],_,caps,h=>⟨caps,h⟩
 |.box β::cs,_,_,h=>let ⟨_,h'⟩:=y2B (β:=β) h;y2n cs h'
 |.val _ _::cs,_,_,h=>y2n cs h
theorem y8Z{i:Nat}{n:FuncId}{caps:List Cap}(sv:SV)(h:s.get i=.clo n caps):∃ caps',(s.settle1 sv).get i=.clo n caps':=by
 unfold St.settle1;split
 ·exact y2B h
 ·exact y2B h
 ·exact y2n _ h
 ·exact ⟨caps,h⟩
theorem y3l{i:Nat}{n:FuncId}:∀ (l:List SV) {s:St} {caps:List Cap},s.get i=.clo n caps->∃ caps',(settleCells1 l s).get i=.clo n caps'
 |[],_,caps,h=>⟨caps,h⟩
 |sv::l,_,_,h=>let ⟨_,h'⟩:=y8Z sv h;y3l l h'
theorem yHu{i:Nat}{n:FuncId}{caps:List Cap}(sv:SV)(h:s.get i=.clo n caps):∃ caps',(s.settle sv).get i=.clo n caps':=by
 unfold St.settle;split
 ·split
  ·obtain ⟨caps',h'⟩:=y3l _ h;exact y2B h'
  ·exact y2B h
 ·exact y2B h
 ·exact y8Z _ h
theorem y1N{i:Nat}{n:FuncId}:∀ (xs:List Operand) {s:St} {caps:List Cap},s.get i=.clo n caps->∃ caps',(settleAll xs s).get i=.clo n caps'
 |[],_,caps,h=>⟨caps,h⟩
 |.tmp t::l,s,_,h=>let ⟨_,h'⟩:=yHu (s.get t) h;y1N l h'
 |.const _::l,_,_,h=>y1N l h
 |.global _::l,_,_,h=>y1N l h
 |.func _::l,_,_,h=>y1N l h
theorem yKx{T:List (TypeId×TyI)}{f:Operand}{n:FuncId}{caps:List Cap}(h:y9 T 0 s f=.clo n caps)(xs:List Operand):∃ caps',y9 T 0 (settleAll xs s) f=.clo n caps':=by
 cases f with
 |tmp t=>exact y1N xs h
 |const v=>exact ⟨caps,h⟩
 |global k=>exact ⟨caps,h⟩
 |func k=>cases h;exact ⟨[],rfl⟩
theorem yAL(h:Rel P A0 w0 ρ s a w):∀ (xs:List Operand) (ts:List TypeId),∀ sv∈y2m g.T s xs ts,sv.inn s.cH.length
 |[],_=>λ sv hs=>by simp[y2m]at hs
 |x::l,ts=>λ sv hs=>by
  simp only[y2m,mem_cons]at hs;rcases hs with rfl|hs
  ·exact (y3 h _ x).2
  ·exact yAL h l ts.tail sv hs
theorem y4Q{n:Nat}:∀ {cs:List Cap},y0K n cs->∀ sv∈y1e cs,sv.inn n
 |[],_=>λ sv hs=>by simp[y1e]at hs
 |.box β::cs,h=>λ sv hs=>by
  simp only[y1e,mem_cons]at hs;rcases hs with rfl|hs
  ·exact h.1
  ·exact y4Q h.2 sv hs
 |.val t x::cs,h=>λ sv hs=>by
  simp only[y1e,mem_cons]at hs;rcases hs with rfl|hs
  ·trivial
  ·exact y4Q (cs:=cs) h sv hs
def Back(P:Program)(A0:Nat->Prop)(w0:Base)(a:Act)(K:SV->St->Option R)(r:R)(ex:Ending)(w':World):Prop:=
 ∃ v ρ' s' sv,ex=.returned v/\Rel P A0 w0 ρ' s' a w'/\yF P (Av A0 ρ' s'.cH) w' ρ' sv v/\sv.inn s'.cH.length/\K sv s'=some r
def y6s(P:Program)(call:(R:Type)->y0N R):Prop:=
 ∀ {A0:Nat->Prop} {w0:Base} {ρ:Places} {s:St} {a:Act} {w:World} {R:Type} {K:SV->St->Option R} {r:R} {n:FuncId} {svs:List SV} {vs:List Value},
  Rel P A0 w0 ρ s a w->yD P (Av A0 ρ s.cH) w ρ svs vs->(∀ sv∈svs,sv.inn s.cH.length)->call R (.fn n) svs s K=some r ->
   y3g P n/\Calls P n vs.toArray w (Back P A0 w0 a K r)
def y3M(P:Program)(call:(R:Type)->y0N R):Prop:=
 ∀ {A0:Nat->Prop} {w0:Base} {ρ:Places} {s:St} {a:Act} {w:World} {R:Type} {K:SV->St->Option R} {r:R} {info:LpInfo} {svs:List SV} {vs:List Value} {l β i:Nat} {cells:List SV} {ext:List Value} {kept:List SV} {fnn:FuncId},
  Rel P A0 w0 ρ s a w->yD P (Av A0 ρ s.cH) w ρ svs vs->(∀ sv∈svs,sv.inn s.cH.length)->w0.ext=.func (.yield l) #[] #[]::ext->s.kept=.yld β::kept ->
  s.cH[β]?=some (some (.lp i info cells .ready))->call R (.round info) svs s K=some r->RoundIn (y3V none) 0 P l fnn vs.toArray info.assign info.body w (Back P A0 w0 a K r)
def Base.push(w0:Base)(v:Value):Base:={ w0 with ext:=v::w0.ext }
theorem Rel.push(h:Rel P A0 w0 ρ s a w){sv:SV}{v:Value}(hv:yF P (Av A0 ρ s.cH) w ρ sv v)(hi:sv.inn s.cH.length):Rel P A0 (w0.push v) ρ { s with kept:=sv::s.kept } a w:=
 ⟨h.size,h.slots,h.cH,h.inj,h.names,h.cN,h.below,h.dom,h.defers,h.dep,h.lpi,h.round,h.glob,by simp[Base.push,h.kZ],
  λ i sv' hs=>by
   cases i with
   |zero=>simp at hs;subst hs;exact hv
   |succ i=>exact h.kS i sv' (by simpa using hs),
  λ i sv' hs=>by
   cases i with
   |zero=>simp at hs;subst hs;exact hi
   |succ i=>exact h.kN i sv' (by simpa using hs),h.subs⟩
theorem Rel.pop{sv:SV}{kept:List SV}{v:Value}(h:Rel P A0 (w0.push v) ρ s a w)(hk:s.kept=sv::kept):Rel P A0 w0 ρ { s with kept:=kept } a w:=
 ⟨h.size,h.slots,h.cH,h.inj,h.names,h.cN,h.below,h.dom,h.defers,h.dep,h.lpi,h.round,h.glob,by have:=h.kZ;rw[hk]at this;simpa[Base.push]using this,
  λ i sv' hs=>h.kS (i+1) sv' (by rw[hk];simpa using hs),λ i sv' hs=>h.kN (i+1) sv' (by rw[hk];simpa using hs),h.subs⟩
theorem y3o{A:Nat->Prop}:∀ (ps:List Tmp) (svs:List SV) (vs:List Value) (l:List SV) (t:Array Value),yD P A w ρ svs vs->yD P A w ρ l t.toList ->
  yD P A w ρ (y0b ps svs l) ((ps.zip vs).foldl (λ (tmps:Array Value) (p:Tmp×Value)=>tmps.setIfInBounds p.1 p.2) t).toList
 |[],svs,vs,l,t,_,h=>by unfold y0b;simpa using h
 |p::ps,[],vs,l,t,hv,h=>by
  have:vs=[]:=List.eq_nil_of_length_eq_zero (by simpa using hv.1)
  subst this;unfold y0b;simpa using h
 |p::ps,x::xs,vs,l,t,hv,h=>by
  cases vs with
  |nil=>have:=hv.1;simp at this
  |cons v vs =>
   unfold y0b;simp only[List.zip_cons_cons,List.foldl_cons];refine y3o ps xs vs _ _ ⟨by have:=hv.1;simpa using this,λ i sv hi=>by simpa using hv.2 (i+1) sv (by simpa using hi)⟩ ⟨by simpa using h.1,λ i sv hi=>?_⟩
   obtain ⟨u,hu,h0⟩:=hv.2 0 x rfl;simp at hu;subst hu;by_cases hpi:p=i
   ·subst hpi;have hlt:p < l.length:=by
     have:=(List.getElem?_eq_some_iff.1 hi).1;simpa using this
    rw[getElem?_set_self hlt]at hi;cases hi;have hlt2:p < t.size:=by have:=h.1;rw[Array.length_toList]at this;exact this ▸ hlt
    exact ⟨v,by simp[Array.getElem?_setIfInBounds,hlt2],h0⟩
   ·rw[getElem?_set_ne hpi]at hi;obtain ⟨u,h1,h2⟩:=h.2 i sv hi;exact ⟨u,by rw[Array.getElem?_toList]at h1 ⊢;rw[Array.getElem?_setIfInBounds_ne hpi];exact h1,h2⟩
theorem y5N{n:Nat}:∀ (ps:List Tmp) (svs l:List SV),(∀ sv∈svs,sv.inn n)->(∀ sv∈l,sv.inn n)->∀ sv∈y0b ps svs l,sv.inn n
 |[],svs,l,_,h=>by unfold y0b;exact h
 |p::ps,[],l,_,h=>by unfold y0b;exact h
 |p::ps,x::xs,l,hx,h=>by
  unfold y0b;refine y5N ps xs _ (λ sv hs=>hx sv (mem_cons_of_mem _ hs)) (λ sv hs=>?_)
  rcases List.mem_or_eq_of_mem_set hs with hs|rfl
  ·exact h sv hs
  ·exact hx _ (mem_cons_self ..)
theorem y9I{args:Array Operand}{ts:Array TypeId}{f:Operand}(ho:o.op=.call { callee:=.value f,args,argTypes:=ts }){l:Nat}{rec':Loop}
  (hf:a.eval f=.func (.yield l) #[] #[]) (hl:w.heap[l]?=some (.loop rec')) (hs:args.size=rec'.params.size) :
  (execOp a.eval o).run P w=.ok (.round l rec'.fn ((rec'.params.zip (args.map a.eval)).foldl (λ tmps (t,v)=>tmps.setIfInBounds t v) rec'.tmps) rec'.assign rec'.body) w:=by
 have hl':=run_getLoop (P:=P) hl;simp only[execOp,ho,resolve,hf,Deferred.ofValue,Sem.run_bind,Sem.run_pure,Result.andThen_ok,invoke,callFunc,Array.empty_append,Array.append_empty,Instr.yield,hl'];simp[hs]
theorem yCU{call:(R:Type)->y0N R}(hRd:y3M P call)(h:Rel P A0 w0 ρ s a w){args:Array Operand}{ts:Array TypeId}{f:Operand}(ho:o.op=.call { callee:=.value f,args,argTypes:=ts })
  {β:Nat} (hev:y9 g.T 0 s f=.yld β) (hk:y9l g (call R) s o { callee:=.value f,args,argTypes:=ts } f β K=some r):OpTo P w0.ro o a w (Goes P A0 w0 K r):=by
 unfold y9l at hk;split at hk
 ·rename_i i info cells hch;dsimp only at hk;obtain ⟨hlen,hk⟩:=yG hk;have hc:=getD_some hch;obtain ⟨hs,hin⟩:=y3 (T:=g.T) h 0 f;rw[hev]at hs hin;obtain ⟨b,hb,hfv⟩:=hs;obtain ⟨b',rec',hb',g1,⟨g2,g3,g4,_,_⟩,g5,g6⟩:=(h.cH β _ hc).1;rw[hb]at hb';cases hb';have hargs:=y1k (g:=g) h args.toList ts.toList;have hsz:args.size=rec'.params.size:=by
   have:=hargs.1;simp only[List.length_map,Array.length_toList]at this;rw[this,hlen,g2]
  have hcells:yD P (Av A0 ρ s.cH) w ρ cells rec'.tmps.toList:=⟨by simpa using g5,λ i sv hi=>by simpa using g6 i sv hi⟩
  have hslots:=y3o info.ps.toList _ _ cells rec'.tmps hargs hcells;have hP:=h.push (sv:=.yld β) (v:=.func (.yield b) #[] #[]) ⟨b,hb,rfl⟩ hin;have hrun:=y9I (P:=P) (w:=w) ho hfv g1 hsz;have hround:=hRd (fnn:=rec'.fn) hP hslots (y5N _ _ _ (yAL h _ _) (h.cN β _ hc)) rfl rfl hc hk;intro next Q' hn
  refine ⟨λ _ _=>trivial,?_⟩
  rw[Oper.semAt_eq _ _ _ (by rw[ho];intro c hc;cases hc),hrun,Oper.uponIn_round]
  refine ⟨λ h=>(by cases h),?_⟩
  have e1:((rec'.params.zip (args.map a.eval)).foldl (λ tmps (t,v)=>tmps.setIfInBounds t v) rec'.tmps)=((info.ps.toList.zip (args.toList.map a.eval)).foldl (λ (tmps:Array Value) (p:Tmp×Value)=>tmps.setIfInBounds p.1 p.2) rec'.tmps):=by
   rw[g2,<- Array.foldl_toList];simp
  rw[e1,g3,g4];simp only[Array.toArray_toList]at hround;refine (yKY (ro':=w0.ro) hround).mono λ e w' hq=>?_
  obtain ⟨v,ρ',s',sv,rfl,h1,h2,h3,h4⟩:=hq;dsimp only at h4;split at h4
  ·rename_i β' kept hkp;split at h4
   ·rename_i bb;refine hn _ _ ⟨ρ',_,(h1.pop hkp).put o.dst h3 h2,h4⟩
   ·cases h4
  ·cases h4
 ·cases hk
theorem y8c(keep:List Nat):∀ (l:List SV) (k i:Nat) (sv':SV),(y3z keep k l)[i]?=some sv'->l[i]?=some sv'\/sv'=.undef
 |[],_,i,_,h=>by simp[y3z]at h
 |sv::l,k,i,sv',h=>by
  simp only[y3z]at h;cases i with
  |zero =>
   simp only[getElem?_cons_zero,Option.some.injEq]at h;subst h;split
   ·exact .inl rfl
   ·exact .inr rfl
  |succ i=>simpa using y8c keep l (k+1) i sv' (by simpa using h)
theorem y4u(keep:List Nat):∀ (l:List SV) (k:Nat),(y3z keep k l).length=l.length
 |[],_=>rfl
 |sv::l,k=>by simp[y3z,y4u keep l (k+1)]
theorem Rel.live(h:Rel P A0 w0 ρ s a w)(o:Option (List Nat)):Rel P A0 w0 ρ (s.live o) a w:=by
 cases o with
 |none=>exact h
 |some l =>
  have hsl:(s.live (some l)).slots=y3z l 0 s.slots:=Slots.toList_ofList _;have hg:∀ (i:Nat) (x:SV),(s.live (some l)).slots[i]?=some x->x=.undef\/s.slots[i]?=some x:=λ i x hi=>by
   rw[hsl]at hi;rcases y8c l _ _ _ _ hi with h1|h1
   ·exact .inr h1
   ·exact .inl h1
  refine ⟨by rw[hsl,y4u];exact h.size,λ i x hi=>?_,h.cH,h.inj,λ i x hi=>?_,h.cN,h.below,h.dom,h.defers,h.dep,h.lpi,h.round,h.glob,h.kZ,h.kS,h.kN,h.subs⟩
  ·rcases hg i x hi with rfl|hi
   ·trivial
   ·exact h.slots i x hi
  ·rcases hg i x hi with rfl|hi
   ·trivial
   ·exact h.names i x hi
theorem yIT{d:Option Nat}{n:FuncId}{e:Entry}(h:yJX g d n=some e):y6x g.E n=some e:=by
 unfold yJX at h;split at h
 ·cases h
 ·exact h
theorem yEi{call:(R:Type)->y0N R}(hC:y6s P call)(hRd:y3M P call)(hE:∀ e∈g.E,FnOK P e)(h:Rel P A0 w0 ρ s a w){args:Array Operand}{ts:Array TypeId}{f:Operand}(ho:o.op=.call { callee:=.value f,args,argTypes:=ts }){dr:Bool}
  (hk:yE7 g (call R) dr s o { callee:=.value f,args,argTypes:=ts } f K=some r):OpTo P w0.ro o a w (Goes P A0 w0 K r):=by
 unfold yE7 at hk;split at hk
 ·rename_i n caps hev;split at hk
  ·rename_i e he;obtain ⟨hm,rfl⟩:=y2N (yIT he);have hs:=(y3 (T:=g.T) h 0 f).1;rw[hev]at hs;obtain ⟨vs,hfv,hr⟩:=hs;obtain ⟨hEn,hF,_⟩:=hE e hm;refine y4J hE h ho hEn hfv (cv:=vs) (λ A' x l us y hG' hA1 hA2 hx hg hy=>?_) ?_ (λ xs=>?_) (λ xs n hn=>y1E xs hn) hk
   ·have:=hF A' w x l y hG' hA1 hx hy;rw[hg]at this;exact this
   ·unfold y0r;rw[hev];exact y1q hr
   ·obtain ⟨caps',hev'⟩:=yKx hev xs;have hS:=Rel.settleAll xs h;have hs':=(y3 (T:=g.T) hS 0 f).1;rw[hev']at hs';obtain ⟨vs',hfv',hr'⟩:=hs';rw[hfv]at hfv';simp only[Value.func.injEq]at hfv';have e1:vs=vs':=by have:=congrArg Array.toList hfv'.2.2;simpa using this
    unfold y0r;rw[hev',e1];exact y1q hr'
  ·split at hk
   ·cases hk
   ·have hs:=y3 (T:=g.T) h 0 f;rw[hev]at hs;obtain ⟨⟨vs,hfv,hr⟩,hin⟩:=hs;have hcaps:y0r g.T f s=y1e caps:=by unfold y0r;rw[hev]
    rw[hcaps]at hk;have hL:=h.live g.lv;have hcl:(s.live g.lv).cH=s.cH:=by cases g.lv<;>rfl
    obtain ⟨hEn,hCalls⟩:=hC hL (by rw[hcl];exact (y1k (g:=g) h args.toList ts.toList).append (y1q hr)) (λ sv hs=>by
     rw[hcl];rcases mem_append.1 hs with hs|hs
     ·exact yAL h _ _ sv hs
     ·exact y4Q hin sv hs) hk
    refine OpTo.of_calls (by rw[ho];intro c hc;cases hc) (y5G ho hfv hEn) hCalls ?_
    rintro e w' ⟨v,ρ',s',sv,rfl,hR,hv,hi,hK⟩
    exact ⟨_,rfl,ρ',_,hR.put o.dst hi hv,hK⟩
 ·rename_i ta tb m hev;have hs:=(y3 (T:=g.T) h 0 f).1;rw[hev]at hs;obtain ⟨l0,hl0,hfv⟩:=hs;simp only[y6]at hl0;rcases hl0 with ⟨rfl,hnone⟩|⟨n,first,caps,S,rfl,hEn,hS,hd⟩
  ·have bad:∀ {E:List Entry} {cs:List (Option Chunk)} {svs:List SV} {k:tb.den->Option R},((y1V E cs ta svs).bind λ x=>(m x).bind k)=some r->False:=by
    intro E cs svs k hb;obtain ⟨x,_,h2⟩:=bind_eq_some_iff.1 hb;rw[hnone x]at h2;cases h2
   unfold y12 at hk;split at hk
   ·exact (bad hk).elim
   ·split at hk
    ·exact (bad hk).elim
    ·exact (bad hk).elim
  ·refine y4J hE h ho (cv:=[]) (first:=first.toList) (caps:=caps.toList) hEn (by rw[hfv];simp[Ty.wrap,Ty.agg]) (λ A' x l us y hG' hA1 hA2 hx hg hy=>?_) ⟨rfl,λ i sv hi=>by simp at hi⟩ (λ xs=>⟨rfl,λ i sv hi=>by simp at hi⟩) (λ xs n hn=>y1E xs hn) hk
   have:=hd A' w hG' (λ _ _=>rfl) (λ n hn=>⟨hA1 n hn,λ hSn=>(hS n hSn).1 (hA2 n hn)⟩) x l y hx hy
   rw[hg,append_nil]at this;have e1:first++us.toArray++caps=(first.toList++us++caps.toList).toArray:=by apply Array.toList_inj.1;simp
   rw[<- e1];exact this
 ·rename_i β hev;split at hk
  ·cases hk
  ·exact yCU hRd h ho hev hk
 ·cases hk
theorem yI9(hE:∀ e∈g.E,FnOK P e)(h:Rel P A0 w0 ρ s a w){q:TypeId×Ty}(hq:y2k g o=some q)(hk:ownK g s o q K=some r):OpTo P w0.ro o a w (Goes P A0 w0 K r):=by
 unfold ownK at hk;split at hk
 ·rename_i n args ts ho;unfold y2k at hq;rw[ho]at hq;dsimp only at hq;obtain ⟨_,hq1⟩:=yG hq;clear hq;obtain ⟨e,he,hq2⟩:=bind_eq_some_iff.1 hq1;clear hq1;obtain ⟨hm,rfl⟩:=y2N he;obtain ⟨hEn,_,hO,_⟩:=hE e hm;have hO:=hO q hq2;split at hk
  ·rename_i x t hargs hts;have hS:=h.settle (y9 g.T t s x);generalize s.settle (y9 g.T t s x)=s1 at hk hS;obtain ⟨ys,hy,hk⟩:=bind_eq_some_iff.1 hk;have hle:List.length ys<=memMax:=by
    by_cases hle:List.length ys<=memMax
    ·exact hle
    ·rw[decide_eq_false hle]at hk;cases hk
   rw[decide_eq_true hle,cond_true]at hk;obtain ⟨l,h1,h2⟩:=y01 (y3 (T:=g.T) hS t x).1 hy;have hf:a.eval (.func e.f)=.func (.func e.f) ([]:List Value).toArray ([]:List Value).toArray:=rfl;have hrun:=y5G (P:=P) (w:=w) ho hf hEn;rw[hargs]at hrun;simp only[map_cons,List.map_nil,nil_append,append_nil]at hrun;obtain ⟨p,c,m,hl,hp0,hpc,hml,hmx,hmc⟩:∃ (p:Option Addr) (c:Nat) (m:List Value),l=[.slice p (List.length ys) c]/\(p=none->List.length ys=0)/\(∀ ad,p=some ad->∀ j v,m[j]?=some v->w.cell? (ad.add j)=some v) /\
     m.length=List.length ys * q.2.size/\(∀ v∈m,v.oneCell'=true)/\∀ (i:Nat) (x:q.2.den),(ys:List q.2.den)[i]?=some x->y6 P q.2 (Av A0 ρ s1.cH) w x ((m.drop (i * q.2.size)).take q.2.size):=by
    rcases y0A h1 with ⟨rfl,p,c,rfl⟩|⟨b1,off,c,m,rfl,hm1,hm2⟩
    ·exact ⟨p,c,[],rfl,λ _=>rfl,λ _ _ j v hj=>by simp at hj,by simp,λ v hv=>by simp at hv,λ i x hx=>by simp at hx⟩
    ·refine ⟨some ⟨b1,off,none⟩,c,m,rfl,(λ hp=>by cases hp),λ ad had j v hj=>?_,hm2.length,λ v hv=>yp (y6.plain hm2 v hv),λ i x hx=>?_⟩
     ·cases had;rw[y0G];exact hm1 j v hj
     ·simp only[y6]at hm2;exact hm2.2.2 i x hx
   subst hl;have hav:a.eval x=.slice p (List.length ys) c:=h2;rw[hav]at hrun;have hcall:=hO w p (List.length ys) c m hml hle hp0 hpc hmx;refine OpTo.of_calls (by rw[ho];intro c hc;cases hc) hrun hcall ?_
   rintro ex w' ⟨v',rfl,⟨_,hown⟩,hB⟩
   have hcs:s1.cH.length < (s1.cH++[some (Chunk.arr q.1 q.2 ys false)]).length:=by simp
   rcases hown with ⟨rfl,hn0⟩|⟨gb,cap,cur,rfl,hgb,hg,hnc,hcm,hcs2,htk⟩
   ·have hys:ys=([]:List q.2.den):=List.eq_nil_of_length_eq_zero hn0;subst hys;have h3:=hS.newChunk (.arr q.1 q.2 ([]:List q.2.den) false) ⟨none,0,0,[],[],[]⟩ hB (λ b hb=>by cases hb) trivial (λ A hA _=>⟨rfl,(λ h=>by cases h),.inl ⟨rfl,rfl,rfl⟩⟩)
    refine ⟨_,rfl,_,_,h3.put o.dst (sv:=.own s1.cH.length) hcs ?_,hk⟩;show _=Value.slice _ _ _
    rw[Places.set_self];rfl
   ·have h3:=hS.newChunk (.arr q.1 q.2 ys false) ⟨some gb,List.length ys,cap,[],[],[]⟩ hB (λ b hb=>by cases hb;exact hgb) trivial (λ A hA _=>by
     refine ⟨rfl,(λ h=>by cases h),.inr ⟨gb,cur,rfl,hg,hnc,hcm,hcs2,λ i x hi=>?_⟩⟩
     have hi1:i < List.length ys:=(List.getElem?_eq_some_iff.1 hi).1;have hsz:i * q.2.size+q.2.size<=List.length ys * q.2.size:=by rw[<- succ_mul];exact mul_le_mul_right _ hi1
     have e1:(cur.toList.drop (i * q.2.size)).take q.2.size=(m.drop (i * q.2.size)).take q.2.size:=by
      rw[<- htk,List.drop_take,List.take_take,min_eq_left (by omega)]
     rw[e1];exact (hmc i x hi).mono (λ n hn _=>hB.block n hn) hA)
    refine ⟨_,rfl,_,_,h3.put o.dst (sv:=.own s1.cH.length) hcs ?_,hk⟩;show _=Value.slice _ _ _
    rw[Places.set_self];rfl
  ·cases hk
 ·cases hk
theorem yD7(hE:∀ e∈g.E,FnOK P e)(h:Rel P A0 w0 ρ s a w){q:TV}(hq:y9d g o=some q)(hk:K (s.put o.dst (.xV q.t q.x))=some r):OpTo P w0.ro o a w (Goes P A0 w0 K r):=by
 unfold y9d at hq;split at hq
 ·rename_i n args ts ho;obtain ⟨hc,hq1⟩:=yG hq;simp only[and_eq_true,beq_iff_eq]at hc;have hargs:args=#[]:=Array.eq_empty_of_size_eq_zero hc.2;subst hargs;obtain ⟨e,he,hq2⟩:=bind_eq_some_iff.1 hq1;obtain ⟨hm,rfl⟩:=y2N he;obtain ⟨hEn,_,_,hX⟩:=hE e hm;have hX:=hX q hq2;have hf:a.eval (.func e.f)=.func (.func e.f) ([]:List Value).toArray ([]:List Value).toArray:=rfl;have hrun:=y5G (P:=P) (w:=w) ho hf hEn;simp only[List.map_nil,nil_append,append_nil]at hrun;have hcall:=hX (Av A0 ρ s.cH) w h.globW (λ n hn=>h.av_lt hn)
  refine OpTo.of_calls (by rw[ho];intro c hc;cases hc) hrun hcall ?_
  rintro ex w' ⟨l,rfl,hl,hex,hB⟩
  exact ⟨_,rfl,_,_,(h.step hB).put o.dst (sv:=.xV q.t q.x) trivial ⟨l,hl,rfl,hex⟩,hk⟩
 ·cases hq
theorem yAE(hE:∀ e∈g.E,FnOK P e)(hT:yw P g.T)(h:Rel P A0 w0 ρ s a w)(hk:effX g s o K=some r):OpTo P w0.ro o a w (Goes P A0 w0 K r):=by
 unfold effX at hk;split at hk
 ·rename_i q hq;exact yI9 hE h hq hk
 split at hk
 ·rename_i q hq;exact yD7 hE h hq hk
 ·exact (yA4 hE hT h hk).opTo (λ c hc=>by simp[effK,hc]at hk)
end
end Go.Vx
end
section
namespace Go.Vx
open Go.RowKit
variable [GT]
section
variable {R:Type} {g:G} {s:St} {o:Oper}
theorem yMY(op:BinOp)(k:IntKind)(a b:Int)(K:SV->Option R):intK op k a b K=(intK op k a b some).bind K:=by
 unfold intK;split<;>first|rfl|(cases (b == 0)<;>rfl)
theorem yAI(op:BinOp)(k:IntKind)(a b:Int)(K:SV->Option R):y9q op k a b K=(y9q op k a b some).bind K:=by
 unfold y9q;cases decide (b < 0)
 ·simp only[cond_false];split<;>rfl
 ·rfl
theorem yNG(op:BinOp)(a b:List UInt8)(K:SV->Option R):strK op a b K=(strK op a b some).bind K:=by
 unfold strK;split<;>first|rfl|(cases decide (a.length+b.length < strMax)<;>rfl)
theorem yNO(op:BinOp)(k:FloatKind)(a b:Nat)(K:SV->Option R):fltK op k a b K=(fltK op k a b some).bind K:=by
 unfold fltK;cases op<;>first|rfl|simp only[bind_assoc,bind_some]
theorem yCm(op:BinOp)(k:FloatKind)(a b:Nat×Nat)(K:SV->Option R):y3d op k a b K=(y3d op k a b some).bind K:=by
 unfold y3d;cases op<;>rfl
theorem yKJ(xs:List SV)(K:SV->Option R):yM0 xs K=(yM0 xs some).bind K:=by
 unfold yM0;split
 ·split<;>rfl
 ·rfl
theorem yKj(xs:List SV)(K:SV->Option R):yKF xs K=(yKF xs some).bind K:=by
 unfold yKF;split<;>rfl
theorem yK0(xs:List SV)(K:SV->Option R):yKX xs K=(yKX xs some).bind K:=by
 unfold yKX;split<;>rfl
theorem yGZ(ty:Ty)(op:BinOp)(t:Ty)(p:t.den)(u:Ty)(q:u.den)(K:SV->Option R):aggK ty op t p u q K=(aggK ty op t p u q some).bind K:=by
 unfold aggK;split
 ·split
  ·split<;>rfl
  ·rfl
 ·rfl
theorem yMl(ty:Ty)(op:BinOp)(x y:SV)(K:SV->Option R):binK ty op x y K=(binK ty op x y some).bind K:=by
 unfold binK;split
 ·split
  ·exact yAI ..
  ·exact yAI ..
  ·split
   ·exact yMY ..
   ·rfl
 ·exact yNG ..
 ·split
  ·split<;>rfl
  ·rfl
 ·split
  ·exact yNO ..
  ·rfl
 ·split
  ·exact yCm ..
  ·rfl
 ·split
  ·split<;>rfl
  ·split<;>rfl
  ·rfl
 ·exact yGZ ..
 ·exact yGZ ..
 ·rfl
theorem yOr(op:UnOp)(x:SV)(K:SV->Option R):unK op x K=(unK op x some).bind K:=by
 unfold unK;split<;>rfl
theorem yNH(ty:Ty)(cs:List (Option Chunk))(x:SV)(K:SV->Option R):lenK ty cs x K=(lenK ty cs x some).bind K:=by
 unfold lenK;split
 ·split<;>rfl
 ·split<;>rfl
 ·split<;>rfl
 ·split<;>rfl
 ·split
  ·split<;>rfl
  ·rfl
 ·split
  ·split
   ·simp only[bind_assoc,bind_some]
   ·rfl
  ·rfl
 ·split<;>rfl
theorem yEo{u:Ty}{q:Nat}{v:Ty}{x:u.den}{off:Nat}{τ:Ty}{β n:Nat}(K:SV->Option R):y96 u q v x off τ β n K=(y96 u q v x off τ β n some).bind K:=by
 unfold y96;split
 ·rfl
 ·rw[bind_assoc];congr 1
  funext x0
  rw[bind_assoc];congr 1
  funext y
  split<;>rfl
theorem y4V{α:Type}(xs:List α)(lo hi:Option Int)(F:List α->SV)(K:SV->Option R):(y5b xs lo hi λ ys=>K (F ys))=(y5b xs lo hi λ ys=>some (F ys)).bind K:=by
 unfold y5b;split
 ·rfl
 ·rename_i l;cases (decide (0<=l) && decide (l<=(xs.length:Int)))<;>rfl
 ·rename_i h;cases (decide (0<=h) && decide (h<=(xs.length:Int)))<;>rfl
 ·rename_i l h;cases (decide (0<=l) && decide (l<=h) && decide (h<=(xs.length:Int)))<;>rfl
theorem yG8(mx:Bool)(xs:List SV)(K:SV->Option R):maxK mx xs K=(maxK mx xs some).bind K:=by
 unfold maxK;split
 ·split<;>rfl
 ·rw[bind_assoc];congr 1
  funext r
  split<;>rfl
 ·rfl
theorem yr{α:Type}(x:Option α)(F:α->SV)(K:SV->Option R):(x.bind λ y=>K (F y))=(x.bind λ y=>some (F y)).bind K:=by cases x<;>rfl
theorem yLq(f:FuncId)(first:List Operand)(K:SV->Option R):yB9 g s f first K=(yB9 g s f first some).bind K:=by
 unfold yB9;split
 ·rename_i t _ _ _ _ _ _;cases Ty.solid t
  ·rfl
  ·simp only[cond_true];rw[bind_assoc];rfl
 ·rfl
theorem yLM(cs:List (Option Chunk))(sv:SV)(K:SV->Option R):y9L cs sv K=(y9L cs sv some).bind K:=by
 unfold y9L;split
 ·split
  ·rename_i xs _ _;cases decide (0 < List.length xs)<;>rfl
  ·rfl
 ·rfl
theorem yNE(sv:SV)(K:SV->Option R):ptrK sv K=(ptrK sv some).bind K:=by
 unfold ptrK;split<;>rfl
theorem y66(K:SV->Option R):yh g s o K=(yh g s o some).bind K:=by
 unfold yh;split
 ·rfl
 ·rfl
 ·split
  ·rename_i p _;cases p<;>rfl
  ·rfl
 ·split
  ·rfl
  split
  ·exact yr ..
  ·split
   ·split
    ·exact yr ..
    ·exact yr (F:=λ y=>y) ..
   ·rfl
  ·split
   ·split
    ·simp only[bind_assoc,bind_some]
    ·rfl
   ·split
    ·rw[bind_assoc];congr 1
     funext x
     exact yEo ..
    ·rfl
   ·rfl
  ·split
   ·split
    ·simp only[bind_assoc,bind_some]
    ·rfl
   ·rfl
  ·rfl
 ·split
  ·rfl
  ·split
   ·rfl
   ·rfl
   ·exact yMl ..
 ·exact yOr ..
 ·split
  ·rfl
  ·split
   ·split<;>rfl
   ·split<;>rfl
   ·split
    ·exact yr ..
    ·exact yr ..
    ·rfl
   ·rfl
 ·split
  ·split
   ·exact yr ..
   ·rfl
  ·split
   ·split
    ·rw[bind_assoc];congr 1
     funext p
     rw[bind_assoc];congr 1
     funext j
     split
     ·exact yr ..
     ·exact yr (F:=λ y=>y) ..
    ·rfl
   ·rfl
  ·rfl
 ·split
  ·split
   ·exact yr ..
   ·rfl
  ·split
   ·exact yr ..
   ·rfl
  ·split
   ·exact yr ..
   ·rfl
  ·split
   ·exact yr ..
   ·rfl
  ·rfl
 ·split
  ·split
   ·exact yr ..
   ·rfl
  ·split
   ·exact yr ..
   ·rfl
  ·split
   ·exact yr ..
   ·rfl
  ·split
   ·split
    ·exact yr ..
    ·rfl
   ·split
    ·exact yr ..
    ·rfl
   ·rfl
  ·split
   ·split
    ·simp only[bind_assoc,bind_some]
    ·rfl
   ·rfl
  ·rename_i n _ _ _ _ _;split
   ·rename_i m _ _;cases hb:(decide (0<=n) && decide (n < (m:Int)))<;>rfl
   ·rfl
  ·rfl
 ·split
  ·split
   ·exact yr ..
   ·rfl
  ·split
   ·exact yr ..
   ·rfl
  ·rfl
 ·split
  ·split
   ·rw[bind_assoc];congr 1
    funext y
    unfold yBK;split<;>rfl
   ·rfl
  ·split
   ·split
    ·rw[bind_assoc];congr 1
     funext y
     generalize yIC _ _ y=b;cases b<;>rfl
    ·rfl
   ·rfl
  ·rfl
 ·split
  ·exact yr ..
  ·rfl
 ·split
  ·rfl
  ·split
   ·exact yr ..
   ·rfl
 ·split
  ·split
   ·split
    ·exact yr ..
    ·rfl
   ·split
    ·exact yr ..
    ·rfl
   ·rfl
  ·rfl
 ·split
  ·rfl
  ·split
   ·split
    ·split
     ·exact yr ..
     ·rfl
    ·rfl
   ·rfl
 ·split
  ·exact yr ..
  ·split
   ·exact yLq ..
   ·rfl
 ·split
  ·split
   ·split
    ·exact y4V ..
    ·rfl
   ·split
    ·exact y4V ..
    ·rfl
   ·split
    ·exact y4V ..
    ·rfl
   ·split
    ·exact y4V ..
    ·rfl
   ·rfl
  ·rfl
 ·split
  ·split
   ·split
    ·exact yNH ..
    ·rfl
   ·rfl
  ·exact yG8 ..
  ·exact yG8 ..
  ·exact yKJ ..
  ·exact yKj ..
  ·exact yK0 ..
  ·split
   ·exact yLM ..
   ·rfl
  ·rfl
 ·exact yNE ..
 ·rfl
theorem y3F{α:Type}(x:Option α)(F:α->St)(K:St->Option R):(x.bind λ y=>K (F y))=(x.bind λ y=>some (F y)).bind K:=by cases x<;>rfl
theorem yMV{c:Prop}[Decidable c]{a b:Option R}{a' b':Option St}{K:St->Option R}(h1:a=a'.bind K)(h2:b=b'.bind K):(if c then a else b)=(if c then a' else b').bind K:=by
 split<;>assumption
theorem yNZ{t:TypeId}{m key x:Operand}(K:St->Option R):putM g s o t m key x K=(putM g s o t m key x some).bind K:=rfl
theorem yH1{t:TypeId}{m key x:Operand}(K:St->Option R):putK g s o t m key x K=(putK g s o t m key x some).bind K:=by
 unfold putK;split
 ·exact yNZ K
 dsimp only;split
 ·split
  ·split
   ·simp only[bind_assoc,bind_some]
   ·rfl
  ·rfl
 ·rfl
theorem y9K{b x:Operand}{t t':TypeId}(K:St->Option R):y1f g s o b x t t' K=(y1f g s o b x t t' some).bind K:=by
 unfold y1f;split
 ·split
  ·split
   ·rename_i i β bs _ _ _ _ e xs nn _ _;cases decide (List.length xs+List.length bs<=memMax)<;>rfl
   ·rfl
  ·rfl
 ·rfl
theorem yDY{x n:Operand}{t:TypeId}(K:St->Option R):y5J g s o x n t K=(y5J g s o x n t some).bind K:=by
 unfold y5J;split
 ·split
  ·split
   ·split
    ·rename_i m _ _ _ _ e xs _ _ _ _ _ _;cases (m == (List.length xs:Int) && decide (0 < List.length xs) && yAs xs)<;>rfl
    ·rfl
   ·rfl
  ·rfl
 ·rfl
theorem y6Y{e:TypeId}{i:TyI}{d:Option Nat}(K:St->Option R):y3U g s e i d K=(y3U g s e i d some).bind K:=by
 unfold y3U;split
 ·rfl
 ·dsimp only;split<;>rfl
theorem yDa(c:Bool)(x:St)(K:St->Option R):(bif c then K x else none)=(bif c then some x else none:Option St).bind K:=by cases c<;>rfl
theorem yB6{i:TyI}{ad:Operand}{β off:Nat}{u:Ty}{cells:List SV}{sv:SV}(K:St->Option R):y3u g s o i ad β off u cells sv K=(y3u g s o i ad β off u cells sv some).bind K:=by
 unfold y3u;split
 ·rw[bind_assoc];congr 1
  funext p
  split<;>rfl
 ·rfl
theorem yAt{t:TypeId}{ps:Array (Nat×Operand)}(K:St->Option R):y48 g s o t ps K=(y48 g s o t ps some).bind K:=by
 unfold y48;split
 ·split
  ·exact y3F ..
  ·rfl
 ·rfl
theorem yBn{t:TypeId}{n:Nat}{ps:List (Nat×Operand)}(K:St->Option R):y3x g s o t n ps K=(y3x g s o t n ps some).bind K:=rfl
theorem y99{b x:Operand}{t t':TypeId}(K:St->Option R):y2H g s o b x t t' K=(y2H g s o b x t t' some).bind K:=rfl
theorem yKk{i:TyI}{β n sz off:Nat}{sv:SV}(K:St->Option R):yHS s o i β n sz off sv K=(yHS s o i β n sz off sv some).bind K:=by
 unfold yHS;split
 ·split
  ·split
   ·simp only[bind_assoc,bind_some]
   ·rfl
  ·rfl
 ·rfl
theorem yCH{i:TyI}{u:Ty}{n m:Int}(K:St->Option R):y4l g s o i u n m K=(y4l g s o i u n m some).bind K:=by
 unfold y4l;cases (u.zok && decide (0<=n) && decide (n<=(memMax:Int)) && n == m)with
 |false=>rfl
 |true=>simp only[cond_true,bind_assoc,bind_some]
theorem yI2{i:TyI}{β m:Nat}{sv:SV}(K:St->Option R):y9m s o i β m sv K=(y9m s o i β m sv some).bind K:=by
 unfold y9m;split
 ·split
  ·simp only[bind_assoc];congr 1;funext x
   congr 1;funext zs
   congr 1;funext ys
   congr 1;funext x'
   exact yDa ..
  ·rfl
 ·rfl
theorem yMC(K:St->Option R):effK g s o K=(effK g s o some).bind K:=by
 unfold effK;split
 ·split
  ·split
   ·exact y6Y ..
   ·rfl
  split
  ·split<;>rfl
  dsimp only;split
  ·exact y3F ..
  ·rfl
 ·split
  ·split
   ·exact y6Y ..
   ·rfl
  ·rfl
 ·split
  ·split
   ·split
    ·split
     ·split<;>rfl
     split
     ·split<;>rfl
     split
     ·split<;>rfl
     ·exact yB6 ..
    ·split<;>rfl
   ·rfl
  ·split
   ·exact yKk ..
   dsimp only;split
   ·split
    ·simp only[bind_assoc,bind_some]
    ·rfl
   ·split
    ·simp only[bind_assoc,bind_some]
    ·rfl
   ·rfl
  ·dsimp only;split
   ·split
    ·simp only[bind_assoc,bind_some]
    ·rfl
   ·rfl
  ·rfl
 ·exact yAt ..
 ·split
  ·split
   ·refine yMV ?_ rfl;split<;>rfl
   ·rfl
  ·rfl
 ·split
  ·split<;>rfl
  ·rfl
 ·unfold yNV;split
  ·split
   ·rename_i bs q _;cases decide (q < (List.length bs:Int))<;>rfl
   ·rfl
  ·rfl
 ·exact yH1 ..
 ·exact yH1 ..
 ·split
  ·split
   ·rename_i n m _ _ _ _ u _;split
    ·exact yCH ..
    cases (u.zok && decide (0<=n) && decide (n<=(memMax:Int)) && n == m)<;>rfl
   ·rfl
  ·rfl
 ·split
  ·exact yBn ..
  dsimp only;split
  ·split
   ·split
    ·rfl
    ·exact y3F ..
   ·rfl
  ·rfl
 ·split
  ·split
   ·split
    ·exact y3F ..
    ·rfl
   ·rfl
  ·rfl
 ·split
  ·split
   ·split
    ·exact yDa ..
    ·rfl
   ·rfl
  ·rfl
 ·split
  ·exact yDY ..
  ·rfl
 ·split
  ·split
   ·exact y9K ..
   split
   ·exact y99 ..
   dsimp only;split
   ·split
    ·rename_i e u xs nn _;split
     ·rw[bind_assoc];congr 1
      funext ys
      cases decide (xs.length+List.length ys<=memMax)<;>rfl
     ·rfl
    ·rfl
   ·rename_i u xs _ _;split
    ·rw[bind_assoc];congr 1
     funext ys
     cases (decide (0 < List.length xs) && decide (0 < List.length ys) && decide (List.length xs+List.length ys<=memMax))<;>rfl
    ·rfl
   ·rfl
  ·rfl
 ·split
  ·dsimp only;split
   ·split
    ·split
     ·exact y3F ..
     ·rfl
    ·rfl
   ·exact yI2 ..
   ·split
    ·split
     ·exact y3F ..
     ·rfl
    ·rfl
   ·rfl
  ·rfl
 ·rfl
theorem yMf{q:TypeId×Ty}(K:St->Option R):ownK g s o q K=(ownK g s o q some).bind K:=by
 unfold ownK;split
 ·split
  ·dsimp only;rw[bind_assoc];congr 1
   funext ys
   cases decide (List.length ys<=memMax)<;>rfl
  ·rfl
 ·rfl
theorem yND(K:St->Option R):effX g s o K=(effX g s o some).bind K:=by
 unfold effX;split
 ·exact yMf ..
 split
 ·rfl
 ·exact yMC ..
theorem y5R{ta tr:Ty}{m:ta.den->Option tr.den}{c:Call}{caps:St->List SV}{dr:Bool}{dst:Option Nat}(K:St->Option R) :
  y12 g ta tr m s c caps dr dst K=(y12 g ta tr m s c caps dr dst some).bind K:=by
 unfold y12;split
 ·simp only[bind_assoc,bind_some]
 ·split
  ·simp only[bind_assoc,bind_some]
  ·simp only[bind_assoc,bind_some]
def y2j(call:(R:Type)->y0N R):Prop:=
 ∀ {R:Type} (n:Tgt) (svs:List SV) (s:St) (K:SV->St->Option R),call R n svs s K=(call (SV×St) n svs s λ sv s=>some (sv,s)).bind λ p=>K p.1 p.2
theorem yIF{call:(R:Type)->y0N R}(hN:y2j call){c:Call}{f:Operand}{β:Nat}(K:St->Option R):y9l g (call R) s o c f β K=(y9l g (call St) s o c f β some).bind K:=by
 unfold y9l;split
 ·dsimp only;split
  ·rw[hN,hN (R:=St),bind_assoc];congr 1
   funext p
   split
   ·split<;>rfl
   ·rfl
  ·rfl
 ·rfl
theorem yKp{call:(R:Type)->y0N R}(hN:y2j call){dr:Bool}{c:Call}{f:Operand}(K:St->Option R):yE7 g (call R) dr s o c f K=(yE7 g (call St) dr s o c f some).bind K:=by
 unfold yE7;split
 ·split
  ·exact y5R ..
  ·split
   ·rfl
   ·rw[hN,hN (R:=St),bind_assoc];rfl
 ·exact y5R ..
 ·split
  ·rfl
  ·exact yIF hN ..
 ·rfl
theorem yFv{R:Type}(K:St->Option R):newD g s o K=(newD g s o some).bind K:=by
 unfold newD;split
 ·rfl
 ·split
  ·split
   ·split
    ·split
     ·split
      ·rfl
      ·rw[bind_assoc];rfl
     ·rfl
    ·rfl
   ·split
    ·split
     ·rfl
     ·split
      ·split
       ·split
        ·split
         ·rw[bind_assoc];congr 1
          funext ys
          cases decide (_<=memMax)<;>rfl
         ·rfl
        ·rfl
       ·rfl
      ·rfl
    ·rfl
   ·split
    ·split
     ·rfl
     ·rw[bind_assoc];congr 1
      funext ys
      cases decide (List.length ys<=memMax)<;>rfl
    ·rfl
   ·rfl
  ·rfl
theorem y5c(K:SV->Option R):y8j g s o K=(y8j g s o some).bind K:=by
 unfold y8j;split
 ·rfl
 ·exact y66 ..
theorem y2G{call:(R:Type)->y0N R}(hN:y2j call){dr:Bool}(K:St->Option R):y0H g (call R) dr s o K=(y0H g (call St) dr s o some).bind K:=by
 unfold y0H;split
 ·split
  ·unfold effD;split
   ·exact yFv K
   ·split
    ·unfold y5h;split
     ·split
      ·rfl
      ·split<;>rfl
     ·rfl
    ·split
     ·unfold y5k;split
      ·split
       ·rfl
       ·split
        ·split
         ·split
          ·rename_i t _ x _ _ _ _ _ _ _ _ _ _ _ _;cases y0l [] (y9 g.T _ s _) _ with
           |none=>rfl
           |some y =>
            simp only[bind_some];split<;>rfl
          ·split<;>rfl
         ·rfl
        ·split
         ·split
          ·simp only[bind_assoc];congr 1
          ·rfl
         ·rfl
        ·rfl
      ·rfl
     ·rfl
  ·exact yND ..
 ·dsimp only;split
  ·split
   ·rfl
   ·exact yKp hN ..
  ·split
   ·rw[y5c,y5c (R:=St),bind_assoc];congr 1
    funext sv
    split<;>rfl
   ·rw[y66,y66 (R:=St),bind_assoc];rfl
theorem y36{call:(R:Type)->y0N R}(hN:y2j call){dr:Bool}{ops:Array Oper}:∀ (l:List Oper) {R:Type} (s:St) (K:St->Option R),y0o g (call R) dr ops l s K=(y0o g (call St) dr ops l s some).bind K
 |[],_,_,_=>rfl
 |o::l,R,s,K=>by
  have ih:=λ {R:Type} s (K:St->Option R)=>y36 hN (ops:=ops) (dr:=dr) l s K
  unfold y0o;split
  ·conv=>rhs;rw[y2G hN]
   rw[y2G hN (R:=R),bind_assoc];congr 1
   funext s'
   exact ih s' K
  ·cases hb:y5S ops s _ with
   |none=>rfl
   |some ob =>
    simp only[bind_some];cases ob with
    |none =>
     have gone:∀ s1 s2:St,(bif dr && !y1Q g s2 o then none else y0o g (call R) dr ops l s1 K)=(bif dr && !y1Q g s2 o then none else y0o g (call St) dr ops l s1 some).bind K:=λ s1 s2=>by
      cases dr && !y1Q g s2 o with
      |true=>rfl
      |false=>exact ih s1 K
     exact gone _ _
    |some b =>
     dsimp only;rename_i want _;have gone:∀ s1 s2:St,(bif dr && !y1Q g s2 o then none else y0o g (call R) dr ops l s1 K)=(bif dr && !y1Q g s2 o then none else y0o g (call St) dr ops l s1 some).bind K:=λ s1 s2=>by
      cases dr && !y1Q g s2 o with
      |true=>rfl
      |false=>exact ih s1 K
     have st:∀ s1:St,(y0H g (call R) dr s1 o λ s'=>y0o g (call R) dr ops l s' K)=(y0H g (call St) dr s1 o λ s'=>y0o g (call St) dr ops l s' some).bind K:=λ s1=>by
      conv=>rhs;rw[y2G hN]
      rw[y2G hN (R:=R),bind_assoc];congr 1
      funext s'
      exact ih s' K
     cases want<;>cases b<;>first|exact st _|exact gone _ _
theorem y8J{call:(R:Type)->y0N R}(hN:y2j call){R:Type}{ops:Array Oper}{draw:Bool}(s:St)(K:St->Option R):y6A g (call R) ops draw s K=(y6A g (call St) ops draw s some).bind K:=by
 unfold y6A;split
 ·dsimp only;unfold yEK;split;case isFalse=>rfl
  unfold yDx;split
  ·conv=>rhs;rw[y36 hN]
   rw[y36 hN (R:=R),bind_assoc];congr 1
   funext s'
   exact y36 hN _ _ _
  ·rfl
 ·exact y36 hN _ _ _
theorem y4k{call:(R:Type)->y0N R}(hN:y2j call){fuel:Nat}:∀ (c:Code) {R:Type} (kp:List (List Nat)) (s:St) (K:Exit->St->Option R),
  exec g (call R) fuel c kp s K=(exec g (call (Exit×St)) fuel c kp s λ e s=>some (e,s)).bind λ p=>K p.1 p.2:=by
 intro c;induction c with
 |region id ops draw =>
  intro R kp s K;simp only[exec];conv=>rhs;rw[y8J hN]
  rw[y8J hN (R:=R),bind_assoc];rfl
 |seq x y ihx ihy =>
  intro R kp s K;simp only[exec];conv=>rhs;rw[ihx]
  rw[ihx (R:=R),bind_assoc];congr 1
  funext p
  obtain ⟨e,s'⟩:=p;cases e with
  |normal=>exact ihy _ _ _
  |_=>rfl
 |cond c x y ihx ihy =>
  intro R kp s K;simp only[exec];split
  ·rename_i p _;cases p with
   |true=>exact ihx _ _ _
   |false=>exact ihy _ _ _
  ·rfl
 |block id c ih =>
  intro R kp s K;simp only[exec];conv=>rhs;rw[ih]
  rw[ih (R:=R),bind_assoc];congr 1
  funext p
  obtain ⟨e,s'⟩:=p;cases e with
  |exit i =>
   dsimp only;split<;>rfl
  |_=>rfl
 |loop c ih =>
  intro R kp s K;simp only[exec];generalize stX (y6v c (kp.headD []) s)=y;generalize hs0:y6v c (kp.headD []) s=s0 at y;have key:∀ (n:Nat) (y:(stTy s0).den),
    iter (λ (r:(stTy s0).den->Option R) (y:(stTy s0).den)=>exec g (call R) fuel c kp.tail (y4t s0 y) λ e s'=>match e with
     |.normal=>(stAs s0 (canon (kp.headD []) (frzK (kp.headD []) s'))).bind r
     |e=>K e s') n y =
    (iter (λ (r:(stTy s0).den->Option (Exit×St)) (y:(stTy s0).den)=>exec g (call (Exit×St)) fuel c kp.tail (y4t s0 y) λ e s'=>match e with
     |.normal=>(stAs s0 (canon (kp.headD []) (frzK (kp.headD []) s'))).bind r
     |e=>some (e,s')) n y).bind λ p=>K p.1 p.2:=by
   intro n;induction n with
   |zero=>intro y;rfl
   |succ n ihn =>
    intro y;simp only[iter];conv=>rhs;rw[ih]
    rw[ih (R:=R),bind_assoc];congr 1
    funext p
    obtain ⟨e,s'⟩:=p;cases e with
    |normal =>
     dsimp only;cases stAs s0 (canon (kp.headD []) (frzK (kp.headD []) s'))with
     |none=>rfl
     |some z=>exact ihn z
    |_=>rfl
  subst hs0;exact key fuel y
 |scope c ih=>intro R kp s K;simp only[exec];exact ih _ _ _
 |rangeFunc f ps x y _ _ =>
  intro R kp s K;simp only[exec,yLo];split
  ·conv=>rhs;rw[hN]
   rw[hN (R:=R),bind_assoc];congr 1
   funext p
   unfold endRange;split
   ·split
    ·rw[bind_assoc];rfl
    ·rfl
   ·rfl
  ·rfl
 |_=>intro R kp s K;rfl
end
end Go.Vx
end
section
namespace Go.Vx
open Go.RowKit
variable [GT]
section
variable {R:Type} {g:G} {s s':St} {o:Oper}
theorem y43{E:List Entry}{T:List (TypeId×TyI)}{tys:List (Nat×TypeId)}{t:Ty}:∀ {ps:List (Nat×Operand)} {x:t.den},(∀ p∈ps,∀ τ,y9 T τ s' p.2=y9 T τ s p.2)->y6t E s' T tys t ps x=y6t E s T tys t ps x
 |[],_,_=>rfl
 |p::ps,x,h=>by
  simp only[y6t];rw[h p (mem_cons_self ..)];congr 1
  funext y
  exact y43 (λ q hq=>h q (mem_cons_of_mem _ hq))
theorem y1H{E:List Entry}{T:List (TypeId×TyI)}{u:Ty}{e:TypeId}:∀ {ps:List (Nat×Operand)} {xs:List u.den},(∀ p∈ps,∀ τ,y9 T τ s' p.2=y9 T τ s p.2)->y3t E s' T u e ps xs=y3t E s T u e ps xs
 |[],_,_=>rfl
 |p::ps,xs,h=>by
  simp only[y3t];rw[h p (mem_cons_self ..)];split
  ·congr 1
   funext y
   exact y1H (λ q hq=>h q (mem_cons_of_mem _ hq))
  ·rfl
theorem y53{T:List (TypeId×TyI)}:∀ {xs:List Operand} {ts:List TypeId},(∀ x∈xs,∀ τ,y9 T τ s' x=y9 T τ s x)->y2m T s' xs ts=y2m T s xs ts
 |[],_,_=>rfl
 |x::xs,ts,h=>by
  simp only[y2m];rw[h x (mem_cons_self ..),y53 (λ y hy=>h y (mem_cons_of_mem _ hy))]
theorem y35{T:List (TypeId×TyI)}{τ:TypeId}:∀ {xs:List Operand},(∀ x∈xs,∀ τ,y9 T τ s' x=y9 T τ s x)->xs.map (λ x=>y9 T τ s' x)=xs.map λ x=>y9 T τ s x
 |[],_=>rfl
 |x::xs,h=>by
  simp only[map_cons];rw[h x (mem_cons_self ..),y35 (λ y hy=>h y (mem_cons_of_mem _ hy))]
theorem y7w{f:FuncId}{K:SV->Option R}:∀ {xs:List Operand},(∀ x∈xs,∀ τ,y9 g.T τ s' x=y9 g.T τ s x)->yB9 g s' f xs K=yB9 g s f xs K:=by
 intro xs h;unfold yB9;cases xs with
 |nil=>rfl
 |cons x l =>
  cases l with
  |nil =>
   have hx:=h x (mem_cons_self ..) 0;cases y6x g.E f with
   |none=>rfl
   |some e =>
    obtain ⟨ef,ea,er,em,eo,eq⟩:=e;cases ea with
    |pair t b=>dsimp only;rw[hx]
    |_=>rfl
  |cons _ _=>rfl
theorem yEN(K:SV->Option R)(hc:s'.cH=s.cH)(h:∀ x∈o.op.operands.toList,∀ τ,y9 g.T τ s' x=y9 g.T τ s x):yh g s' o K=yh g s o K:=by
 unfold yh;cases ho:o.op with
 |move x=>rw[ho]at h;simp[Op.operands]at h;simp only[h]
 |assign x=>rw[ho]at h;simp[Op.operands]at h;simp only[h]
 |pick c a b=>rw[ho]at h;simp[Op.operands]at h;simp only[h]
 |load t a=>rw[ho]at h;simp[Op.operands]at h;simp only[h,hc]
 |binOp op t x y yt =>
  rw[ho]at h;simp[Op.operands]at h;simp only[h.1];have hy:y9 g.T t s' y=y9 g.T t s y:=h.2 t;cases yV g.T t with
  |none=>rfl
  |some i =>
   dsimp only;split
   ·rfl
   ·rfl
   ·rw[hy]
 |unOp op t x=>rw[ho]at h;simp[Op.operands]at h;simp only[h]
 |convert a b x=>rw[ho]at h;simp[Op.operands]at h;simp only[h]
 |field t x f=>rw[ho]at h;simp[Op.operands]at h;simp only[h,hc]
 |fieldAddr t x f=>rw[ho]at h;simp[Op.operands]at h;simp only[h]
 |indexAddr t x i=>rw[ho]at h;simp[Op.operands]at h;simp only[h,hc]
 |index t x i=>rw[ho]at h;simp[Op.operands]at h;simp only[h]
 |extract x n=>rw[ho]at h;simp[Op.operands]at h;simp only[h]
 |lookup t x ix ok=>rw[ho]at h;simp[Op.operands]at h;simp only[h,hc]
 |box e x=>rw[ho]at h;simp[Op.operands]at h;simp only[h]
 |build t ps =>
  rw[ho]at h;have h':∀ p∈ps.toList,∀ τ,y9 g.T τ s' p.2=y9 g.T τ s p.2:=λ p hp τ=>h p.2 (by simp[Op.operands];exact ⟨p.1,by simpa using hp⟩) τ
  simp only[y43 h',y1H h']
 |buildSlice t n ps =>
  rw[ho]at h;have h':∀ p∈ps.toList,∀ τ,y9 g.T τ s' p.2=y9 g.T τ s p.2:=λ p hp τ=>h p.2 (by simp[Op.operands];exact ⟨p.1,by simpa using hp⟩) τ
  simp only[y1H h']
 |makeFunc f first caps =>
  rw[ho]at h;have h':∀ x∈caps.toList,∀ τ,y9 g.T τ s' x=y9 g.T τ s x:=λ x hx τ=>h x (by simp[Op.operands];right;simpa using hx) τ
  have h2:∀ x∈first.toList,∀ τ,y9 g.T τ s' x=y9 g.T τ s x:=λ x hx τ=>h x (by simp[Op.operands];left;simpa using hx) τ
  cases f<;>simp only[y35 h',y7w h2]
 |slice t x lo hi mx =>
  rw[ho]at h;have hx:∀ τ,y9 g.T τ s' x=y9 g.T τ s x:=λ τ=>h x (by simp[Op.operands]) τ
  have hb:∀ y,(y=lo\/y=hi)->y8M g.T s' y=y8M g.T s y:=by
   intro y hy;cases y with
   |none=>rfl
   |some z =>
    simp only[y8M];rw[h z (by rcases hy with rfl|rfl<;>simp[Op.operands]) 0]
  simp only[hx,hb lo (.inl rfl),hb hi (.inr rfl)]
 |nilCheck x=>rw[ho]at h;simp[Op.operands]at h;simp only[h]
 |call c =>
  obtain ⟨callee,args,ts⟩:=c;cases callee with
  |builtin b =>
   rw[ho]at h;have h':∀ x∈args.toList,∀ τ,y9 g.T τ s' x=y9 g.T τ s x:=λ x hx τ=>h x (by simp[Op.operands,Call.operands];simpa using hx) τ
   have hl:(match args.toList,ts.toList with
     |[x],[t]=>(match yV g.T t with
      |some i=>lenK i.ty s'.cH (y9 g.T t s' x) K
      |none=>none)
     |_,_=>none)=(match args.toList,ts.toList with
     |[x],[t]=>(match yV g.T t with
      |some i=>lenK i.ty s.cH (y9 g.T t s x) K
      |none=>none)
     |_,_=>none):=by
    split
    ·rename_i x t h1 h2;rw[h' x (by rw[h1];simp),hc]
    ·rfl
   have hd:(match args.toList with
     |[x]=>y9L s'.cH (y9 g.T 0 s' x) K
     |_=>none)=(match args.toList with
     |[x]=>y9L s.cH (y9 g.T 0 s x) K
     |_=>none):=by
    split
    ·rename_i x h1;rw[h' x (by rw[h1];simp),hc]
    ·rfl
   cases b<;>first|exact hl|exact hd|(simp only[y35 h'])|rfl
  |_=>rfl
 |_=>rfl
def Ext(cs cs':List (Option Chunk)):Prop:=∀ β c,cs.getD β none=some c->cs'.getD β none=some c
theorem yAG(cs l:List (Option Chunk)):Ext cs (cs++l):=λ β c h=>by
 rw[getD_eq_getElem?_getD]at h ⊢;rcases lt_or_ge β cs.length with hl|hl
 ·rw[getElem?_append_left hl];exact h
 ·rw[getElem?_eq_none hl]at h;cases h
section
variable {cs cs':List (Option Chunk)}
theorem yIj(hx:Ext cs cs'){β:Nat}{v:TV}(h:yAJ cs β=some v):yAJ cs' β=some v:=by
 unfold yAJ at h ⊢;cases hc:cs.getD β none with
 |none=>rw[hc]at h;cases h
 |some c=>rw[hc]at h;rw[hx β c hc];exact h
theorem y9o(hx:Ext cs cs'){β:Nat}{v:TV}(h:y5v cs β=some v):y5v cs' β=some v:=by
 unfold y5v at h ⊢;cases hc:cs.getD β none with
 |none=>rw[hc]at h;cases h
 |some c=>rw[hc]at h;rw[hx β c hc];exact h
theorem yM1(hx:Ext cs cs'){sv:SV}{t:Ty}{y:t.den}(h:y0l cs sv t=some y):y0l cs' sv t=some y:=by
 unfold y0l at h ⊢;cases sv with
 |own β =>
  obtain ⟨v,h1,h2⟩:=bind_eq_some_iff.1 h;exact bind_eq_some_iff.2 ⟨v,yIj hx h1,h2⟩
 |mO β =>
  obtain ⟨v,h1,h2⟩:=bind_eq_some_iff.1 h;exact bind_eq_some_iff.2 ⟨v,y9o hx h1,h2⟩
 |_=>exact h
theorem yLX(hx:Ext cs cs'){E:List Entry}{sv:SV}{t:Ty}{y:t.den}(h:y6R E cs sv t=some y):y6R E cs' sv t=some y:=by
 unfold y6R at h ⊢;split
 ·exact h
 ·rename_i hno;split at h
  ·exact absurd rfl (hno _ _ _ _ rfl)
  ·exact yM1 hx h
theorem y9Y(hx:Ext cs cs'){E:List Entry}:∀ {t:Ty} {l:List SV} {y:t.den},y1V E cs t l=some y->y1V E cs' t l=some y
 |.unit,[],_,h=>h
 |.pair a b,sv::l,y,h=>by
  obtain ⟨x,h1,h2⟩:=bind_eq_some_iff.1 (show ((y6R E cs sv a).bind λ x=>(y1V E cs b l).map λ y=>(x,y))=some y from h)
  obtain ⟨z,h3,rfl⟩:=map_eq_some_iff.1 h2;show ((y6R E cs' sv a).bind λ x=>(y1V E cs' b l).map λ y=>(x,y))=_
  rw[yLX hx h1,y9Y hx h3];rfl
theorem yJf(hx:Ext cs cs'){sv:SV}{v:TV}(h:yBO cs sv=some v):yBO cs' sv=some v:=by
 unfold yBO at h ⊢;cases sv with
 |mO β=>exact y9o hx h
 |val t x=>cases t<;>exact h
 |_=>exact h
theorem yM5(hx:Ext cs cs'){sv:SV}{K:SV->Option R}{r:R}(h:y9L cs sv K=some r):y9L cs' sv K=some r:=by
 cases sv with
 |own β =>
  unfold y9L at h ⊢;dsimp only at h ⊢;cases hc:cs.getD β none with
  |none=>rw[hc]at h;cases h
  |some c=>rw[hc]at h;rw[hx β c hc];exact h
 |_=>cases h
theorem yN6(hx:Ext cs cs'){ty:Ty}{sv:SV}{K:SV->Option R}{r:R}(h:lenK ty cs sv K=some r):lenK ty cs' sv K=some r:=by
 cases sv with
 |own β =>
  unfold lenK at h ⊢;dsimp only at h ⊢;split at h
  ·rename_i hs;rw[if_pos hs];cases hc:cs.getD β none with
   |none=>rw[hc]at h;cases h
   |some c=>rw[hc]at h;rw[hx β c hc];exact h
  ·cases h
 |nO β m =>
  unfold lenK at h ⊢;dsimp only at h ⊢;split at h
  ·rename_i hs;rw[if_pos hs];cases hc:cs.getD β none with
   |none=>rw[hc]at h;cases h
   |some c=>rw[hc]at h;rw[hx β c hc];exact h
  ·cases h
 |val t x=>cases t<;>exact h
 |_=>exact h
end
theorem y8N{K:SV->Option R}{r:R}{cs':List (Option Chunk)}(hx:Ext s.cH cs')(h:yh g s o K=some r):yh g { s with cH:=cs' } o K=some r:=by
 have he:∀ x τ,y9 g.T τ { s with cH:=cs' } x=y9 g.T τ s x:=λ x τ=>by cases x<;>rfl
 unfold yh at h ⊢;cases ho:o.op with
 |load t a =>
  rw[ho]at h;dsimp only at h ⊢;rw[he];have hc:¬ ((g.vl && !(y9 g.T 0 s a).isVal)=true):=by intro hc;rw[if_pos hc]at h;cases h
  rw[if_neg hc]at h ⊢;clear hc;cases hl:yV g.T t with
  |none=>rw[hl]at h;cases h
  |some i =>
   rw[hl]at h;cases hv:y9 g.T 0 s a with
   |bP β off =>
    rw[hv]at h;dsimp only at h ⊢;cases hc:s.cH.getD β none with
    |none=>rw[hc]at h;cases h
    |some c=>rw[hc]at h;rw[hx β c hc];exact h
   |eP β n sz off =>
    rw[hv]at h;dsimp only at h ⊢;cases hc:s.cH.getD β none with
    |none=>rw[hc]at h;cases h
    |some c=>rw[hc]at h;rw[hx β c hc];exact h
   |nP β n j sz off =>
    rw[hv]at h;dsimp only at h ⊢;cases hc:s.cH.getD β none with
    |none=>rw[hc]at h;cases h
    |some c=>rw[hc]at h;rw[hx β c hc];exact h
   |val u x=>rw[hv]at h;cases u<;>exact h
   |_=>rw[hv]at h;exact h
 |field t x f =>
  rw[ho]at h;dsimp only at h ⊢;rw[he];cases hl:yV g.T t with
  |none=>rw[hl]at h;cases h
  |some i =>
   rw[hl]at h;cases hv:y9 g.T 0 s x with
   |sR β =>
    rw[hv]at h;dsimp only at h ⊢;cases hc:s.cH.getD β none with
    |none=>rw[hc]at h;cases h
    |some c=>rw[hc]at h;rw[hx β c hc];exact h
   |_=>rw[hv]at h;exact h
 |indexAddr t x ix =>
  rw[ho]at h;dsimp only at h ⊢;rw[he,he];cases hl:yV g.T t with
  |none=>rw[hl]at h;cases h
  |some i =>
   rw[hl]at h;cases hi:y9 g.T 0 s ix with
   |val u n =>
    rw[hi]at h;cases hv:y9 g.T t s x with
    |own β =>
     rw[hv]at h;cases u with
     |int k =>
      dsimp only at h ⊢;cases hc:s.cH.getD β none with
      |none=>rw[hc]at h;cases h
      |some c=>rw[hc]at h;rw[hx β c hc];exact h
     |_=>exact h
    |nO β m =>
     rw[hv]at h;cases u with
     |int k =>
      dsimp only at h ⊢;cases hc:s.cH.getD β none with
      |none=>rw[hc]at h;cases h
      |some c=>rw[hc]at h;rw[hx β c hc];exact h
     |_=>exact h
    |val w y =>
     rw[hv]at h;cases u with
     |int k =>
      cases w with
      |ref w=>cases w<;>exact h
      |_=>exact h
     |_=>exact h
    |_=>rw[hv]at h;cases u<;>exact h
   |_=>rw[hi]at h;exact h
 |lookup t x ix ok =>
  rw[ho]at h;dsimp only at h ⊢;rw[he,he];cases hm:yBO s.cH (y9 g.T t s x)with
  |none =>
   rw[hm]at h;cases hi:yV g.T t with
   |none=>rw[hi]at h;cases h
   |some i =>
    rw[hi]at h;dsimp only at h;cases hh:y8x s.cH (y9 g.T t s x)with
    |none=>rw[hh]at h;cases h
    |some hv =>
     rw[hh]at h;obtain ⟨β,e,es,h1,h2⟩:=y81 hh;have h3:cs'.getD β none=some (.mps hv.k e hv.u es (some (hv.x,hv.γ))):=hx β _ (by rw[getD_eq_getElem?_getD,h2];rfl)
     have h4:yBO cs' (y9 g.T t s x)=none:=by rw[h1];unfold yBO y5v;dsimp only;rw[h3]
     have h5:y8x cs' (y9 g.T t s x)=some hv:=by rw[h1];unfold y8x;dsimp only;rw[h3]
     rw[h4,h5];exact h
  |some v =>
   rw[hm]at h;rw[yJf hx hm];cases hi:yV g.T t with
   |none=>rw[hi]at h;exact h
   |some i =>
    rw[hi]at h;obtain ⟨vt,vx⟩:=v;cases vt<;>exact h
 |build t ps =>
  rw[ho]at h;have h':∀ p∈ps.toList,∀ τ,y9 g.T τ { s with cH:=cs' } p.2=y9 g.T τ s p.2:=λ p _ τ=>he p.2 τ
  simp only[y43 h',y1H h'];exact h
 |buildSlice t n ps =>
  rw[ho]at h;have h':∀ p∈ps.toList,∀ τ,y9 g.T τ { s with cH:=cs' } p.2=y9 g.T τ s p.2:=λ p _ τ=>he p.2 τ
  simp only[y1H h'];exact h
 |call c =>
  rw[ho]at h;obtain ⟨callee,args,ts⟩:=c;cases callee with
  |builtin b =>
   cases b with
   |len =>
    dsimp only at h ⊢;split
    ·rename_i x t h1 h2;rw[h1,h2]at h;dsimp only at h;rw[he];cases hl:yV g.T t with
     |none=>rw[hl]at h;cases h
     |some i=>rw[hl]at h;exact yN6 hx h
    ·rename_i hno;split at h
     ·rename_i x t h1 h2;exact absurd h2 (hno _ _ h1)
     ·cases h
   |unsafeSliceData =>
    dsimp only at h ⊢;split
    ·rename_i x h1;rw[h1]at h;dsimp only at h;rw[he];exact yM5 hx h
    ·rename_i hno;split at h
     ·rename_i x h1;exact absurd h1 (hno _)
     ·cases h
   |max =>
    have h':∀ x∈args.toList,∀ τ,y9 g.T τ { s with cH:=cs' } x=y9 g.T τ s x:=λ x _ τ=>he x τ
    simp only[y35 h'];exact h
   |min =>
    have h':∀ x∈args.toList,∀ τ,y9 g.T τ { s with cH:=cs' } x=y9 g.T τ s x:=λ x _ τ=>he x τ
    simp only[y35 h'];exact h
   |_=>exact h
  |_=>exact h
 |slice t x lo hi mx =>
  rw[ho]at h;have hb:∀ y,y8M g.T { s with cH:=cs' } y=y8M g.T s y:=λ y=>by
   cases y with
   |none=>rfl
   |some z=>simp only[y8M,he]
  simp only[he,hb];exact h
 |makeFunc f first caps =>
  rw[ho]at h;have h':∀ x∈caps.toList,∀ τ,y9 g.T τ { s with cH:=cs' } x=y9 g.T τ s x:=λ x _ τ=>he x τ
  have h2:∀ x∈first.toList,∀ τ,y9 g.T τ { s with cH:=cs' } x=y9 g.T τ s x:=λ x _ τ=>he x τ
  cases f<;>first|exact h|(simp only[y35 h',y7w h2];exact h)
 |_=>rw[ho]at h;first|exact h|(simp only[he];exact h)
end
end Go.Vx
end
section
namespace Go.Vx
open Go.RowKit
variable [GT]
section
variable {P:Program} {A0:Nat->Prop} {w0:Base} {ρ:Places} {s s':St} {a:Act} {w w':World} {g:G} {R:Type} {K:St->Option R} {r:R} {o:Oper} {ops:Array Oper} {md:Region.Mode}
theorem Rel.settleCells:∀ (l:List SV) {s:St},Rel P A0 w0 ρ s a w->Rel P A0 w0 ρ (Vx.settleCells l s) a w
 |[],_,h=>h
 |sv::l,_,h=>Rel.settleCells l (h.settle sv)
theorem Rel.settleIn(h:Rel P A0 w0 ρ s a w)(sv:SV):Rel P A0 w0 ρ (s.settleIn sv) a w:=by
 unfold St.settleIn;split
 ·split
  ·exact Rel.settleCells _ h
  ·exact h
 ·exact h
theorem Rel.preK(h:Rel P A0 w0 ρ s a w)(g:G)(o:Oper):Rel P A0 w0 ρ (Vx.preK g o s) a w:=by
 unfold Vx.preK;split
 ·split
  ·split
   ·exact h.settleIn _
   ·exact h
  ·exact h
 ·exact h
theorem y3i{r β:Nat}{sv:SV}(hs:sv.names=[β])(h:sv.has r=false):β≠r:=by
 intro e;subst e;unfold SV.has at h;rw[hs]at h;simp at h
theorem yOw{r:Nat}{f:FuncId}{caps:List Cap}(h:(SV.clo f caps).has r=false):∀ β,Cap.box β∈caps->β≠r:=by
 intro β hb e;subst e;have:(SV.clo f caps).has β=true:=by
  unfold SV.has SV.names;rw[List.contains_iff_mem];exact List.mem_filterMap.2 ⟨_,hb,rfl⟩
 rw[this]at h;cases h
theorem yg.congrN{A:Nat->Prop}{ρ':Places}{r:Nat}(he:∀ β,β≠r->ρ' β=ρ β):∀ {cs:List Cap} {vs:List Value},(∀ β,Cap.box β∈cs->β≠r)->yg P A w ρ cs vs->yg P A w ρ' cs vs
 |[],[],_,_=>trivial
 |[],_::_,_,h=>h
 |_::_,[],_,h=>h
 |.box β::cs,v::vs,hi,h=>⟨by have:=h.1;simp only[yC9]at this ⊢;rw[he β (hi β (by simp))];exact this,yg.congrN he (λ γ hγ=>hi γ (by simp[hγ])) h.2⟩
 |.val t x::cs,v::vs,hi,h=>⟨h.1,yg.congrN he (λ γ hγ=>hi γ (by simp[hγ])) h.2⟩
theorem yF.congrN{A:Nat->Prop}{ρ':Places}{r:Nat}(he:∀ β,β≠r->ρ' β=ρ β){sv:SV}{v:Value}(hi:sv.has r=false)(h:yF P A w ρ sv v):yF P A w ρ' sv v:=by
 cases sv with
 |bP β off=>have:=y3i (β:=β) rfl hi;simp only[yF]at h ⊢;rw[he β this];exact h
 |own β=>have:=y3i (β:=β) rfl hi;simp only[yF]at h ⊢;rw[he β this];exact h
 |mO β=>have:=y3i (β:=β) rfl hi;simp only[yF]at h ⊢;rw[he β this];exact h
 |yld β=>have:=y3i (β:=β) rfl hi;simp only[yF]at h ⊢;rw[he β this];exact h
 |mP β e=>have:=y3i (β:=β) rfl hi;simp only[yF]at h ⊢;rw[he β this];exact h
 |eP β i sz off=>have:=y3i (β:=β) rfl hi;simp only[yF]at h ⊢;rw[he β this];exact h
 |oS β i sz=>have:=y3i (β:=β) rfl hi;simp only[yF]at h ⊢;rw[he β this];exact h
 |sR β=>have:=y3i (β:=β) rfl hi;simp only[yF]at h ⊢;rw[he β this];exact h
 |nO β i=>have:=y3i (β:=β) rfl hi;simp only[yF]at h ⊢;rw[he β this];exact h
 |nP β i j sz off=>have:=y3i (β:=β) rfl hi;simp only[yF]at h ⊢;rw[he β this];exact h
 |clo f caps=>obtain ⟨vs,h2,h3⟩:=h;exact ⟨vs,h2,h3.congrN he (yOw hi)⟩
 |_=>exact h
theorem y32{r:Nat}{cells:List SV}(h:cells.any (SV.has r)=false):∀ sv∈cells,sv.has r=false:=by
 intro sv hs;cases hq:sv.has r with
 |false=>rfl
 |true =>
  have:cells.any (SV.has r)=true:=List.any_eq_true.2 ⟨sv,hs,hq⟩;rw[this]at h;cases h
theorem yB.congrN{A:Nat->Prop}{ρ':Places}{r:Nat}(he:∀ β,β≠r->ρ' β=ρ β){p:Place}{ch:Chunk}(hi:ch.has r=false)(h:yB P A w ρ p ch):yB P A w ρ' p ch:=by
 cases ch with
 |box t cells =>
  obtain ⟨b,vs,e,hb,h1,h2,h3⟩:=h;exact ⟨b,vs,e,hb,h1,h2,λ i sv hs=>let ⟨v,hv,hr⟩:=h3 i sv hs;⟨v,hv,hr.congrN he (y32 hi sv (mem_of_getElem? hs))⟩⟩
 |lp i info cells st =>
  obtain ⟨b,r,hb,h1,h2,h3,h4⟩:=h;exact ⟨b,r,hb,h1,h2,h3,λ i sv hs=>let ⟨v,hv,hr⟩:=h4 i sv hs;⟨v,hv,hr.congrN he (y32 hi sv (mem_of_getElem? hs))⟩⟩
 |arr e t xs nn=>simpa only[yB]using h
 |mp k v es=>simpa only[yB]using h
 |it bs q=>simpa only[yB]using h
 |mps k e u es hole =>
  have hh:∀ q,hole=some q->q.2≠r:=λ q hq hqr=>by
   subst hq;simp only[Chunk.has,hqr,beq_self_eq_true]at hi;cases hi
  obtain ⟨b,ms,c,hb,h1,h2,⟨h3,h4⟩,h5⟩:=h;refine ⟨b,ms,c,hb,h1,h2,⟨h3,λ q hq hx=>?_⟩,λ i x hx=>?_⟩
  ·rw[he _ (hh q hq)];exact h4 q hq hx
  ·obtain ⟨en,o,h6,h7,h8,h9⟩:=h5 i x hx;refine ⟨en,o,h6,h7,h8,?_⟩;rcases h9 with ⟨q,hq,h9,h10,h11⟩|h9
   ·exact .inl ⟨q,hq,h9,h10,by rw[he _ (hh q hq)];exact h11⟩
   ·exact .inr h9
 |rcd t cells =>
  obtain ⟨h1,h2,h3,h4⟩:=h;exact ⟨h1,h2,h3,λ i sv hs=>let ⟨v,hv,hr⟩:=h4 i sv hs;⟨v,hv,hr.congrN he (y32 hi sv (mem_of_getElem? hs))⟩⟩
 |nst e t o e' u xs=>simpa only[yB]using h
theorem y4Y{r:Nat}(h:y50 r s=true):(∀ (i:Nat) (sv:SV),s.slots[i]?=some sv->sv.has r=false)/\(∀ (i:Nat) (sv:SV),s.kept[i]?=some sv->sv.has r=false)/\(∀ (β:Nat) (ch:Chunk),s.cH[β]?=some (some ch)->ch.has r=false):=by
 unfold y50 at h;simp only[and_eq_true]at h;obtain ⟨⟨h1,h2⟩,h3⟩:=h;refine ⟨λ i sv hi=>?_,λ i sv hi=>?_,λ β ch hc=>?_⟩
 ·simpa using all_eq_true.1 h1 sv (mem_of_getElem? hi)
 ·simpa using all_eq_true.1 h2 sv (mem_of_getElem? hi)
 ·simpa using all_eq_true.1 h3 _ (mem_of_getElem? hc)
theorem Rel.moved{C:List (Option Chunk)}{e:TypeId}{u:Ty}{xs:List u.den}{nn:Bool}{q d:Nat}{s0:St}{a0:Act}{wa:World}{ρ0:Places}(hs:Rel P A0 w0 ρ0 s0 a0 wa)(hl:C.length=s0.cH.length)
  (hsub:∀ (β:Nat) (ch:Chunk),C[β]?=some (some ch)->s0.cH[β]?=some (some ch)) (hq:q < C.length) (hqn:(C.getD q none).isSome=false) (hno:y50 q s0=true)
  (h:Rel P A0 w0 ρ (({ s0 with cH:=C++[some (Chunk.arr e u xs nn)] }:St).put (some d) (.own C.length)) a w) :
  Rel P A0 w0 (ρ.set q (ρ C.length)) (({ s0 with cH:=C.set q (some (Chunk.arr e u xs nn)) }:St).put (some d) (.own q)) a w:=by
 obtain ⟨n1,n2,n3⟩:=y4Y hno;have he:∀ β,β≠q->ρ.set q (ρ C.length) β=ρ β:=λ β hβ=>by unfold Places.set;rw[if_neg hβ]
 have hself:ρ.set q (ρ C.length) q=ρ C.length:=Places.set_self ρ q _;have hCq:C[q]?=some none:=by
  rw[getD_eq_getElem?_getD]at hqn;rw[getElem?_eq_getElem hq]at hqn ⊢;cases hc:C[q]with
  |none=>rfl
  |some c=>rw[hc]at hqn;simp at hqn
 have new:∀ (β:Nat) (ch:Chunk),(C.set q (some (Chunk.arr e u xs nn)))[β]?=some (some ch)->(β=q/\ch=Chunk.arr e u xs nn)\/(β≠q/\C[β]?=some (some ch)):=by
  intro β ch hc;by_cases hb:q=β
  ·subst hb;rw[getElem?_set_self hq]at hc;simp only[Option.some.injEq]at hc;exact .inl ⟨rfl,hc.symm⟩
  ·rw[getElem?_set_ne hb]at hc;exact .inr ⟨Ne.symm hb,hc⟩
 have old:∀ (β:Nat) (ch:Chunk),C[β]?=some (some ch)->(C++[some (Chunk.arr e u xs nn)])[β]?=some (some ch):=λ β ch hc=>by
  rw[getElem?_append_left (List.getElem?_eq_some_iff.1 hc).1];exact hc
 have last:(C++[some (Chunk.arr e u xs nn)])[C.length]?=some (some (Chunk.arr e u xs nn)):=by simp
 have hA:∀ n,Av A0 (ρ.set q (ρ C.length)) (C.set q (some (Chunk.arr e u xs nn))) n->Av A0 ρ (C++[some (Chunk.arr e u xs nn)]) n:=by
  rintro n ((h0|⟨β,ch,hc,hb⟩)|⟨β,ch,hc,hb⟩)
  ·exact .inl (.inl h0)
  ·rcases new β ch hc with ⟨rfl,rfl⟩|⟨hne,hc⟩
   ·rw[hself]at hb;exact .inl (.inr ⟨C.length,_,last,hb⟩)
   ·rw[he β hne]at hb;exact .inl (.inr ⟨β,ch,old β ch hc,hb⟩)
  ·rcases new β ch hc with ⟨rfl,rfl⟩|⟨hne,hc⟩
   ·rw[hself]at hb;exact .inr ⟨C.length,_,last,hb⟩
   ·rw[he β hne]at hb;exact .inr ⟨β,ch,old β ch hc,hb⟩
 have hK:Keep (Av A0 ρ (C++[some (Chunk.arr e u xs nn)])) w w:=λ _ _ _=>rfl
 have hch:∀ (β:Nat) (ch:Chunk),C[β]?=some (some ch)->ch.has q=false:=λ β ch hc=>n3 β ch (hsub β ch hc)
 have conv:∀ {sv:SV} {v:Value},sv.has q=false->yF P (Av A0 ρ (C++[some (Chunk.arr e u xs nn)])) w ρ sv v->yF P (Av A0 (ρ.set q (ρ C.length)) (C.set q (some (Chunk.arr e u xs nn)))) w (ρ.set q (ρ C.length)) sv v:=
  λ hi hr=>(hr.mono hK λ n _ h=>hA n h).congrN he hi
 have hlen:(C.set q (some (Chunk.arr e u xs nn))).length=s0.cH.length:=by rw[length_set,hl]
 refine ⟨by have h0:=h.size;rw[St.put_slots,length_set]at h0 ⊢;exact h0,λ i sv hi=>?_,λ β ch hc=>?_,λ β γ c1 c2 hb hc e1 e2=>?_,λ i sv hi=>?_,λ β ch hc=>?_,h.below,h.dom,h.defers,h.dep,λ β ch p hc hp=>?_,h.round,h.glob,h.kZ,λ i sv hi=>?_,λ i sv hi=>?_,⟨λ β ch hc hm=>?_,λ β ch n hc hn=>?_,λ β γ c d n hc hd hn=>?_,λ β γ c d n hc hd hn hm=>?_⟩⟩
 ·rw[St.put_slots]at hi;change (s0.slots.set d (.own q))[i]?=some sv at hi
  by_cases hd:d=i
  ·subst hd;have hlt:d < s0.slots.length:=by
    rcases lt_or_ge d s0.slots.length with hl|hl
    ·exact hl
    ·rw[getElem?_eq_none (by simpa using hl)]at hi;cases hi
   rw[getElem?_set_self hlt]at hi;cases hi;have:=h.slots d (.own C.length) (by rw[St.put_slots];exact getElem?_set_self hlt)
   simp only[yF]at this ⊢;rw[hself];exact this
  ·rw[getElem?_set_ne hd]at hi;exact conv (n1 i sv hi) (h.slots i sv (by rw[St.put_slots];exact (getElem?_set_ne hd).trans hi))
 ·rcases new β ch hc with ⟨rfl,rfl⟩|⟨hne,hc⟩
  ·have:=h.cH C.length _ last;rw[hself];refine ⟨?_,this.2⟩;have h2:yB P (Av A0 (ρ.set β (ρ C.length)) (C.set β (some (Chunk.arr e u xs nn)))) w ρ (ρ C.length) (Chunk.arr e u xs nn):=this.1.keep (λ _ _=>rfl) (λ n _ h=>hA n h)
   show yB P (Av A0 (ρ.set β (ρ C.length)) (C.set β (some (Chunk.arr e u xs nn)))) w (ρ.set β (ρ C.length)) (ρ C.length) (Chunk.arr e u xs nn)
   simpa only[yB]using h2
  ·have:=h.cH β ch (old β ch hc);rw[he β hne];exact ⟨(this.1.keep (λ _ _=>rfl) (λ n _ h=>hA n h)).congrN he (hch β ch hc),this.2⟩
 ·rcases new β c1 hb with ⟨b1,b2⟩|⟨b1,b2⟩<;>rcases new γ c2 hc with ⟨d1,d2⟩|⟨d1,d2⟩
  ·rw[b1,d1]
  ·subst b1;rw[hself,he γ d1]at e1;rw[hself]at e2;have:=h.inj C.length γ _ _ last (old γ c2 d2) e1 e2;have:=(List.getElem?_eq_some_iff.1 d2).1;omega
  ·subst d1;rw[hself,he β b1]at e1;rw[he β b1]at e2;have:=h.inj β C.length _ _ (old β c1 b2) last e1 e2;have:=(List.getElem?_eq_some_iff.1 b2).1;omega
  ·rw[he β b1,he γ d1]at e1;rw[he β b1]at e2;exact h.inj β γ _ _ (old β c1 b2) (old γ c2 d2) e1 e2
 ·rw[St.put_slots]at hi;change (s0.slots.set d (.own q))[i]?=some sv at hi
  show sv.inn (({ s0 with cH:=C.set q (some (Chunk.arr e u xs nn)) }:St).put (some d) (.own q)).cH.length
  rw[show (({ s0 with cH:=C.set q (some (Chunk.arr e u xs nn)) }:St).put (some d) (.own q)).cH=C.set q (some (Chunk.arr e u xs nn))from rfl,hlen]
  by_cases hd:d=i
  ·subst hd;have hlt:d < s0.slots.length:=by
    rcases lt_or_ge d s0.slots.length with hl|hl
    ·exact hl
    ·rw[getElem?_eq_none (by simpa using hl)]at hi;cases hi
   rw[getElem?_set_self hlt]at hi;cases hi;show q < _
   omega
  ·rw[getElem?_set_ne hd]at hi;exact hs.names i sv hi
 ·show ch.inn (C.set q (some (Chunk.arr e u xs nn))).length
  rw[hlen];rcases new β ch hc with ⟨rfl,rfl⟩|⟨hne,hc⟩
  ·trivial
  ·exact hs.cN β ch (hsub β ch hc)
 ·rcases new β ch hc with ⟨rfl,rfl⟩|⟨hne,hc⟩
  ·cases hp
  ·exact h.lpi β ch p (old β ch hc) hp
 ·exact conv (n2 i sv hi) (h.kS i sv hi)
 ·show sv.inn (C.set q (some (Chunk.arr e u xs nn))).length
  rw[hlen];exact hs.kN i sv hi
 ·rcases new β ch hc with ⟨rfl,rfl⟩|⟨hne,hc⟩
  ·rw[hself];exact h.subs.plain C.length _ last rfl
  ·rw[he β hne];exact h.subs.plain β ch (old β ch hc) hm
 ·rcases new β ch hc with ⟨rfl,rfl⟩|⟨hne,hc⟩
  ·rw[hself]at hn;exact h.subs.base C.length _ n last hn
  ·rw[he β hne]at hn;exact h.subs.base β ch n (old β ch hc) hn
 ·have up:∀ (β:Nat) (ch:Chunk),(C.set q (some (Chunk.arr e u xs nn)))[β]?=some (some ch)->∃ β0 c0,(C++[some (Chunk.arr e u xs nn)])[β0]?=some (some c0)/\ρ.set q (ρ C.length) β=ρ β0:=by
   intro β ch hc;rcases new β ch hc with ⟨rfl,rfl⟩|⟨hne,hc⟩
   ·exact ⟨C.length,_,last,hself⟩
   ·exact ⟨β,ch,old β ch hc,he β hne⟩
  obtain ⟨β0,c0,h1,h2⟩:=up β c hc;obtain ⟨γ0,d0,h3,h4⟩:=up γ d hd;rw[h2]at hn;rw[h4];exact h.subs.apart β0 γ0 c0 d0 n h1 h3 hn
 ·rcases new β c hc with ⟨b1,b2⟩|⟨b1,b2⟩<;>rcases new γ d hd with ⟨d1,d2⟩|⟨d1,d2⟩
  ·rw[b1,d1]
  ·subst b1;rw[hself]at hn;rw[he γ d1]at hm;have:=h.subs.one C.length γ _ _ n last (old γ d d2) hn hm;have:=(List.getElem?_eq_some_iff.1 d2).1;omega
  ·subst d1;rw[he β b1]at hn;rw[hself]at hm;have:=h.subs.one β C.length _ _ n (old β c b2) last hn hm;have:=(List.getElem?_eq_some_iff.1 b2).1;omega
  ·rw[he β b1]at hn;rw[he γ d1]at hm;exact h.subs.one β γ _ _ n (old β c b2) (old γ d d2) hn hm
theorem y3y{n β:Nat}{ch:Chunk}:(s.pad n).cH[β]?=some (some ch) ↔ s.cH[β]?=some (some ch):=by
 unfold St.pad;dsimp only;rcases lt_or_ge β s.cH.length with hl|hl
 ·rw[getElem?_append_left hl]
 ·rw[getElem?_append_right hl,getElem?_eq_none hl,getElem?_replicate];constructor
  ·intro h;split at h<;>cases h
  ·intro h;cases h
theorem Rel.pad(h:Rel P A0 w0 ρ s a w)(n:Nat):Rel P A0 w0 ρ (s.pad n) a w:=by
 have hA:Av A0 ρ (s.pad n).cH=Av A0 ρ s.cH:=by
  funext k
  unfold Av Sub;simp only[y3y]
 have hlen:s.cH.length<=(s.pad n).cH.length:=by unfold St.pad;simp
 exact ⟨h.size,λ i sv hi=>by rw[hA];exact h.slots i sv hi,λ β ch hc=>by rw[hA];exact h.cH β ch (y3y.1 hc),λ β γ c d hb hc=>h.inj β γ c d (y3y.1 hb) (y3y.1 hc),
  λ i sv hi=>SV.inn_mono hlen (h.names i sv hi),λ β ch hc=>Chunk.inn_mono hlen (h.cN β ch (y3y.1 hc)),h.below,h.dom,h.defers,h.dep,λ β ch q hc=>h.lpi β ch q (y3y.1 hc),h.round,h.glob,h.kZ,
  λ i sv hi=>by rw[hA];exact h.kS i sv hi,λ i sv hi=>SV.inn_mono hlen (h.kN i sv hi),h.subs.sub λ β ch hc=>⟨ch,y3y.1 hc,id⟩⟩
theorem yHG{R:Type}{s:St}{o:Oper}{K:St->Option R}{r:R}(h:y5h g s o K=some r):effK g s o K=some r:=by
 unfold y5h at h;split at h
 ·rename_i e ho;unfold effK;rw[ho];dsimp only;split at h
  ·cases h
  ·rename_i hm0;have hm:y6D g o.dst=false:=by
    simp only[or_eq_true,not_or,not_eq_true]at hm0;exact hm0.1
   cases hl:yV g.T e with
   |none=>rw[hl]at h;cases h
   |some i=>rw[hl]at h;simpa[hm]using h
 ·cases h
theorem yN5{cs:List (Option Chunk)}{sv:SV}{t:Ty}{y:t.den}(h:y0l cs sv t=some y):xOf sv t=none:=by
 unfold xOf;split
 ·cases h
 ·rfl
theorem yB8{cs cs':List (Option Chunk)}{sv:SV}{t:Ty}{y:t.den}(h:y0l cs sv t=some y):y7K cs' t sv=none:=by
 unfold y7K;split
 ·cases h
 ·rfl
theorem yDg{ps:List (Nat×Operand)}(h:y11 s (ps.map (·.2))=false):yLS s ps=false:=by
 unfold yLS;split
 ·rename_i x;split
  ·rename_i β hx;simp[y11,hx]at h
  ·rfl
 ·rfl
theorem yLn{cs:List (Option Chunk)}{β:Nat}{e:TypeId}{u:Ty}{xs:List u.den}{nn:Bool}(h:cs.getD β none=some (.arr e u xs nn)):yPi cs (.own β)=false:=by
 unfold yPi;dsimp only;rw[h]
theorem yCI{sv:SV}{t:Ty}{z:t.den}(h:y0l [] sv t=some z):s.settle sv=s:=by
 cases sv<;>first|rfl|(exfalso;revert h;simp[y0l,yAJ,y5v])
theorem yHX{R:Type}{s:St}{o:Oper}{K:St->Option R}{r:R}(h:y5k g s o K=some r):effK g s o K=some r:=by
 unfold y5k at h;split at h
 ·rename_i t p x ho;unfold effK;rw[ho];dsimp only;split at h
  ·cases h
  ·rename_i hfz;have hfi:∀ z:St,freezeIf g z (.tmp p)=z:=λ z=>by unfold freezeIf;simp only[hfz];rfl
   have he:y9 g.T 0 s (.tmp p)=s.get p:=rfl;rw[he];cases hl:yV g.T t with
   |none=>rw[hl]at h;cases h
   |some i =>
    rw[hl]at h;cases hv:s.get p with
    |bP β off =>
     rw[hv]at h;dsimp only at h ⊢;simp only[hfi];split at h
     ·split at h
      ·rename_i hag;rw[if_pos hag];obtain ⟨y,hy,h⟩:=bind_eq_some_iff.1 h;rw[yN5 hy,yB8 hy,hy];exact h
      ·rename_i hag;rw[if_neg hag];exact h
     ·cases h
    |eP β n sz off =>
     rw[hv]at h;dsimp only at h ⊢;cases hc:s.cH.getD β none with
     |none=>rw[hc]at h;cases h
     |some c =>
      rw[hc]at h;cases c with
      |arr e u xs nn =>
       have hs:s.settle (y9 g.T t s x)=s:=by
        dsimp only at h;obtain ⟨_,h⟩:=yG h;obtain ⟨y,_,h⟩:=bind_eq_some_iff.1 h;obtain ⟨z,hz,_⟩:=bind_eq_some_iff.1 h;exact yCI hz
       have hn:yLU s β off (y9 g.T t s x)=false:=by
        unfold yLU;split
        ·rename_i h2;rw[hc]at h2;cases h2
        ·rfl
       rw[hn,hs,hc];exact h
      |_=>cases h
    |_=>rw[hv]at h;cases h
 ·cases h
noncomputable def y2y{R:Type}(g:G)(s:St)(o:Oper)(k:St->Option R):Option R:=if y0k o then y5h g s o k else y5k g s o k
theorem yLV{R:Type}{s:St}{o:Oper}{K:St->Option R}{r:R}(h:y2y g s o K=some r):effK g s o K=some r:=by
 unfold y2y at h;split at h
 ·exact yHG h
 ·exact yHX h
theorem y1C{R:Type}{s:St}{o:Oper}{K:St->Option R}{r:R}(h:effD g s o K=some r):(y3D g o=true/\newD g s o K=some r)\/(y3D g o=false/\(g.ap.isEmpty=true\/y0k o=true)/\y2y g s o K=some r):=by
 unfold effD at h;cases hn:y3D g o with
 |true=>rw[hn]at h;exact .inl ⟨rfl,h⟩
 |false =>
  rw[hn]at h;simp only[false_eq_true,if_false]at h;unfold y2y;split at h
  ·rename_i ha;exact .inr ⟨rfl,.inr ha,by rw[if_pos ha];exact h⟩
  ·rename_i ha;split at h
   ·rename_i he;exact .inr ⟨rfl,.inl he,by rw[if_neg ha];exact h⟩
   ·cases h
theorem y55{o:Oper}(h:y0k o=true):y3D g o=false:=by
 unfold y0k at h;unfold y3D y2k;split at h
 ·rename_i e ho;rw[ho];rfl
 ·cases h
theorem yLy(r:Nat):∀ (t:Ty),∀ sv∈y0y t,sv.has r=false:=by
 intro t;induction t with
 |pair a b iha ihb =>
  intro sv hs;simp only[y0y,mem_append]at hs;rcases hs with hs|hs
  ·exact iha sv hs
  ·exact ihb sv hs
 |arr n t ih =>
  intro sv hs;simp only[y0y,List.mem_flatten]at hs;obtain ⟨l,hl,hs⟩:=hs;rw[List.eq_of_mem_replicate hl]at hs;exact ih sv hs
 |unit=>intro sv hs;simp[y0y]at hs
 |_=>intro sv hs;simp only[y0y,List.mem_singleton]at hs;subst hs;rfl
theorem y3O{s s1:St}{o:Oper}(ha:y0k o=true)(h:y2y g s o some=some s1):∃ ch:Chunk,(∀ r,ch.has r=false)/\apAt g o.dst=none /\
  ∀ z:St,y2y g z o some=some ({ z with cH:=z.cH++[some ch] }.put o.dst (.bP z.cH.length 0)):=by
 unfold y2y at h;rw[if_pos ha]at h;unfold y5h at h;split at h
 ·rename_i e ho;split at h
  ·cases h
  ·rename_i hm;split at h
   ·rename_i ti hl;refine ⟨Chunk.box ti.ty (y0y ti.ty),λ r=>?_,?_,λ z=>?_⟩
    ·show (y0y ti.ty).any (SV.has r)=false
     rw[any_eq_false];intro sv hs;rw[yLy r ti.ty sv hs];simp
    ·simp only[or_eq_true,not_or,not_eq_true,Option.isSome_eq_false_iff,Option.isNone_iff_eq_none]at hm;exact hm.2
    ·unfold y2y;rw[if_pos ha];unfold y5h;rw[ho];dsimp only;rw[if_neg hm,hl]
   ·cases h
 ·cases h
theorem yHe{s s1:St}{o:Oper}(h:y2y g s o some=some s1):∃ C u,(y0k o=true->∃ c,C=s.cH++[c]) /\
  ∀ z:St,z.cH=s.cH->(∀ x∈o.op.operands.toList,∀ τ,y9 g.T τ z x=y9 g.T τ s x)->y2y g z o some=some ({ z with cH:=C }.put o.dst u):=by
 unfold y2y at h;split at h
 ·rename_i ha;unfold y5h at h;split at h
  ·rename_i e ho;split at h
   ·cases h
   ·rename_i hm;split at h
    ·rename_i ti hl;refine ⟨s.cH++[some (Chunk.box ti.ty (y0y ti.ty))],.bP s.cH.length 0,λ _=>⟨_,rfl⟩,λ z hz _=>?_⟩
     unfold y2y;rw[if_pos ha];unfold y5h;rw[ho];dsimp only;rw[if_neg hm,hl,hz]
    ·cases h
  ·cases h
 ·rename_i ha;unfold y5k at h;split at h
  ·rename_i t p x ho;split at h
   ·cases h
   ·rename_i hfz;cases hl:yV g.T t with
    |none=>rw[hl]at h;cases h
    |some i =>
     rw[hl]at h;cases hv:s.get p with
     |bP β off =>
      rw[hv]at h;dsimp only at h;cases hc:s.cH.getD β none with
      |none=>rw[hc]at h;cases h
      |some c =>
       rw[hc]at h;cases c with
       |box u cells =>
        dsimp only at h;have op:∀ z:St,(∀ x∈o.op.operands.toList,∀ τ,y9 g.T τ z x=y9 g.T τ s x)->z.get p=s.get p/\∀ τ,y9 g.T τ z x=y9 g.T τ s x:=λ z hz=>by
         rw[ho]at hz;exact ⟨hz (.tmp p) (by simp[Op.operands]) 0,hz x (by simp[Op.operands])⟩
        split at h
        ·rename_i hag;obtain ⟨y,hy,h⟩:=bind_eq_some_iff.1 h;obtain ⟨hle,h⟩:=yG h;refine ⟨s.cH.set β (some (Chunk.box u (cells.take off++y0Y i.ty y++cells.drop (off+i.ty.size)))),.undef,λ hq=>absurd hq ha,λ z hz hev=>?_⟩
         obtain ⟨e1,e2⟩:=op z hev;unfold y2y;rw[if_neg ha];unfold y5k;rw[ho];dsimp only;rw[if_neg hfz,hl,e1,hv];dsimp only;rw[hz,hc];dsimp only;rw[if_pos hag,e2,hy];simp only[bind_some];rw[if_pos hle]
        ·rename_i hag;obtain ⟨hle,h⟩:=yG h;refine ⟨s.cH.set β (some (Chunk.box u (cells.set off (asFn g.E i.ty (y9 g.T t s x))))),.undef,λ hq=>absurd hq ha,λ z hz hev=>?_⟩
         obtain ⟨e1,e2⟩:=op z hev;unfold y2y;rw[if_neg ha];unfold y5k;rw[ho];dsimp only;rw[if_neg hfz,hl,e1,hv];dsimp only;rw[hz,hc];dsimp only;rw[if_neg hag,e2,if_pos hle]
       |_=>cases h
     |eP β n sz off =>
      rw[hv]at h;dsimp only at h;cases hc:s.cH.getD β none with
      |none=>rw[hc]at h;cases h
      |some c =>
       rw[hc]at h;cases c with
       |arr e u xs nn =>
        dsimp only at h;have op:∀ z:St,(∀ x∈o.op.operands.toList,∀ τ,y9 g.T τ z x=y9 g.T τ s x)->z.get p=s.get p/\∀ τ,y9 g.T τ z x=y9 g.T τ s x:=λ z hz=>by
         rw[ho]at hz;exact ⟨hz (.tmp p) (by simp[Op.operands]) 0,hz x (by simp[Op.operands])⟩
        obtain ⟨hsz,h⟩:=yG h;obtain ⟨y,hy,h⟩:=bind_eq_some_iff.1 h;obtain ⟨v,hvv,h⟩:=bind_eq_some_iff.1 h;obtain ⟨y',hy',h⟩:=bind_eq_some_iff.1 h;refine ⟨s.cH.set β (some (Chunk.arr e u (xs.set n y') nn)),.undef,λ hq=>absurd hq ha,λ z hz hev=>?_⟩
        obtain ⟨e1,e2⟩:=op z hev;unfold y2y;rw[if_neg ha];unfold y5k;rw[ho];dsimp only;rw[if_neg hfz,hl,e1,hv];dsimp only;rw[hz,hc];dsimp only;rw[if_pos hsz,e2,hy];simp only[bind_some];rw[hvv];simp only[bind_some];rw[hy'];simp only[bind_some]
       |_=>cases h
     |_=>rw[hv]at h;cases h
  ·cases h
theorem yEw{T:List (TypeId×TyI)}{τ:TypeId}{v:Value}{q:Nat}:(y4L T τ v).has q=false:=by
 unfold y4L;repeat' split
 all_goals rfl
theorem y9j{q:Nat}:∀ (l:List (Nat×Ty×List Value)) (b:Nat),(y5L l b).has q=false
 |[],_=>rfl
 |p::l,b=>by
  unfold y5L;split
  ·split<;>rfl
  ·exact y9j l b
theorem yLm{T:List (TypeId×TyI)}{τ:TypeId}{q:Nat}{x:Operand}(h:y50 q s=true):(y9 T τ s x).has q=false:=by
 cases x with
 |tmp t =>
  show (s.get t).has q=false
  rw[St.get_def];rw[getD_eq_getElem?_getD];cases hs:s.slots[t]? with
  |none=>rfl
  |some sv=>exact (y4Y h).1 t sv hs
 |const v=>exact yEw
 |global b=>exact y9j _ b
 |func f=>rfl
theorem y7q{s:St}:∀ {l:List Operand},y11 s l=false->settleAll l s=s
 |[],_=>rfl
 |x::l,h=>by
  unfold y11 at h;rw[any_cons,Bool.or_eq_false_iff]at h;have ih:=y7q (s:=s) (l:=l) h.2;cases x with
  |tmp t =>
   have h1:=h.1;dsimp only at h1;have:s.settle (s.get t)=s:=by
    cases hv:s.get t<;>rw[hv]at h1<;>first|rfl|cases h1
   show settleAll l (s.settle (s.get t))=s
   rw[this];exact ih
  |_=>exact ih
theorem yCS{T:List (TypeId×TyI)}{τ:TypeId}{v:Value}:s.settle (y4L T τ v)=s:=by
 unfold y4L;repeat' split
 all_goals rfl
theorem y8Y:∀ (l:List (Nat×Ty×List Value)) (b:Nat),s.settle (y5L l b)=s
 |[],_=>rfl
 |p::l,b=>by
  unfold y5L;split
  ·split<;>rfl
  ·exact y8Y l b
theorem y8R{T:List (TypeId×TyI)}{τ:TypeId}{x:Operand}(h:y11 s [x]=false):s.settle (y9 T τ s x)=s:=by
 cases x with
 |tmp t =>
  unfold y11 at h;rw[any_cons,Bool.or_eq_false_iff]at h;have h1:=h.1;dsimp only at h1;show s.settle (s.get t)=s
  cases hv:s.get t<;>rw[hv]at h1<;>first|rfl|cases h1
 |const v=>exact yCS
 |global b=>exact y8Y _ b
 |func f=>rfl
theorem y4T{T:List (TypeId×TyI)}{z:St}{l:List Operand}(h:∀ x∈l,∀ τ,y9 T τ z x=y9 T τ s x):y11 z l=y11 s l:=by
 unfold y11;induction l with
 |nil=>rfl
 |cons x l ih =>
  rw[any_cons,any_cons,ih (λ y hy=>h y (by simp[hy]))]
  congr 1
  cases x with
  |tmp t =>
   have:z.get t=s.get t:=h (.tmp t) (by simp) 0
   simp only[this]
  |_=>rfl
theorem y38{s1:St}(h:newD g s o some=some s1):∃ (kill:Option Nat) (q:Nat) (e:TypeId) (u:Ty) (xs:List u.den) (nn fin:Bool),apAt g o.dst=some (kill,q)/\(∃ d,o.dst=some d/\d < s.slots.length/\exe s (d,kill,q)=false) /\
  (∀ β,kill=some β->β < q/\(s.cH.getD β none).isSome=true/\∃ x∈o.op.operands.toList,y9 g.T 0 s x=.own β) /\
  s1=(({ s with cH:=(kl s.cH kill).set q (cq fin e u xs nn) }:St).put o.dst (vq fin q u xs nn)) /\
  effX g s o some=some (({ s with cH:=kl s.cH kill++[some (Chunk.arr e u xs nn)] }:St).put o.dst (.own s.cH.length)) /\
  ∀ z:St,(∀ d,o.dst=some d->d < z.slots.length/\exe z (d,kill,q)=false)->(∀ β,kill=some β->z.cH.getD β none=s.cH.getD β none)->(∀ x∈o.op.operands.toList,∀ τ,y9 g.T τ z x=y9 g.T τ s x) ->
   newD g z o some=some (({ z with cH:=(kl z.cH kill).set q (cq fin e u xs nn) }:St).put o.dst (vq fin q u xs nn)):=by
 unfold newD at h;cases hap:apAt g o.dst with
 |none=>rw[hap]at h;cases h
 |some kq =>
  obtain ⟨kill,q⟩:=kq;rw[hap]at h;dsimp only at h;obtain ⟨hf2,h⟩:=yG h;unfold y8t at hf2;have hf2:∃ d,o.dst=some d/\d < s.slots.length/\exe s (d,kill,q)=false:=by
   cases hd:o.dst with
   |none=>rw[hd]at hf2;cases hf2
   |some d =>
    rw[hd]at hf2;simp only[Slots.has_eq,and_eq_true,decide_eq_true_eq,not_eq_true']at hf2;exact ⟨d,rfl,hf2.1,hf2.2⟩
  have nexe:∀ {z:St},(∀ d,o.dst=some d->d < z.slots.length/\exe z (d,kill,q)=false)->y8t z o kill q=true:=by
   intro z hz;unfold y8t;obtain ⟨d,hd,_⟩:=hf2;rw[hd];obtain ⟨z1,z2⟩:=hz d hd;dsimp only;rw[Slots.has_eq,decide_eq_true (show d < z.sl.toList.length from z1),z2]
   rfl
  cases kill with
  |none =>
   split at h
   ·rename_i t n ps ho _;cases hl:yV g.T t with
    |none=>rw[hl]at h;cases h
    |some i =>
     rw[hl]at h;dsimp only at h;split at h
     ·rename_i u hty;split at h
      ·cases h
      ·rename_i hz;simp only[or_eq_true,not_or,not_eq_true]at hz;obtain ⟨hz1,hz2⟩:=hz;obtain ⟨y,hy,h⟩:=bind_eq_some_iff.1 h;cases h;refine ⟨none,q,i.elem,u,y,!y98 g o,false,rfl,hf2,(λ β hβ=>by cases hβ),rfl,?_,λ z z2 z3 z4=>?_⟩
       ·rw[show effX g s o some=effK g s o some by unfold effX y2k y9d;rw[ho]]
        unfold effK;rw[ho];dsimp only;rw[if_neg (by rw[yDg hz2];simp),y7q hz2,hl]
        dsimp only;rw[hty];dsimp only;rw[if_neg (by rw[hz1];simp),hy]
        rfl
       ·unfold newD;rw[hap];dsimp only;rw[if_pos (nexe z2),ho];dsimp only;rw[hl];dsimp only;rw[hty];dsimp only;have hop:∀ p∈ps.toList,∀ τ,y9 g.T τ z p.2=y9 g.T τ s p.2:=λ p hp τ=>z4 p.2 (by rw[ho];simp[Op.operands];exact ⟨p.1,by simpa using hp⟩) τ
        rw[y4T (s:=s) (T:=g.T) (λ x hx τ=>by
         obtain ⟨p,hp,rfl⟩:=mem_map.1 hx;exact hop p hp τ),y1H hop,hz1,hz2,hy]
        rfl
     ·cases h
   ·rename_i hk;cases hk
   ·rename_i nf args ts ho _;split at h
    ·rename_i q' x t hq ha hts;split at h
     ·cases h
     ·rename_i hset;simp only[not_eq_true]at hset;obtain ⟨ys,hy,h⟩:=bind_eq_some_iff.1 h;have hle:List.length ys<=memMax:=by
       by_cases hle:List.length ys<=memMax
       ·exact hle
       ·rw[decide_eq_false hle]at h;cases h
      rw[decide_eq_true hle,cond_true]at h;cases h;have hx:x∈o.op.operands.toList:=by rw[ho];simp[Op.operands,Call.operands];right;rw[<- Array.mem_toList_iff,ha];simp
      refine ⟨none,q,q'.1,q'.2,ys,false,false,rfl,hf2,(λ β hβ=>by cases hβ),rfl,?_,λ z z2 z3 z4=>?_⟩
      ·unfold effX;rw[hq];dsimp only;unfold ownK;rw[ho];dsimp only;rw[ha,hts];dsimp only;rw[y8R hset,hy];simp only[bind_some];rw[decide_eq_true hle];rfl
      ·unfold newD;rw[hap];dsimp only;rw[if_pos (nexe z2),ho];dsimp only;rw[hq,ha,hts];dsimp only;have e1:y11 z [x]=y11 s [x]:=y4T (T:=g.T) (λ y hy τ=>by simp at hy;subst hy;exact z4 _ hx τ)
       rw[e1,hset,z4 x hx t,hy];simp only[false_eq_true,if_false,bind_some];rw[decide_eq_true hle];rfl
    ·cases h
   ·cases h
  |some β =>
   split at h
   ·rename_i hk;cases hk
   ·rename_i args ts β' ho hk;cases hk;split at h
    ·rename_i b x t t' ha hts;split at h
     ·cases h
     ·rename_i hstr;simp only[or_eq_true,not_or,not_eq_true]at hstr;obtain ⟨hs1,hs2⟩:=hstr;have hb:b∈o.op.operands.toList:=by rw[ho];simp[Op.operands,Call.operands];rw[<- Array.mem_toList_iff,ha];simp
      have hx:x∈o.op.operands.toList:=by rw[ho];simp[Op.operands,Call.operands];rw[<- Array.mem_toList_iff,ha];simp
      split at h
      ·rename_i i γ hl hv;obtain ⟨hg,h⟩:=yG h;obtain ⟨rfl,hlt⟩:=hg;split at h
       ·rename_i e u xs nn hc;obtain ⟨hi,h⟩:=yG h;obtain ⟨ys,hy,h⟩:=bind_eq_some_iff.1 h;have hle:xs.length+List.length ys<=memMax:=by
         by_cases hle:xs.length+List.length ys<=memMax
         ·exact hle
         ·rw[decide_eq_false hle]at h;cases h
        rw[decide_eq_true hle,cond_true]at h;cases h;refine ⟨some γ,q,e,u,xs++ys,nn,y98 g o,rfl,hf2,λ β hβ=>?_,rfl,?_,λ z z2 z3 z4=>?_⟩
        ·cases hβ;exact ⟨hlt,by rw[hc];rfl,b,hb,hv⟩
        ·rw[show effX g s o some=effK g s o some by unfold effX y2k y9d;rw[ho]]
         unfold effK;rw[ho];dsimp only;rw[ha,hts];dsimp only;rw[if_neg (by rw[hs1];simp),if_neg (by rw[hv,yLn hc];simp),y8R hs2,hl,hv]
         dsimp only;rw[hc];dsimp only;rw[if_pos hi,hy];simp only[bind_some];rw[show decide (xs.length+List.length ys<=memMax)=true from decide_eq_true hle]
         rfl
        ·unfold newD;rw[hap];dsimp only;rw[if_pos (nexe z2),ho];dsimp only;rw[ha,hts];dsimp only;have e1:y11 z [x]=y11 s [x]:=y4T (T:=g.T) (λ y hy τ=>by simp at hy;subst hy;exact z4 _ hx τ)
         rw[e1,hs1,hs2,hl,z4 b hb 0,hv];dsimp only;rw[if_neg (show ¬ ((false || false)=true) by simp),if_pos (show γ=γ/\γ < q from ⟨rfl,hlt⟩),z3 γ rfl,hc]
         dsimp only;rw[if_pos hi,z4 x hx t',hy];simp only[bind_some];rw[decide_eq_true hle];rfl
       ·cases h
      ·cases h
    ·cases h
   ·rename_i hk;cases hk
   ·cases h
theorem y0U(cs:List (Option Chunk))(k:Option Nat):(kl cs k).length=cs.length:=by cases k<;>simp[kl]
theorem yKv{cs:List (Option Chunk)}{k:Option Nat}{β:Nat}{ch:Chunk}(h:(kl cs k)[β]?=some (some ch)):cs[β]?=some (some ch):=by
 cases k with
 |none=>exact h
 |some γ =>
  unfold kl at h;by_cases hb:γ=β
  ·subst hb;rw[getElem?_set]at h;split at h
   ·split at h<;>cases h
   ·exact h
  ·rwa[getElem?_set_ne hb]at h
theorem yFJ{cs:List (Option Chunk)}{k:Option Nat}{β:Nat}:(kl cs k).getD β none=if k=some β then none else cs.getD β none:=by
 cases k with
 |none=>simp[kl]
 |some γ =>
  unfold kl;rw[getD_eq_getElem?_getD,getD_eq_getElem?_getD,getElem?_set];by_cases hb:γ=β
  ·subst hb;rw[if_pos rfl,if_pos rfl];split<;>rfl
  ·rw[if_neg hb,if_neg (by simpa using hb)]
theorem yNg{l:List (Nat×Option Nat×Nat)}{t:Nat}{p:Nat×Option Nat×Nat}(h:l.find? (λ p=>p.1 == t)=some p):p∈l/\p.1=t:=
 ⟨List.mem_of_find?_eq_some h,by have:=List.find?_some h;simpa using this⟩
theorem y4U{d:Option Nat}{kill:Option Nat}{q:Nat}(ha:apAt g d=some (kill,q)):∃ t,d=some t/\(t,kill,q)∈g.ap:=by
 unfold apAt at ha;obtain ⟨t,ht,ha⟩:=bind_eq_some_iff.1 ha;obtain ⟨p,hp,e⟩:=map_eq_some_iff.1 ha;obtain ⟨h1,h2⟩:=yNg hp;refine ⟨t,ht,?_⟩;rw[<- e,<- h2];exact h1
theorem yCQ{q d:Nat}{kill:Option Nat}(hf:y0P g s=true)(ha:apAt g (some d)=some (kill,q))(hn:exe s (d,kill,q)=false):q < s.cH.length/\(s.cH.getD q none).isSome=false/\y50 q s=true:=by
 obtain ⟨t,ht,hm⟩:=y4U ha;cases ht;have:=all_eq_true.1 hf _ hm;simp only[hn,Bool.false_or,and_eq_true,decide_eq_true_eq]at this;obtain ⟨⟨h1,h2⟩,h3⟩:=this;refine ⟨h1,?_,h3⟩;cases hc:s.cH.getD q none with
 |none=>rfl
 |some c=>rw[hc]at h2;cases h2
theorem yJJ{q:Nat}{v sv:SV}(h:sv.has q=false):y1S q v sv=sv:=by
 cases sv with
 |own γ =>
  have:=y3i (β:=γ) rfl h;show (if γ=q then v else SV.own γ)=_
  rw[if_neg this]
 |_=>rfl
theorem y2C{q:Nat}{v:SV}:∀ {l:List SV},(∀ sv∈l,sv.has q=false)->l.map (y1S q v)=l
 |[],_=>rfl
 |x::l,h=>by rw[map_cons,yJJ (h x (by simp)),y2C (λ y hy=>h y (by simp[hy]))]
theorem yCk{q:Nat}{v:SV}{ch:Chunk}(h:ch.has q=false):ch.map (y1S q v)=ch:=by
 cases ch with
 |box t cells=>show Chunk.box t (cells.map (y1S q v))=_;rw[y2C (y32 h)]
 |lp i info cells st=>show Chunk.lp i info (cells.map (y1S q v)) st=_;rw[y2C (y32 h)]
 |rcd t cells=>show Chunk.rcd t (cells.map (y1S q v))=_;rw[y2C (y32 h)]
 |_=>rfl
theorem Rel.fin{C:List (Option Chunk)}{e:TypeId}{u:Ty}{xs:List u.den}{nn:Bool}{q d:Nat}{s0:St}(h:Rel P A0 w0 ρ (({ s0 with cH:=C.set q (some (Chunk.arr e u xs nn)) }:St).put (some d) (.own q)) a w)(hq:q < C.length)
  (hno:y50 q s0=true) (hC:∀ (β:Nat) (ch:Chunk),C[β]?=some (some ch)->ch.has q=false):Rel P A0 w0 ρ (({ s0 with cH:=C.set q none }:St).put (some d) (vq true q u xs nn)) a w:=by
 obtain ⟨n1,n2,_⟩:=y4Y hno;have hf:=h.freeze q;have e1:(({ s0 with cH:=C.set q (some (Chunk.arr e u xs nn)) }:St).put (some d) (.own q)).cH.getD q none=some (Chunk.arr e u xs nn):=by
  show (C.set q _).getD q none=_
  rw[getD_eq_getElem?_getD,getElem?_set_self hq];rfl
 have hsl:∀ v:SV,(s0.slots.set d (.own q)).map (y1S q v)=s0.slots.set d v:=by
  intro v;rw[List.map_set,y2C (λ sv hs=>by obtain ⟨i,hi⟩:=mem_iff_getElem?.1 hs;exact n1 i sv hi)]
  show s0.slots.set d (if q=q then v else SV.own q)=_
  rw[if_pos rfl]
 have hkp:∀ v:SV,s0.kept.map (y1S q v)=s0.kept:=λ v=>y2C (λ sv hs=>by obtain ⟨i,hi⟩:=mem_iff_getElem?.1 hs;exact n2 i sv hi)
 have hch:∀ v:SV,((C.set q (some (Chunk.arr e u xs nn))).set q none).map (Option.map (Chunk.map (y1S q v)))=C.set q none:=by
  intro v;rw[List.set_set];apply ext_getElem?;intro n;rw[getElem?_map];cases hn:(C.set q none)[n]? with
  |none=>rfl
  |some c =>
   cases c with
   |none=>rfl
   |some ch =>
    have:C[n]?=some (some ch):=by
     by_cases hqn:q=n
     ·subst hqn;rw[getElem?_set_self hq]at hn;cases hn
     ·rwa[getElem?_set_ne hqn]at hn
    simp only[map_some,yCk (hC n ch this)]
 unfold St.freeze at hf;rw[e1]at hf;dsimp only at hf;have e2:∀ v:SV,(({ s0 with cH:=C.set q (some (Chunk.arr e u xs nn)) }:St).put (some d) (.own q)).sub q (y1S q v)=({ s0 with cH:=C.set q none }:St).put (some d) v:=by
  intro v;have e3:(s0.sl.set d (.own q)).map (y1S q v)=s0.sl.set d v:=Slots.ext_list (by rw[Slots.toList_map,Slots.toList_set,Slots.toList_set];exact hsl v)
  show ({ sl:=(s0.sl.set d (.own q)).map (y1S q v),cH:=((C.set q (some (Chunk.arr e u xs nn))).set q none).map (Option.map (Chunk.map (y1S q v))),kept:=s0.kept.map (y1S q v),dep:=s0.dep,nmk:=s0.nmk,rnd:=s0.rnd }:St)={ sl:=s0.sl.set d v,cH:=C.set q none,kept:=s0.kept,dep:=s0.dep,nmk:=s0.nmk,rnd:=s0.rnd }
  rw[e3,hkp,hch]
 rw[e2]at hf;exact hf
theorem yIp{R:Type}{K:St->Option R}{r:R}(hE:∀ e∈g.E,FnOK P e)(hT:yw P g.T)(hf:y0P g s=true)(h:Rel P A0 w0 ρ s a w)(hk:newD g s o K=some r):OpTo P w0.ro o a w (Goes P A0 w0 K r):=by
 rw[yFv]at hk;obtain ⟨s1,h1,h2⟩:=bind_eq_some_iff.1 hk;obtain ⟨kill,q,e,u,xs,nn,fin,ha,hn,hkill,rfl,heff,_⟩:=y38 h1;obtain ⟨d,hd,_,hn⟩:=hn;rw[hd]at ha;obtain ⟨hq,hn,hno⟩:=yCQ hf ha hn;have hX:=yAE hE hT h heff;intro next Q hnx
 refine hX next Q λ a' w' hg=>hnx a' w' ?_
 obtain ⟨ρ',s',hR,hs'⟩:=hg;cases hs';rw[hd]at hR h2;have hM:=Rel.moved (C:=kl s.cH kill) h (y0U _ _) (λ β ch hc=>yKv hc) (by rw[y0U];exact hq) (by
  rw[yFJ];split
  ·rfl
  ·exact hn) hno (by rw[y0U];exact hR)
 cases fin with
 |false=>exact ⟨_,_,hM,h2⟩
 |true=>exact ⟨_,_,hM.fin (by rw[y0U];exact hq) hno (λ β ch hc=>(y4Y hno).2.2 β ch (yKv hc)),h2⟩
theorem yQe(h:g.ap=[])(sv:SV):okD g o sv=true:=by unfold okD;rw[h];rfl
theorem yIE{R:Type}{K:SV->Option R}{r:R}(h:y8j g s o K=some r):yh g (msk g s) o K=some r:=by
 unfold y8j at h;split at h
 ·cases h
 ·exact h
theorem yF8(h:g.ap=[]):msk g s=s:=by unfold msk;rw[h];rfl
theorem y4e(h:g.ap=[]):y0P g s=true:=by unfold y0P;rw[h];rfl
theorem yLE:∀ (l:List (Nat×Option Nat×Nat)) (cs:List (Option Chunk)),Ext (mskL l cs) cs
 |[],_,_,_,h=>h
 |p::l,cs,β,c,h=>by
  have:=yLE l _ β c h;rw[getD_eq_getElem?_getD,getElem?_set]at this;split at this
  ·split at this<;>cases this
  ·rw[<- getD_eq_getElem?_getD,yFJ]at this;split at this
   ·cases this
   ·exact this
theorem yDT{call:(R:Type)->y0N R}(hC:y6s P call)(hRd:y3M P call)(hT:yw P g.T)(hE:∀ e∈g.E,FnOK P e)(h:Rel P A0 w0 ρ s a w){dr:Bool}(hf:dr=true->y0P g s=true)(hk:y0H g (call R) dr s o K=some r):OpTo P w0.ro o a w (Goes P A0 w0 K r):=by
 unfold y0H at hk;split at hk
 ·split at hk
  ·rename_i hdr;rcases y1C hk with ⟨hn,hk⟩|⟨hn,_,hk⟩
   ·exact yIp hE hT (hf hdr) h hk
   ·have hk:effK g s o K=some r:=yLV hk;exact (yA4 hE hT h hk).opTo (λ c hc=>by simp[effK,hc]at hk)
  ·exact yAE hE hT h hk
 ·dsimp only at hk;have hS:Rel P A0 w0 ρ (if dr=true then s else preK g o (settleAll (yFF o) s)) a w:=by
   split
   ·exact h
   ·exact (Rel.settleAll _ h).preK g o
  generalize (if dr=true then s else preK g o (settleAll (yFF o) s))=s1 at hk hS
  split at hk
  ·rename_i f args ts ho;split at hk
   ·cases hk
   ·exact yEi hC hRd hE hS ho hk
  ·split at hk
   ·rw[y5c]at hk;obtain ⟨sv,h1,h2⟩:=bind_eq_some_iff.1 hk;obtain ⟨_,h2⟩:=yG h2;have h1:=yIE h1;have h3:yh g s1 o some=some sv:=y8N (s:=msk g s1) (cs':=s1.cH) (yLE g.ap s1.cH) h1;have h4:yh g s1 o (λ sv=>K (s1.put o.dst sv))=some r:=by rw[y66,h3];exact h2
    exact ((y8P hE hT hS h4).eff hS (λ sv=>rfl)).opTo (λ c hc=>by simp[yh,hc]at h4)
   ·exact ((y8P hE hT hS hk).eff hS (λ sv=>rfl)).opTo (λ c hc=>by simp[yh,hc]at hk)
noncomputable def y17(g:G)(ta tr:Ty)(m:ta.den->Option tr.den)(s:St)(c:Call)(caps:St->List SV):Option SV:=
 if tr.flat then (y1V g.E s.cH ta (y2m g.T s c.args.toList c.argTypes.toList++caps s)).bind λ x=>(m x).bind λ y=>some (yBG tr y)
 else (y1V g.E [] ta (y2m g.T s c.args.toList c.argTypes.toList++caps s)).bind λ x=>(m x).bind λ y=>some (yBG tr y)
noncomputable def yNe(g:G)(d:Option Nat)(s:St)(c:Call)(f:Operand):Option SV:=
 match y9 g.T 0 s f with
 |.clo n _=>(match yJX g d n with
  |some e=>y17 g e.args e.rS e.m s c (y0r g.T f)
  |none=>none)
 |.val (.func a b) m=>y17 g a b m s c (λ _=>[])
 |_=>none
noncomputable def y2l(g:G)(s:St)(o:Oper):Option SV:=
 if y1x g o then none else
 match o.op with
 |.call { callee:=.value f,args,argTypes }=>if g.ap.isEmpty then yNe g o.dst s { callee:=.value f,args,argTypes } f else none
 |_=>y8j g s o some
noncomputable def yJT(g:G)(s:St)(o:Oper):Option SV:=(y2l g s o).bind λ sv=>if okD g o sv then some sv else none
theorem y4w{ta tr:Ty}{m:ta.den->Option tr.den}{c:Call}{caps:St->List SV}{dst:Option Nat} :
  y12 g ta tr m s c caps true dst some=(y17 g ta tr m s c caps).map λ sv=>s.put dst sv:=by
 unfold y12 y17;simp only[Bool.true_or,Bool.and_true];split
 ·cases y1V g.E s.cH ta (y2m g.T s c.args.toList c.argTypes.toList++caps s)with
  |none=>rfl
  |some x =>
   simp only[bind_some];cases m x<;>rfl
 ·simp only[if_true];cases y1V g.E [] ta (y2m g.T s c.args.toList c.argTypes.toList++caps s)with
  |none=>rfl
  |some x =>
   simp only[bind_some];cases m x<;>rfl
theorem yA9{call:y0N St}(he:y1x g o=false):y0H g call true s o some=(yJT g s o).map λ sv=>s.put o.dst sv:=by
 unfold y0H yJT y2l;rw[he];simp only[false_eq_true,if_false]
 ·simp only[if_true];split
  ·rename_i f args ts ho;simp only[ho];cases ha:g.ap.isEmpty with
   |false=>rfl
   |true =>
    have ha':g.ap=[]:=isEmpty_iff.1 ha;simp only[Bool.not_true,Bool.and_false,false_eq_true,if_false,if_true,yQe ha'];rw[show ∀ x:Option SV,(x.bind λ sv=>some sv)=x from λ x=>by cases x<;>rfl]
    unfold yE7 yNe;generalize y9 g.T 0 s f=sv;cases sv with
    |clo n caps =>
     dsimp only;cases yJX g o.dst n with
     |none=>rfl
     |some e=>exact y4w
    |val t m=>cases t<;>first|rfl|exact y4w
    |_=>rfl
  ·rename_i hno;split
   ·rename_i f args ts ho;exact absurd ho (hno f args ts)
   ·rw[y5c,Option.map_bind];congr 1
    funext sv
    show (if okD g o sv=true then some (s.put o.dst sv)else none)=Option.map _ (if okD g o sv=true then some sv else none)
    split<;>rfl
theorem y49{ta tr:Ty}{m:ta.den->Option tr.den}{c:Call}{caps:St->List SV}(hc:s'.cH=s.cH)(h:∀ x∈c.args.toList,∀ τ,y9 g.T τ s' x=y9 g.T τ s x)(hcaps:caps s'=caps s) :
  y17 g ta tr m s' c caps=y17 g ta tr m s c caps:=by
 unfold y17;rw[y53 h,hcaps,hc]
theorem y5E(hm:mskL g.ap s'.cH=mskL g.ap s.cH)(h:∀ x∈o.op.operands.toList,∀ τ,y9 g.T τ s' x=y9 g.T τ s x):y2l g s' o=y2l g s o:=by
 unfold y2l;split
 ·rfl
 ·split
  ·rename_i f args ts ho;rw[ho]at h;split
   ·rename_i ha;have ha':g.ap=[]:=isEmpty_iff.1 ha;have hc:s'.cH=s.cH:=by rw[ha']at hm;exact hm
    have hf:∀ τ,y9 g.T τ s' f=y9 g.T τ s f:=λ τ=>h f (by simp[Op.operands,Call.operands]) τ
    have ha:∀ x∈args.toList,∀ τ,y9 g.T τ s' x=y9 g.T τ s x:=λ x hx τ=>h x (by simp[Op.operands,Call.operands];right;simpa using hx) τ
    unfold yNe;rw[hf 0];split
    ·split
     ·exact y49 hc ha (by unfold y0r;rw[hf 0])
     ·rfl
    ·exact y49 hc ha rfl
    ·rfl
   ·rfl
  ·unfold y8j;have hfr:y1U g s' o=y1U g s o:=by
    unfold y1U;cases ho:o.op with
    |field t x f=>rw[ho]at h;simp only[h x (by simp[Op.operands])]
    |_=>rfl
   rw[hfr];split
   ·rfl
   ·exact yEN _ hm h
theorem yDX{cs':List (Option Chunk)}(ha:g.ap=[])(hx:Ext s.cH cs'){sv:SV}(h:y2l g s o=some sv):y2l g { s with cH:=cs' } o=some sv:=by
 have he:∀ x τ,y9 g.T τ { s with cH:=cs' } x=y9 g.T τ s x:=λ x τ=>by cases x<;>rfl
 unfold y2l at h ⊢;split at h
 ·cases h
 ·rename_i hf;rw[if_neg hf];split at h
  ·rename_i f args ts ho;have ha2:g.ap.isEmpty=true:=isEmpty_iff.2 ha;rw[if_pos ha2]at h ⊢;have ct:∀ {ta tr:Ty} {m:ta.den->Option tr.den} {c:Call} {caps:St->List SV},caps { s with cH:=cs' }=caps s->y17 g ta tr m s c caps=some sv->y17 g ta tr m { s with cH:=cs' } c caps=some sv:=by
    intro ta tr m c caps hcaps h;unfold y17 at h ⊢;rw[hcaps,y53 (s':={ s with cH:=cs' }) (s:=s) (λ x _ τ=>he x τ)]
    split at h
    ·rename_i hfl;rw[if_pos hfl];obtain ⟨x,h1,h2⟩:=bind_eq_some_iff.1 h;rw[y9Y hx h1];exact h2
    ·rename_i hfl;rw[if_neg hfl];exact h
   unfold yNe at h ⊢;rw[he];split at h
   ·rename_i n caps hv;split at h
    ·rename_i e hfe;exact ct (by unfold y0r;rw[he]) h
    ·cases h
   ·exact ct rfl h
   ·cases h
  ·unfold y8j at h ⊢;have hfr:y1U g { s with cH:=cs' } o=y1U g s o:=by
    unfold y1U;cases ho:o.op with
    |field t x f=>simp only[he]
    |_=>rfl
   rw[hfr];split at h
   ·cases h
   ·rename_i hn;rw[if_neg hn];rw[yF8 ha]at h ⊢;exact y8N hx h
theorem yHq{cs':List (Option Chunk)}(hx0:Ext s.cH cs')(hx:Ext (mskL g.ap s.cH) (mskL g.ap cs')){sv:SV}(h:y2l g s o=some sv):y2l g { s with cH:=cs' } o=some sv:=by
 by_cases ha:g.ap=[]
 ·exact yDX ha hx0 h
 have he:∀ x τ,y9 g.T τ { s with cH:=cs' } x=y9 g.T τ s x:=λ x τ=>by cases x<;>rfl
 unfold y2l at h ⊢;split at h
 ·cases h
 ·rename_i hf;rw[if_neg hf];split at h
  ·rename_i f args ts ho;rw[if_neg (λ h2=>ha (isEmpty_iff.1 h2))]at h
   cases h
  ·unfold y8j at h ⊢;have hfr:y1U g { s with cH:=cs' } o=y1U g s o:=by
    unfold y1U;cases ho:o.op with
    |field t x f=>simp only[he]
    |_=>rfl
   rw[hfr];split at h
   ·cases h
   ·rename_i hn;rw[if_neg hn];exact y8N (s:=msk g s) (cs':=mskL g.ap cs') hx h
theorem yIZ{C:List (Option Chunk)}(ha:g.ap=[])(hs:yJc g o=true):y2l g { s with cH:=C } o=y2l g s o:=by
 have he:∀ x τ,y9 g.T τ { s with cH:=C } x=y9 g.T τ s x:=λ x τ=>by cases x<;>rfl
 unfold y2l y8j y1U;rw[yF8 ha,yF8 ha];split
 ·rfl
 ·unfold yJc yGw yOa at hs;unfold yh;cases ho:o.op with
  |load t a =>
   rw[ho]at hs;have hv:g.vl=true:=by simpa using hs
   simp only[he,hv,Bool.true_and];cases y9 g.T 0 s a with
   |val u x=>cases yV g.T t with|none=>rfl|some i=>cases u<;>rfl
   |_=>rfl
  |fieldAddr t x f=>simp only[he]
  |move x=>exact congrArg some (he x _)
  |assign x=>simp only[he]
  |pick c a b=>simp only[he]
  |binOp op t x y z=>simp only[he]
  |unOp op t x=>simp only[he]
  |convert t u x=>simp only[he]
  |field t x f =>
   simp only[he];cases y9 g.T 0 s x with
   |sR β=>rfl
   |_=>cases yV g.T t<;>rfl
  |extract x n=>simp only[he]
  |_=>first|(rw[ho]at hs;cases hs;done)|(rw[ho]at hs;done)|(rw[ho]at hs;simp at hs;done)
noncomputable def y1a(ops:Array Oper)(s:St)(o:Oper):Option Bool:=
 match o.guard with
 |none=>some true
 |some (j,want)=>(y5S ops s j).map λ b=>b == some want
theorem y6o(h:Rel P A0 w0 ρ s a w){b:Bool}(hg:y1a ops s o=some b):Region.wanted o (yielded ops a.tmps)=b:=by
 unfold y1a at hg;unfold Region.wanted;split at hg
 ·rename_i hgd;rw[hgd];cases hg;rfl
 ·rename_i j want hgd;rw[hgd];rw[map_eq_some_iff]at hg;obtain ⟨b',hb',rfl⟩:=hg;unfold y5S at hb';split at hb'
  ·rename_i t ht;split at hb'
   ·rename_i b2 hb2;cases hb';have:=h.get t;rw[hb2]at this;have hv:=y3b this;have hy:yielded ops a.tmps j=some b2:=by
     unfold yielded;rw[ht];simp only[bind_some];simp only[Act.eval]at hv;rw[Array.getD_eq_getD_getElem?]at hv;cases hq:a.tmps[t]? with
     |none=>rw[hq]at hv;cases hv
     |some v=>rw[hq]at hv;simp at hv;subst hv;rfl
    simp only[hy]
   ·rename_i hb2;cases hb';have:=h.get t;rw[hb2]at this;have hv:a.eval (.tmp t)=undef:=this;have hy:yielded ops a.tmps j=none:=by
     unfold yielded;rw[ht];simp only[bind_some];simp only[Act.eval]at hv;rw[Array.getD_eq_getD_getElem?]at hv;cases hq:a.tmps[t]? with
     |none=>rfl
     |some v=>rw[hq]at hv;simp at hv;subst hv;rfl
    simp only[hy]
   ·cases hb'
  ·cases hb'
theorem y6V{d i:Nat}{sv:SV}(h:d≠i):(s.put (some d) sv).get i=s.get i:=by
 rw[St.get_def,St.get_def,St.put_slots];simp only[getD_eq_getElem?_getD];rw[getElem?_set_ne h]
theorem yc(d:Option Nat)(sv:SV):(s.put d sv).cH=s.cH:=by cases d<;>rfl
theorem yKN{T:List (TypeId×TyI)}{τ:TypeId}{d:Option Nat}{sv:SV}{x:Operand}(h:∀ t,d=some t->x≠.tmp t):y9 T τ (s.put d sv) x=y9 T τ s x:=by
 cases d with
 |none=>rfl
 |some t =>
  cases x with
  |tmp k=>exact y6V (λ e=>h t rfl (by rw[e]))
  |_=>rfl
theorem y3S{d:Option Nat}{sv:SV}(h:∀ t,d=some t->t ∉ o.looksAt ops):∀ x∈o.op.operands.toList,∀ τ,y9 g.T τ (s.put d sv) x=y9 g.T τ s x:=
 λ x hx τ=>yKN λ t ht hxt=>h t ht (by
  subst hxt;exact List.mem_append_left _ (List.mem_filterMap.2 ⟨.tmp t,by simpa using hx,rfl⟩))
theorem y1y{d:Option Nat}{sv:SV}(h:∀ t,d=some t->t ∉ o.looksAt ops):y2l g (s.put d sv) o=y2l g s o:=
 y5E (by rw[yc]) (y3S h)
theorem yo{d:Option Nat}{sv:SV}(h:∀ t,d=some t->t ∉ o.looksAt ops):y1a ops (s.put d sv) o=y1a ops s o:=by
 cases d with
 |none=>rfl
 |some t =>
  unfold y1a;cases hg:o.guard with
  |none=>rfl
  |some gw =>
   obtain ⟨j,want⟩:=gw;have:y5S ops (s.put (some t) sv) j=y5S ops s j:=by
    unfold y5S;cases ht:(ops[j]?).bind (·.dst)with
    |none=>rfl
    |some u =>
     have hne:t≠u:=λ e=>h t rfl (by subst e;simp[Oper.looksAt,hg,ht])
     simp only[y6V hne]
   simp only[this]
theorem y19{d e:Option Nat}{x y:SV}(h:∀ t,d=some t->e≠some t):(s.put d x).put e y=(s.put e y).put d x:=by
 cases d with
 |none=>rfl
 |some t =>
  cases e with
  |none=>rfl
  |some u =>
   have hne:t≠u:=λ e=>h t rfl (by rw[e])
   show ({ s with sl:=(s.sl.set t x).set u y }:St)={ s with sl:=(s.sl.set u y).set t x }
   rw[show (s.sl.set t x).set u y=(s.sl.set u y).set t x from Slots.ext_list (by simp only[Slots.toList_set];exact List.set_comm _ _ hne)]
def sOp(g:G)(call:y0N St)(ops:Array Oper)(T:Nat->Bool)(i:Nat)(K:St->Prop)(s:St):Prop:=
 match ops[i]? with
 |none=>K s
 |some o=>(T i=true->y0P g s=true)/\match y1a ops s o with
  |some true=>∃ s',y0H g call (T i) s o some=some s'/\K s'
  |some false=>(T i=true->y1Q g s o=true)/\K (s.put o.dst .gone)
  |none=>False
def anyS(g:G)(call:y0N St)(md:Region.Mode)(ops:Array Oper)(T:Nat->Bool)(Q:St->Prop):Nat->Array Bool->St->Prop
 |0,listed,s=>Region.ready md ops listed=[]/\Q s
 |fuel+1,listed,s=>(Region.ready md ops listed=[]->Q s)/\∀ i∈Region.ready md ops listed,sOp g call ops T i (anyS g call md ops T Q fuel (listed.setIfInBounds i true)) s
theorem yMX{call:y0N St}{T:Nat->Bool}{i:Nat}{K K':St->Prop}(h:∀ s,K s->K' s)(hh:sOp g call ops T i K s):sOp g call ops T i K' s:=by
 unfold sOp at *;split
 ·rename_i ho;rw[ho]at hh;exact h _ hh
 ·rename_i o ho;rw[ho]at hh;dsimp only at hh;obtain ⟨hf,hh⟩:=hh;refine ⟨hf,?_⟩;split
  ·rename_i hg;rw[hg]at hh;obtain ⟨s',h1,h2⟩:=hh;exact ⟨s',h1,h _ h2⟩
  ·rename_i hg;rw[hg]at hh;exact ⟨hh.1,h _ hh.2⟩
  ·rename_i hg;rw[hg]at hh;exact hh
theorem y8W{call:(R:Type)->y0N R}(hC:y6s P call)(hRd:y3M P call)(hT:yw P g.T)(hE:∀ e∈g.E,FnOK P e){T:Nat->Bool}{i:Nat}{K:St->Prop}{K':Act->World->Prop}{Q':Exit->Act->World->Prop}(h:Rel P A0 w0 ρ s a w)
  (hK:∀ ρ s a w,Rel P A0 w0 ρ s a w->K s->K' a w) (hh:sOp g (call St) ops T i K s):wpOpIn (y3V w0.ro) 0 P ops Q' i K' a w:=by
 unfold sOp at hh;unfold wpOpIn;split
 ·rename_i ho;rw[ho]at hh;exact hK _ _ _ _ h hh
 ·rename_i o ho;rw[ho]at hh;dsimp only at hh;obtain ⟨hf,hh⟩:=hh;split at hh
  ·rename_i hg;rw[if_pos (y6o h hg)];obtain ⟨s',h1,h2⟩:=hh;refine (yDT hC hRd hT hE h hf h1 K' Q' ?_);rintro a' w' ⟨ρ',s2,hR,h3⟩
   cases h3;exact hK _ _ _ _ hR h2
  ·rename_i hg;rw[y6o h hg];simp only[false_eq_true,if_false];exact ⟨λ _ _=>trivial,hK _ _ _ _ (h.put o.dst (sv:=.gone) (v:=undef) trivial rfl) hh.2⟩
  ·exact hh.elim
theorem y5a{call:(R:Type)->y0N R}(hC:y6s P call)(hRd:y3M P call)(hT:yw P g.T)(hE:∀ e∈g.E,FnOK P e){T:Nat->Bool}{Q:St->Prop}{Q':Exit->Act->World->Prop}(hQ:∀ ρ s a w,Rel P A0 w0 ρ s a w->Q s->Q' .normal a w) :
  ∀ (fuel:Nat) (listed:Array Bool) {ρ:Places} {s:St} {a:Act} {w:World},Rel P A0 w0 ρ s a w->anyS g (call St) md ops T Q fuel listed s->wpAnyIn (y3V w0.ro) 0 P md ops Q' fuel listed a w
 |0,_,_,_,_,_,h,hh=>⟨hh.1,hQ _ _ _ _ h hh.2⟩
 |fuel+1,_,_,_,_,_,h,hh=>⟨λ h0=>hQ _ _ _ _ h (hh.1 h0),λ i hi=>y8W hC hRd hT hE h (λ _ _ _ _ hR hK=>y5a hC hRd hT hE hQ fuel _ hR hK) (hh.2 i hi)⟩
def Runs(g:G)(call:y0N St)(ops:Array Oper)(o:Oper)(s s1:St):Prop:=
 y0P g s=true/\((y1a ops s o=some true/\y0H g call true s o some=some s1)\/(y1a ops s o=some false/\y1Q g s o=true/\s1=s.put o.dst .gone))
theorem Runs.sOp{call:y0N St}{T:Nat->Bool}{i:Nat}{s1:St}(hi:ops[i]?=some o)(hTi:T i=true)(h:Runs g call ops o s s1){K:St->Prop}(hK:K s1):sOp g call ops T i K s:=by
 unfold Vx.sOp;rw[hi];dsimp only;obtain ⟨hf,h⟩:=h;refine ⟨λ _=>hf,?_⟩
 rcases h with ⟨h1,h2⟩|⟨h1,h0,rfl⟩
 ·rw[h1,hTi];exact ⟨s1,h2,hK⟩
 ·rw[h1];exact ⟨λ _=>h0,hK⟩
theorem y80{call:y0N St}{T:Nat->Bool}{i:Nat}{K:St->Prop}(hi:ops[i]?=some o)(hTi:T i=true)(h:sOp g call ops T i K s):∃ s1,Runs g call ops o s s1/\K s1:=by
 unfold sOp at h;rw[hi]at h;dsimp only at h;obtain ⟨hf,h⟩:=h;split at h
 ·rename_i hg;obtain ⟨s1,h1,h2⟩:=h;rw[hTi]at h1;exact ⟨s1,⟨hf hTi,.inl ⟨hg,h1⟩⟩,h2⟩
 ·rename_i hg;exact ⟨_,⟨hf hTi,.inr ⟨hg,h.1 hTi,rfl⟩⟩,h.2⟩
 ·exact h.elim
def yFH(g:G)(ops:Array Oper)(o:Oper)(sv:SV)(s:St):Prop:=
 (y1a ops s o=some true/\yJT g s o=some sv)\/(y1a ops s o=some false/\okD g o .gone=true/\sv=.gone)
theorem y0R{sv:SV}:yJT g s o=some sv ↔ y2l g s o=some sv/\okD g o sv=true:=by
 unfold yJT;rw[bind_eq_some_iff];constructor
 ·rintro ⟨x,h1,h2⟩
  obtain ⟨h3,h4⟩:=yG h2;cases h4;exact ⟨h1,h3⟩
 ·rintro ⟨h1,h2⟩
  exact ⟨sv,h1,by rw[if_pos h2]⟩
omit [GT] in
theorem y1W{sv:SV}:okD g o sv=true ↔ ∀ p∈g.ap,sv.has p.2.2=false/\o.dst≠some p.1:=by
 unfold okD;rw[all_eq_true];simp only[and_eq_true,not_eq_true',bne_iff_ne]
theorem y97{d:Option Nat}(h:apAt g d=none):∀ p∈g.ap,d≠some p.1:=by
 intro p hp hd;subst hd;unfold apAt at h;simp only[bind_some,Option.map_eq_none_iff,List.find?_eq_none]at h;exact h p hp (by simp)
theorem yIY(he:y1x g o=false):y1Q g s o=true ↔ okD g o .gone=true:=by
 unfold y1Q;rw[y1W,or_eq_true];constructor
 ·rintro (h|h)
  ·have h:=isEmpty_iff.1 h;exact λ p hp=>by rw[h]at hp;cases hp
  ·refine λ p hp=>⟨rfl,λ hd=>?_⟩
   cases ha:apAt g o.dst with
   |none=>exact y97 ha p hp hd
   |some q=>rw[ha,he]at h;simp at h
 ·intro h2;refine .inr ?_
  cases ha:apAt g o.dst with
  |none=>rfl
  |some q =>
   obtain ⟨kill,r⟩:=q;obtain ⟨t,ht,hm⟩:=y4U ha;exact absurd ht (h2 _ hm).2
theorem y1M{call:y0N St}(he:y1x g o=false){s1:St}:Runs g call ops o s s1 ↔ y0P g s=true/\∃ sv,yFH g ops o sv s/\s1=s.put o.dst sv:=by
 unfold Runs yFH;rw[yA9 he,yIY he];constructor
 ·rintro ⟨hf,⟨h1,h2⟩|⟨h1,h0,rfl⟩⟩
  ·rw[map_eq_some_iff]at h2;obtain ⟨sv,h3,rfl⟩:=h2;exact ⟨hf,sv,.inl ⟨h1,h3⟩,rfl⟩
  ·exact ⟨hf,.gone,.inr ⟨h1,h0,rfl⟩,rfl⟩
 ·rintro ⟨hf,sv,⟨h1,h2⟩|⟨h1,h0,rfl⟩,rfl⟩
  ·exact ⟨hf,.inl ⟨h1,by rw[h2];rfl⟩⟩
  ·exact ⟨hf,.inr ⟨h1,h0,rfl⟩⟩
theorem y4i{sv:SV}(h:yFH g ops o sv s):∀ p∈g.ap,sv.has p.2.2=false/\o.dst≠some p.1:=by
 rcases h with ⟨_,h⟩|⟨_,h,rfl⟩
 ·exact y1W.1 (y0R.1 h).2
 ·exact y1W.1 h
theorem y3s{q:Nat}{d:Option Nat}{sv:SV}(h:y50 q s=true)(hs:sv.has q=false):y50 q (s.put d sv)=true:=by
 cases d with
 |none=>exact h
 |some t =>
  unfold y50 at h ⊢;simp only[and_eq_true]at h ⊢;refine ⟨⟨?_,h.1.2⟩,h.2⟩;refine all_eq_true.2 λ x hx=>?_
  rw[St.put_slots]at hx;rcases List.mem_or_eq_of_mem_set hx with hx|rfl
  ·exact all_eq_true.1 h.1.1 x hx
  ·rw[hs];rfl
theorem yCf{d:Nat}{sv:SV}(h:d < s.slots.length):(s.put (some d) sv).get d=sv:=by
 rw[St.get_def,St.put_slots];simp only[getD_eq_getElem?_getD];rw[getElem?_set_self h];rfl
theorem y0z(d:Option Nat)(sv:SV):(s.put d sv).slots.length=s.slots.length:=by cases d<;>simp[St.put_slots,St.put_none]
theorem y0d{p:Nat×Option Nat×Nat}{d:Option Nat}{sv:SV}(h:d≠some p.1):exe (s.put d sv) p=exe s p:=by
 unfold exe;rw[Slots.has_eq,Slots.has_eq,show (s.put d sv).sl.toList.length=s.sl.toList.length from y0z d sv]
 congr 1
 cases d with
 |none=>rfl
 |some t =>
  have:(s.put (some t) sv).get p.1=s.get p.1:=y6V (λ e=>h (by rw[e]))
  rw[this]
theorem yHl{p:Nat×Option Nat×Nat}{C:List (Option Chunk)}:exe ({ s with cH:=C }:St) p=exe s p:=rfl
theorem y2s{d:Option Nat}{sv:SV}(h:y0P g s=true)(hs:∀ p∈g.ap,sv.has p.2.2=false/\d≠some p.1):y0P g (s.put d sv)=true:=by
 refine all_eq_true.2 λ p hp=>?_
 have:=all_eq_true.1 h p hp;rw[yc,y0d (hs p hp).2];simp only[or_eq_true,and_eq_true]at this ⊢;rcases this with h1|⟨h1,h2⟩
 ·exact .inl h1
 ·exact .inr ⟨h1,y3s h2 (hs p hp).1⟩
theorem yCw{l:List (Nat×Option Nat×Nat)}(h:(l.map (·.1)).Nodup){p q:Nat×Option Nat×Nat}(hp:p∈l)(hq:q∈l)(e:p.1=q.1):p=q:=by
 induction l with
 |nil=>cases hp
 |cons x l ih =>
  rw[map_cons,nodup_cons]at h;rcases mem_cons.1 hp with e1|h1<;>rcases mem_cons.1 hq with e2|h2
  ·rw[e1,e2]
  ·exact absurd (mem_map.2 ⟨q,h2,by rw[<- e,e1]⟩) h.1
  ·exact absurd (mem_map.2 ⟨p,h1,by rw[e,e2]⟩) h.1
  ·exact ih h.2 h1 h2
theorem yKm{l:List (Nat×Option Nat×Nat)}(h:(l.map (·.2.2)).Nodup){p q:Nat×Option Nat×Nat}(hp:p∈l)(hq:q∈l)(e:p.2.2=q.2.2):p=q:=by
 induction l with
 |nil=>cases hp
 |cons x l ih =>
  rw[map_cons,nodup_cons]at h;rcases mem_cons.1 hp with e1|h1<;>rcases mem_cons.1 hq with e2|h2
  ·rw[e1,e2]
  ·exact absurd (mem_map.2 ⟨q,h2,by rw[<- e,e1]⟩) h.1
  ·exact absurd (mem_map.2 ⟨p,h1,by rw[e,e2]⟩) h.1
  ·exact ih h.2 h1 h2
theorem y4h{kill:Option Nat}{q:Nat}{e:TypeId}{u:Ty}{xs:List u.den}{nn fin:Bool}{d:Nat}(h:y0P g s=true)(hn1:(g.ap.map (·.1)).Nodup)(hn2:(g.ap.map (·.2.2)).Nodup)(ha:apAt g (some d)=some (kill,q))(hd:d < s.slots.length)
  (hx:exe s (d,kill,q)=false):y0P g (({ s with cH:=(kl s.cH kill).set q (cq fin e u xs nn) }:St).put (some d) (vq fin q u xs nn))=true:=by
 obtain ⟨t,ht,hm⟩:=y4U ha;cases ht;have refs:∀ r:Nat,(q≠r\/fin=true)->y50 r s=true->y50 r (({ s with cH:=(kl s.cH kill).set q (cq fin e u xs nn) }:St).put (some d) (vq fin q u xs nn))=true:=by
  intro r hr h2;refine y3s ?_ (by
   unfold vq;cases fin with
   |true=>cases nn<;>rfl
   |false=>simp only[false_eq_true,or_false]at hr;simp[SV.has,SV.names];exact λ hh=>hr hh.symm)
  unfold y50 at h2 ⊢;simp only[and_eq_true]at h2 ⊢;refine ⟨h2.1,all_eq_true.2 λ c hc=>?_⟩
  rcases List.mem_or_eq_of_mem_set hc with hc|rfl
  ·cases c with
   |none=>rfl
   |some ch =>
    obtain ⟨i,hi⟩:=mem_iff_getElem?.1 hc;exact all_eq_true.1 h2.2 _ (mem_of_getElem? (yKv hi))
  ·cases fin<;>rfl
 refine all_eq_true.2 λ p hp=>?_
 have:=all_eq_true.1 h p hp;rw[yc];by_cases hpd:p.1=d
 ·have hpe:p=(d,kill,q):=yCw hn1 hp hm hpd;subst hpe;cases fin with
  |false =>
   have:exe (({ s with cH:=(kl s.cH kill).set q (cq false e u xs nn) }:St).put (some d) (vq false q u xs nn)) (d,kill,q)=true:=by
    unfold exe;rw[Slots.has_eq,show (({ s with cH:=(kl s.cH kill).set q (cq false e u xs nn) }:St).put (some d) (vq false q u xs nn)).sl.toList.length=s.slots.length from y0z _ _]
    dsimp only;rw[yCf (by exact hd),decide_eq_true (show d < s.slots.length from hd)]
    simp[vq]
   rw[this];rfl
  |true =>
   simp only[hx,Bool.false_or,and_eq_true,decide_eq_true_eq]at this;obtain ⟨⟨h1,h3⟩,h2⟩:=this;simp only[or_eq_true,and_eq_true,decide_eq_true_eq];refine .inr ⟨⟨by rw[length_set,y0U];exact h1,?_⟩,refs q (.inr rfl) h2⟩
   rw[getD_eq_getElem?_getD,getElem?_set_self (by rw[y0U];exact h1)]
   rfl
 ·have hpq:p.2.2≠q:=λ hh=>hpd (by rw[yKm hn2 hp hm hh])
  rw[y0d (λ hh=>hpd (by simpa using hh.symm))]
  simp only[or_eq_true,and_eq_true,decide_eq_true_eq]at this ⊢;rcases this with h1|⟨⟨h1,h3⟩,h2⟩
  ·exact .inl h1
  ·refine .inr ⟨⟨by rw[length_set,y0U];exact h1,?_⟩,refs p.2.2 (.inl (Ne.symm hpq)) h2⟩
   rw[getD_eq_getElem?_getD,getElem?_set_ne (Ne.symm hpq),<- getD_eq_getElem?_getD,yFJ];split
   ·rfl
   ·exact h3
theorem y1g(hn1:(g.ap.map (·.1)).Nodup)(hf:y0P g s=true)(h:y1Q g s o=true):y0P g (s.put o.dst .gone)=true:=by
 unfold y1Q at h;rw[or_eq_true]at h;rcases h with h|h
 ·exact y4e (isEmpty_iff.1 h)
 cases ha:apAt g o.dst with
 |none=>exact y2s hf λ p hp=>⟨rfl,y97 ha p hp⟩
 |some q =>
  obtain ⟨kill,r⟩:=q;obtain ⟨d,hd,hm⟩:=y4U ha;rw[ha]at h;simp only[and_eq_true]at h;have h4:=h.2;unfold y8t at h4;rw[hd]at h4;simp only[and_eq_true,not_eq_true']at h4;obtain ⟨_,hx⟩:=h4;rw[hd];refine all_eq_true.2 λ p hp=>?_
  have:=all_eq_true.1 hf p hp;rw[yc];by_cases hpd:p.1=d
  ·have hpe:p=(d,kill,r):=yCw hn1 hp hm hpd;subst hpe;rw[hx]at this;simp only[Bool.false_or,and_eq_true]at this;simp only[or_eq_true,and_eq_true];exact .inr ⟨this.1,y3s this.2 rfl⟩
  ·rw[y0d (λ hh=>hpd (by simpa using hh.symm))]
   simp only[or_eq_true,and_eq_true]at this ⊢;rcases this with h1|⟨h1,h2⟩
   ·exact .inl h1
   ·exact .inr ⟨h1,y3s h2 rfl⟩
theorem y2c{s':St}(h:y1Q g s' o=true)(hl:s.slots.length=s'.slots.length)(hx:∀ (d:Nat) (kill:Option Nat) (r:Nat),o.dst=some d->exe s (d,kill,r)=exe s' (d,kill,r)):y1Q g s o=true:=by
 unfold y1Q at h ⊢;rw[or_eq_true]at h ⊢;rcases h with h|h
 ·exact .inl h
 refine .inr ?_
 cases ha:apAt g o.dst with
 |none=>rfl
 |some q =>
  rw[ha]at h;dsimp only at h ⊢;rw[and_eq_true]at h ⊢;refine ⟨h.1,?_⟩;have h4:=h.2;unfold y8t at h4 ⊢;cases hd:o.dst with
  |none=>rw[hd]at h4;exact h4
  |some d =>
   rw[hd]at h4;dsimp only at h4 ⊢;rw[Slots.has_eq,show s.sl.toList.length=s'.sl.toList.length from hl,hx d _ _ hd,<- Slots.has_eq]
   exact h4
theorem y2Y{ch:Chunk}{d:Option Nat}(h:y0P g s=true)(hch:∀ r,ch.has r=false)(hd:apAt g d=none):y0P g (({ s with cH:=s.cH++[some ch] }:St).put d (.bP s.cH.length 0))=true:=by
 refine all_eq_true.2 λ p hp=>?_
 have:=all_eq_true.1 h p hp;have hdp:d≠some p.1:=y97 hd p hp;rw[yc,y0d (s:={ s with cH:=s.cH++[some ch] }) hdp,yHl]
 simp only[or_eq_true,and_eq_true,decide_eq_true_eq]at this ⊢;rcases this with h1|⟨⟨h1,h2⟩,h3⟩
 ·exact .inl h1
 ·refine .inr ⟨⟨by simp;omega,?_⟩,y3s ?_ ?_⟩
  ·rw[getD_eq_getElem?_getD,getElem?_append_left h1,<- getD_eq_getElem?_getD];exact h2
  ·unfold y50 at h3 ⊢;simp only[and_eq_true]at h3 ⊢;refine ⟨h3.1,?_⟩;show (s.cH++[some ch]).all _=true
   rw[List.all_append,h3.2];simp[hch]
  ·show [s.cH.length].contains p.2.2=false
   have:p.2.2≠s.cH.length:=by omega
   simpa using this
theorem yKw(d:Option Nat)(sv:SV)(C:List (Option Chunk)):({ s.put d sv with cH:=C }:St)=({ s with cH:=C }:St).put d sv:=by cases d<;>rfl
theorem y8f{call:y0N St}{s':St}(hn1:(g.ap.map (·.1)).Nodup)(hn2:(g.ap.map (·.2.2)).Nodup)(hf:y0P g s=true)(h:y0H g call true s o some=some s'):y0P g s'=true:=by
 cases he:y1x g o with
 |false =>
  rw[yA9 he,map_eq_some_iff]at h;obtain ⟨sv,h,rfl⟩:=h;exact y2s hf (y1W.1 (y0R.1 h).2)
 |true =>
  unfold y0H at h;rw[he]at h;simp only[if_true]at h;rcases y1C h with ⟨_,h⟩|⟨_,hemp|hal,h⟩
  ·obtain ⟨kill,q,e,u,xs,nn,fin,ha,⟨d,hd,hdl,hx⟩,_,rfl,_,_⟩:=y38 h;rw[hd]at ha ⊢;exact y4h hf hn1 hn2 ha hdl hx
  ·exact y4e (isEmpty_iff.1 hemp)
  ·obtain ⟨ch,h1,h2,h3⟩:=y3O hal h;rw[h3 s]at h;cases h;exact y2Y hf h1 h2
theorem y0K.no{n r:Nat}(hr:n<=r):∀ {cs:List Cap},y0K n cs->(cs.filterMap λ|.box β=>some β|_=>none).contains r=false
 |[],_=>rfl
 |.box β::cs,h=>by
  have h1:β < n:=h.1;have h2:=y0K.no hr h.2;rw[List.filterMap_cons];simp only[List.contains_cons,h2,Bool.or_false];simp;omega
 |.val _ _::cs,h=>by
  rw[List.filterMap_cons];exact y0K.no (cs:=cs) hr h
theorem SV.inn_no{n r:Nat}(hr:n<=r):∀ {sv:SV},sv.inn n->sv.has r=false:=by
 intro sv h;cases sv with
 |clo f caps=>exact y0K.no hr h
 |bP β _=>simp only[SV.inn]at h;simp[SV.has,SV.names];omega
 |own β=>simp only[SV.inn]at h;simp[SV.has,SV.names];omega
 |eP β _ _ _=>simp only[SV.inn]at h;simp[SV.has,SV.names];omega
 |mO β=>simp only[SV.inn]at h;simp[SV.has,SV.names];omega
 |yld β=>simp only[SV.inn]at h;simp[SV.has,SV.names];omega
 |mP β _=>simp only[SV.inn]at h;simp[SV.has,SV.names];omega
 |oS β _ _=>simp only[SV.inn]at h;simp[SV.has,SV.names];omega
 |sR β=>simp only[SV.inn]at h;simp[SV.has,SV.names];omega
 |nO β _=>simp only[SV.inn]at h;simp[SV.has,SV.names];omega
 |nP β _ _ _ _=>simp only[SV.inn]at h;simp[SV.has,SV.names];omega
 |_=>rfl
theorem Chunk.inn_no{n r:Nat}(hr:n<=r){ch:Chunk}(h:ch.inn n):ch.has r=false:=by
 cases ch with
 |box t cells=>exact any_eq_false.2 λ sv hs=>by rw[SV.inn_no hr (h sv hs)];simp
 |lp i info cells st=>exact any_eq_false.2 λ sv hs=>by rw[SV.inn_no hr (h sv hs)];simp
 |rcd t cells=>exact any_eq_false.2 λ sv hs=>by rw[SV.inn_no hr (h sv hs)];simp
 |mps k e u es hole =>
  cases hole with
  |none=>rfl
  |some q =>
   have:=h q rfl;simp only[Chunk.has,beq_eq_false_iff_ne];omega
 |_=>rfl
theorem yHH(h:Rel P A0 w0 ρ s a w)(ha:∀ p∈g.ap,s.cH.length<=p.2.2/\p.2.2 < s.cH.length+g.ap.length):y0P g (s.pad g.ap.length)=true:=by
 refine all_eq_true.2 λ p hp=>?_
 obtain ⟨h1,h2⟩:=ha p hp;rw[or_eq_true];refine .inr ?_
 simp only[and_eq_true,decide_eq_true_eq];refine ⟨⟨by unfold St.pad;simp;omega,?_⟩,?_⟩
 ·unfold St.pad;dsimp only;rw[getD_eq_getElem?_getD,getElem?_append_right h1,getElem?_replicate];split<;>rfl
 ·unfold y50;simp only[and_eq_true];refine ⟨⟨all_eq_true.2 λ sv hs=>?_,all_eq_true.2 λ sv hs=>?_⟩,all_eq_true.2 λ c hc=>?_⟩
  ·obtain ⟨i,hi⟩:=mem_iff_getElem?.1 hs;rw[SV.inn_no h1 (h.names i sv hi)];rfl
  ·obtain ⟨i,hi⟩:=mem_iff_getElem?.1 hs;rw[SV.inn_no h1 (h.kN i sv hi)];rfl
  ·cases c with
   |none=>rfl
   |some ch =>
    obtain ⟨i,hi⟩:=mem_iff_getElem?.1 hc;dsimp only;rw[Chunk.inn_no h1 (h.cN i ch (y3y.1 hi))];rfl
theorem y9g{acc:List Nat}{i:Nat}:∀ (l:List Edge) (s:Nat),Nat.testBit (l.foldl (λ s e=>if Region.binds md e then (s ||| 2 ^ e.on) ||| acc.getD e.on 0 else s) s) i=true ->
  Nat.testBit s i=true\/∃ e∈l,Region.binds md e=true/\(e.on=i\/Nat.testBit (acc.getD e.on 0) i=true)
 |[],s,h=>.inl h
 |e::l,s,h=>by
  rw[List.foldl_cons]at h;rcases y9g l _ h with h1|⟨e',h1,h2⟩
  ·split at h1
   ·rename_i hb;simp only[Nat.testBit_or,or_eq_true]at h1;rcases h1 with (h1|h1)|h1
    ·exact .inl h1
    ·refine .inr ⟨e,mem_cons_self ..,hb,.inl ?_⟩;rw[Nat.testBit_two_pow]at h1;simpa using h1
    ·exact .inr ⟨e,mem_cons_self ..,hb,.inr h1⟩
   ·exact .inl h1
  ·exact .inr ⟨e',mem_cons_of_mem _ h1,h2⟩
def y5B(md:Region.Mode)(ops:List Oper)(ms:List Nat):Prop:=
 ∀ j i,y3B ms j i=true->∃ o,ops[j]?=some o/\∃ e∈o.after,Region.binds md e=true/\(e.on=i\/(e.on < j/\y3B ms e.on i=true))
theorem yGy:∀ (l pre:List Oper) (acc:List Nat),acc.length=pre.length->y5B md pre acc->y5B md (pre++l) (yJM md l acc)
 |[],pre,acc,_,h=>by rw[append_nil];exact h
 |o::l,pre,acc,hl,h=>by
  have:=yGy l (pre++[o]) (acc++[yGQ md acc o.after.toList]) (by simp[hl]) (λ j i hw=>by
   have old:∀ p,p < acc.length->(acc++[yGQ md acc o.after.toList]).getD p 0=acc.getD p 0:=λ p hp=>by
    rw[getD_eq_getElem?_getD,getD_eq_getElem?_getD,getElem?_append_left hp]
   rcases Nat.lt_trichotomy j acc.length with hj|hj|hj
   ·unfold y3B at hw;rw[old j hj]at hw;obtain ⟨q,h1,e,h2,h3,h4⟩:=h j i hw;refine ⟨q,by rw[getElem?_append_left (by omega)];exact h1,e,h2,h3,?_⟩
    rcases h4 with h4|⟨h4,h5⟩
    ·exact .inl h4
    ·refine .inr ⟨h4,?_⟩;unfold y3B;rw[old _ (by omega)]
     exact h5
   ·unfold y3B at hw;rw[getD_eq_getElem?_getD,hj,getElem?_append_right (le_refl _)]at hw;simp only[Nat.sub_self,getElem?_cons_zero,Option.getD_some]at hw;unfold yGQ at hw;rcases y9g _ _ hw with h1|⟨e,h1,h2,h3⟩
    ·simp at h1
    ·refine ⟨o,by rw[getElem?_append_right (by omega)];simp[hj,hl],e,by simpa using h1,h2,?_⟩
     rcases h3 with h3|h3
     ·exact .inl h3
     ·rcases lt_or_ge e.on acc.length with h4|h4
      ·refine .inr ⟨by omega,?_⟩
       unfold y3B;rw[old _ h4];exact h3
      ·rw[getD_eq_getElem?_getD,getElem?_eq_none h4]at h3;simp at h3
   ·unfold y3B at hw;rw[getD_eq_getElem?_getD,getElem?_eq_none (by simp;omega)]at hw
    simp at hw)
  rw[append_assoc]at this;exact this
def y86(md:Region.Mode)(ops:Array Oper)(listed:Array Bool):Prop:=
 ∀ p o,ops[p]?=some o->listed.getD p false=true->∀ e∈o.after,Region.binds md e=true->listed.getD e.on false=true
theorem y86.step{listed:Array Bool}(h:y86 md ops listed){j:Nat}(hj:j∈Region.ready md ops listed):y86 md ops (listed.setIfInBounds j true):=by
 intro p o hp hl e he hb;by_cases hpj:j=p
 ·subst hpj;obtain ⟨_,o',ho',hall⟩:=mem_ready.1 hj;rw[hp]at ho';cases ho';exact getD_set_true (hall e he hb)
 ·refine getD_set_true (h p o hp ?_ e he hb);rwa[getD_set_ne false hpj]at hl
theorem y9M{ms:List Nat}(hm:y5B md ops.toList ms){listed:Array Bool}(hc:y86 md ops listed){i:Nat}(hi:listed.getD i false=false) :
  ∀ (j:Nat),y3B ms j i=true->∃ o,ops[j]?=some o/\∃ e∈o.after,Region.binds md e=true/\listed.getD e.on false=false:=by
 intro j;induction j using Nat.strongRecOn with
 |ind j ih =>
  intro hw;obtain ⟨o,h1,e,h2,h3,h4⟩:=hm j i hw;refine ⟨o,by simpa using h1,e,h2,h3,?_⟩
  rcases h4 with rfl|⟨h4,h5⟩
  ·exact hi
  ·obtain ⟨o',g1,e',g2,g3,g4⟩:=ih e.on h4 h5;cases hq:listed.getD e.on false with
   |false=>rfl
   |true =>
    have:=hc e.on o' g1 hq e' g2 g3;rw[g4]at this;cases this
theorem y4M{ms:List Nat}(hm:y5B md ops.toList ms){listed:Array Bool}(hc:y86 md ops listed){i j:Nat}(hi:listed.getD i true=false)(hj:j∈Region.ready md ops listed):y3B ms j i=false:=by
 cases hw:y3B ms j i with
 |false=>rfl
 |true =>
  have hi':listed.getD i false=false:=by
   rw[Array.getD_eq_getD_getElem?]at hi ⊢;cases hq:listed[i]? with
   |none=>rfl
   |some b=>rw[hq]at hi;simpa using hi
  obtain ⟨o,h1,e,h2,h3,h4⟩:=y9M hm hc hi' j hw;obtain ⟨_,o',g1,g2⟩:=mem_ready.1 hj;rw[h1]at g1;cases g1;have:=g2 e h2 h3;rw[h4]at this;cases this
def runS(g:G)(call:y0N St)(ops:Array Oper)(T:Nat->Bool)(Q:St->Prop):List Oper->Nat->St->Prop
 |[],_,s=>Q s
 |_::l,k,s=>sOp g call ops T k (runS g call ops T Q l (k+1)) s
def marks:List (Nat×Option Nat×Nat)->List Nat
 |[]=>[]
 |p::l=>p.2.2::(p.2.1.toList++marks l)
theorem yDS:∀ {l:List (Nat×Option Nat×Nat)} {t q:Nat} {kill:Option Nat},(t,kill,q)∈l->q∈marks l/\∀ β,kill=some β->β∈marks l
 |p::l,t,q,kill,h=>by
  unfold marks;rcases mem_cons.1 h with e|h
  ·subst e;exact ⟨mem_cons_self ..,λ β hβ=>by subst hβ;simp⟩
  ·obtain ⟨h1,h2⟩:=yDS h;exact ⟨by simp[h1],λ β hβ=>by simp[h2 β hβ]⟩
theorem yCM{cs:List (Option Chunk)}{k:Option Nat}{n:Nat}:(kl cs k)[n]?=if n < cs.length/\k=some n then some none else cs[n]?:=by
 cases k with
 |none=>simp[kl]
 |some γ =>
  unfold kl;rw[getElem?_set];by_cases h:γ=n
  ·subst h;by_cases h2:γ < cs.length
   ·simp[h2]
   ·simp[h2,getElem?_eq_none (Nat.le_of_not_lt h2)]
  ·simp[h]
theorem y8k{cs:List (Option Chunk)}{q n:Nat}{x:Option Chunk}:(cs.set q x)[n]?=if n < cs.length/\q=n then some x else cs[n]?:=by
 rw[getElem?_set];by_cases h:q=n
 ·subst h;by_cases h2:q < cs.length
  ·simp[h2]
  ·simp[h2,getElem?_eq_none (Nat.le_of_not_lt h2)]
 ·simp[h]
theorem y7P:∀ (l:List (Nat×Option Nat×Nat)) (cs:List (Option Chunk)) (n:Nat),(mskL l cs)[n]?=if n < cs.length/\n∈marks l then some none else cs[n]?
 |[],cs,n=>by simp[mskL,marks]
 |p::l,cs,n=>by
  unfold mskL marks;rw[y7P l,y8k,yCM,length_set,y0U];by_cases h1:n < cs.length
  ·by_cases h2:n∈marks l
   ·simp[h1,h2]
   ·by_cases h3:p.2.2=n
    ·simp[h1,h2,h3]
    ·by_cases h4:p.2.1=some n
     ·simp[h1,h2,h3,h4]
     ·have h5:n ∉ p.2.1.toList:=λ hh=>h4 (by simpa[mem_toList]using hh)
      simp[h1,h2,h3,h4,h5,Ne.symm h3]
  ·simp[h1]
theorem yGK{l:List (Nat×Option Nat×Nat)}{t q:Nat}{kill:Option Nat}(h:(t,kill,q)∈l)(cs:List (Option Chunk))(x:Option Chunk):mskL l ((kl cs kill).set q x)=mskL l cs:=by
 obtain ⟨h1,h2⟩:=yDS h;apply ext_getElem?;intro n;rw[y7P,y7P,y8k,yCM,length_set,y0U];by_cases hn:n < cs.length
 ·by_cases hm:n∈marks l
  ·simp[hn,hm]
  ·have e1:q≠n:=λ e=>hm (e ▸ h1)
   have e2:kill≠some n:=λ e=>hm (h2 n e)
   simp[hn,hm,e1,e2]
 ·simp[hn]
theorem yPX{cs:List (Option Chunk)}{ki kj:Option Nat}{qi qj:Nat}{x y:Option Chunk}(h1:qi≠qj)(h2:ki≠some qj)(h3:kj≠some qi) :
  (kl ((kl cs ki).set qi x) kj).set qj y=(kl ((kl cs kj).set qj y) ki).set qi x:=by
 apply ext_getElem?;intro n;simp only[y8k,yCM,length_set,y0U];by_cases hn:n < cs.length
 ·by_cases a:qj=n
  ·subst a;simp[hn,h1,h2]
  ·by_cases b:qi=n
   ·subst b;simp[hn,a,h3]
   ·simp[hn,a,b];by_cases c:kj=some n<;>by_cases d:ki=some n<;>simp[c,d]
 ·simp[hn]
theorem y8b{cs:List (Option Chunk)}{k:Option Nat}{q n:Nat}{x:Option Chunk}(h1:n≠q)(h2:k≠some n):((kl cs k).set q x).getD n none=cs.getD n none:=by
 rw[getD_eq_getElem?_getD,getD_eq_getElem?_getD,y8k,yCM];simp[Ne.symm h1,h2]
theorem yNL(l:List (Nat×Option Nat×Nat))(cs:List (Option Chunk))(c:Option Chunk):Ext (mskL l cs) (mskL l (cs++[c])):=λ β ch h=>by
 rw[getD_eq_getElem?_getD]at h ⊢;rw[y7P]at h ⊢;split at h
 ·cases h
 ·rename_i hn;have hl:β < cs.length:=by
   rcases lt_or_ge β cs.length with hl|hl
   ·exact hl
   ·rw[getElem?_eq_none hl]at h;cases h
  rw[if_neg (λ hh=>hn ⟨hl,hh.2⟩),getElem?_append_left hl]
  exact h
theorem yHw{cs:List (Option Chunk)}{k:Option Nat}{q:Nat}{x c:Option Chunk}(hk:∀ β,k=some β->β < cs.length)(hq:q < cs.length):(kl (cs++[c]) k).set q x=(kl cs k).set q x++[c]:=by
 have h1:kl (cs++[c]) k=kl cs k++[c]:=by
  cases k with
  |none=>rfl
  |some β=>exact List.set_append_left _ _ (hk β rfl)
 rw[h1,List.set_append_left _ _ (by rw[y0U];exact hq)]
theorem y6N{call:y0N St}{o:Oper}{ch:Chunk}(ha:y0k o=true)(he:y1x g o=true)(hf:y0P g s=true)(hg:y1a ops s o=some true)
  (hz:∀ z:St,y2y g z o some=some ({ z with cH:=z.cH++[some ch] }.put o.dst (.bP z.cH.length 0))):Runs g call ops o s (({ s with cH:=s.cH++[some ch] }:St).put o.dst (.bP s.cH.length 0)):=by
 refine ⟨hf,.inl ⟨hg,?_⟩⟩;unfold y0H effD;rw[he,y55 ha];simp only[if_true,false_eq_true,if_false,ha];have:=hz s;unfold y2y at this;rw[if_pos ha]at this;exact this
def yJr(g:G)(oi oj:Oper):Prop:=
 (y1x g oi=false/\(y1x g oj=true->(y3D g oj=true/\g.ap≠[])\/y0k oj=true\/yJc g oi=true)) \/
 (y1x g oi=true/\y3D g oi=true/\g.ap≠[]/\(y1x g oj=false\/y0k oj=true\/(y3D g oj=true/\apLt g oi oj=true)))
theorem swap{call:y0N St}{oi oj:Oper}{s1 s2:St}(hn1:(g.ap.map (·.1)).Nodup)(hn2:(g.ap.map (·.2.2)).Nodup)(hap:oi.apart ops oj=true)(hc:yJr g oi oj)
  (h1:Runs g call ops oi s s1) (h2:Runs g call ops oj s1 s2):∃ s',Runs g call ops oj s s'/\Runs g call ops oi s' s2:=by
 obtain ⟨a1,a2,a3⟩:=Oper.apart_spec hap;have a2':∀ t,oj.dst=some t->oi.dst≠some t:=λ t ht hh=>a2 t hh ht
 rcases hc with ⟨hei,hc⟩|⟨hei,hni,hne,hc⟩
 ·obtain ⟨hfs,sv,yi,rfl⟩:=(y1M hei).1 h1;have hsv:=y4i yi;have again:∀ (s':St) (u:SV),y1a ops (s'.put oj.dst u) oi=y1a ops s oi->y2l g (s'.put oj.dst u) oi=y2l g s oi->y0P g (s'.put oj.dst u)=true->Runs g call ops oi (s'.put oj.dst u) ((s'.put oj.dst u).put oi.dst sv):=by
   intro s' u e1 e2 e3;refine (y1M hei).2 ⟨e3,sv,?_,rfl⟩;rcases yi with ⟨y1,y2⟩|⟨y1,_,y2⟩
   ·exact .inl ⟨by rw[e1];exact y1,y0R.2 ⟨by rw[e2];exact (y0R.1 y2).1,y1W.2 hsv⟩⟩
   ·exact .inr ⟨by rw[e1];exact y1,y1W.2 λ p hp=>⟨rfl,(hsv p hp).2⟩,y2⟩
  cases hej:y1x g oj with
  |false =>
   obtain ⟨_,u,yj,rfl⟩:=(y1M hej).1 h2;have hu:=y4i yj;refine ⟨s.put oj.dst u,(y1M hej).2 ⟨hfs,u,?_,rfl⟩,?_⟩
   ·rcases yj with ⟨y1,y2⟩|⟨y1,_,y2⟩
    ·exact .inl ⟨by rw[yo a1]at y1;exact y1,y0R.2 ⟨by rw[<- y1y (sv:=sv) a1];exact (y0R.1 y2).1,y1W.2 hu⟩⟩
    ·exact .inr ⟨by rw[yo a1]at y1;exact y1,y1W.2 λ p hp=>⟨rfl,(hu p hp).2⟩,y2⟩
   ·rw[y19 a2];exact again s u (yo a3) (y1y a3) (y2s hfs hu)
  |true =>
   rcases h2.2 with ⟨g2,h2⟩|⟨g2,g3,rfl⟩
   ·rw[yo a1]at g2;unfold y0H at h2;rw[hej]at h2;simp only[if_true]at h2;have hop:∀ x∈oj.op.operands.toList,∀ τ,y9 g.T τ s x=y9 g.T τ (s.put oi.dst sv) x:=λ x hx τ=>(y3S a1 x hx τ).symm
    rcases y1C h2 with ⟨hnj,h2⟩|⟨hnj,hemp,h2⟩
    ·obtain ⟨kill,q,e,u,xs,nn,fin,ha,⟨d,hd,hdl,hx⟩,_,rfl,_,hz⟩:=y38 h2;rw[hd]at ha;obtain ⟨t,ht,hm⟩:=y4U ha;cases ht;rw[y0z]at hdl;rw[y0d (a2' d hd)]at hx;have hs:=hz s (λ d' hd'=>by rw[hd]at hd';cases hd';exact ⟨hdl,hx⟩) (λ β _=>by rw[yc]) hop
     refine ⟨_,⟨hfs,.inl ⟨g2,by unfold y0H effD;rw[hej,hnj];simp only[if_true];exact hs⟩⟩,?_⟩
     have:=again { s with cH:=(kl s.cH kill).set q (cq fin e u xs nn) } (vq fin q u xs nn) (yo a3) ((y1y a3).trans (y5E (yGK hm _ _) (λ x _ τ=>by cases x<;>rfl))) (by
      rw[hd];exact y4h hfs hn1 hn2 ha hdl hx)
     rw[y19 a2']at this;have e3:({ s.put oi.dst sv with cH:=(kl (s.put oi.dst sv).cH kill).set q (cq fin e u xs nn) }:St)=({ s with cH:=(kl s.cH kill).set q (cq fin e u xs nn) }:St).put oi.dst sv:=by
      cases oi.dst<;>rfl
     rw[e3];exact this
    by_cases hal:y0k oj=true
    ·obtain ⟨ch,k1,k2,k3⟩:=y3O hal h2;rw[k3]at h2;cases h2;refine ⟨_,y6N hal hej hfs g2 k3,?_⟩;have hf':=y2Y (d:=oj.dst) hfs k1 k2;have e3:(({ s.put oi.dst sv with cH:=(s.put oi.dst sv).cH++[some ch] }:St).put oj.dst (.bP (s.put oi.dst sv).cH.length 0))=((({ s with cH:=s.cH++[some ch] }:St).put oj.dst (.bP s.cH.length 0)).put oi.dst sv):=by
      rw[yc,yKw,y19 a2]
     rw[e3];refine (y1M hei).2 ⟨hf',sv,?_,rfl⟩;rcases yi with ⟨y1,y2⟩|⟨y1,_,y2⟩
     ·refine .inl ⟨by rw[yo (s:={ s with cH:=s.cH++[some ch] }) a3];exact y1,y0R.2 ⟨?_,y1W.2 hsv⟩⟩
      rw[y1y (s:={ s with cH:=s.cH++[some ch] }) a3]
      exact yHq (yAG _ _) (yNL _ _ _) (y0R.1 y2).1
     ·exact .inr ⟨by rw[yo (s:={ s with cH:=s.cH++[some ch] }) a3];exact y1,y1W.2 λ p hp=>⟨rfl,(hsv p hp).2⟩,y2⟩
    ·have hemp:g.ap.isEmpty=true:=by
      rcases hemp with h|h
      ·exact h
      ·exact absurd h hal
     have hap0:g.ap=[]:=isEmpty_iff.1 hemp;obtain ⟨C,u,hC,hst⟩:=yHe h2;have hs:=hst s (yc _ _).symm hop;refine ⟨_,⟨hfs,.inl ⟨g2,by unfold y0H effD;rw[hej,hnj,hemp];unfold y2y at hs;rw[if_neg hal]at hs;simp only[if_true,false_eq_true,if_false];rw[if_neg hal];exact hs⟩⟩,?_⟩
     have e2:y2l g (({ s with cH:=C }:St).put oj.dst u) oi=y2l g s oi->Runs g call ops oi (({ s with cH:=C }:St).put oj.dst u) s2:=λ e2=>by
      have:=again { s with cH:=C } u (yo a3) e2 (y4e hap0)
      rw[hst _ rfl (λ _ _ _=>rfl)]at h2
      cases h2;rw[y19 a2']at this;have e3:({ s.put oi.dst sv with cH:=C }:St)=({ s with cH:=C }:St).put oi.dst sv:=by
       cases oi.dst<;>rfl
      rw[e3];exact this
     rcases yi with ⟨y1,y2⟩|⟨y1,_,y2⟩
     ·refine e2 ((y1y a3).trans ?_);have h0:=(y0R.1 y2).1;rcases hc hej with ⟨hn,_⟩|ha|ha
      ·rw[hnj]at hn;cases hn
      ·obtain ⟨c,rfl⟩:=hC ha;rw[yc,h0];exact yDX hap0 (yAG _ _) h0
      ·exact yIZ hap0 ha
     ·
      rw[hst _ rfl (λ _ _ _=>rfl)]at h2
      cases h2;refine ⟨y4e hap0,.inr ⟨by rw[yo a3];exact y1,by unfold y1Q;rw[hap0];rfl,?_⟩⟩
      subst y2;have e3:({ s.put oi.dst SV.gone with cH:=C }:St)=({ s with cH:=C }:St).put oi.dst .gone:=by
       cases oi.dst<;>rfl
      rw[e3,y19 a2]
   ·rw[yo a1]at g2;have g4:y1Q g s oj=true:=y2c g3 (y0z ..).symm (λ d _ _ hd=>(y0d (a2' d hd)).symm)
    refine ⟨s.put oj.dst .gone,⟨hfs,.inr ⟨g2,g4,rfl⟩⟩,?_⟩;rw[y19 a2];exact again s .gone (yo a3) (y1y a3) (y1g hn1 hfs g4)
 ·have runI:∀ {z z':St},y0P g z=true->y1a ops z oi=some true->newD g z oi some=some z'->Runs g call ops oi z z':=λ hf hg h=>⟨hf,.inl ⟨hg,by unfold y0H effD;rw[hei,hni];simp only[if_true];exact h⟩⟩
  have hfs:=h1.1;rcases h1.2 with ⟨gi,h1⟩|⟨gi,gi2,rfl⟩
  ·have r1:newD g s oi some=some s1:=by
    unfold y0H at h1;rw[hei]at h1;simp only[if_true]at h1;rcases y1C h1 with ⟨_,h⟩|⟨h,_⟩
    ·exact h
    ·rw[hni]at h;cases h
   obtain ⟨ki,qi,ei,ui,xi,ni,fi,hai,⟨di,hdi,hdil,hxi⟩,hki,rfl,_,hzi⟩:=y38 r1;rw[hdi]at hai;obtain ⟨t,ht,hmi⟩:=y4U hai;cases ht;obtain ⟨hqi,hqin,hno⟩:=yCQ hfs hai hxi;have gj:y1a ops (({ s with cH:=(kl s.cH ki).set qi (cq fi ei ui xi ni) }:St).put oi.dst (vq fi qi ui xi ni)) oj=y1a ops s oj:=yo (s:={ s with cH:=(kl s.cH ki).set qi (cq fi ei ui xi ni) }) a1
   have opj:∀ x∈oj.op.operands.toList,∀ τ,y9 g.T τ s x=y9 g.T τ (({ s with cH:=(kl s.cH ki).set qi (cq fi ei ui xi ni) }:St).put oi.dst (vq fi qi ui xi ni)) x:=λ x hx τ=>by
    rw[y3S a1 x hx τ];cases x<;>rfl
   have behind:∀ u:SV,y0P g (s.put oj.dst u)=true->Runs g call ops oi (s.put oj.dst u) ((({ s with cH:=(kl s.cH ki).set qi (cq fi ei ui xi ni) }:St).put oi.dst (vq fi qi ui xi ni)).put oj.dst u):=λ u hu=>by
    have:=hzi (s.put oj.dst u) (λ d hd=>by
     rw[hdi]at hd;cases hd;rw[y0z,y0d (λ hh=>a2 di hdi hh)]
     exact ⟨hdil,hxi⟩) (λ β _=>by rw[yc]) (λ x hx τ=>y3S a3 x hx τ)
    have e:(({ s.put oj.dst u with cH:=(kl (s.put oj.dst u).cH ki).set qi (cq fi ei ui xi ni) }:St).put oi.dst (vq fi qi ui xi ni))=((({ s with cH:=(kl s.cH ki).set qi (cq fi ei ui xi ni) }:St).put oi.dst (vq fi qi ui xi ni)).put oj.dst u):=by
     rw[yc,y19 a2];cases oj.dst<;>rfl
    rw[e]at this;exact runI hu ((yo a3).trans gi) this
   by_cases hej:y1x g oj=false
   ·obtain ⟨_,u,yj,rfl⟩:=(y1M hej).1 h2;have hu:=y4i yj;refine ⟨s.put oj.dst u,(y1M hej).2 ⟨hfs,u,?_,rfl⟩,behind u (y2s hfs hu)⟩;rcases yj with ⟨y1,y2⟩|⟨y1,_,y2⟩
    ·refine .inl ⟨gj.symm.trans y1,y0R.2 ⟨?_,y1W.2 hu⟩⟩;rw[<- (y0R.1 y2).1];exact ((y1y a1).trans (y5E (yGK hmi _ _) (λ x _ τ=>by cases x<;>rfl))).symm
    ·exact .inr ⟨gj.symm.trans y1,y1W.2 λ p hp=>⟨rfl,(hu p hp).2⟩,y2⟩
   by_cases hal:y0k oj=true
   ·have hej':y1x g oj=true:=by simpa using hej
    rcases h2.2 with ⟨g2,h2⟩|⟨g2,g3,rfl⟩
    ·unfold y0H at h2;rw[hej']at h2;simp only[if_true]at h2;have h2:y2y g (({ s with cH:=(kl s.cH ki).set qi (cq fi ei ui xi ni) }:St).put oi.dst (vq fi qi ui xi ni)) oj some=some s2:=by
      rcases y1C h2 with ⟨h,_⟩|⟨_,_,h⟩
      ·rw[y55 hal]at h;cases h
      ·exact h
     obtain ⟨ch,k1,k2,k3⟩:=y3O hal h2;rw[k3]at h2;cases h2;refine ⟨_,y6N hal hej' hfs (gj.symm.trans g2) k3,?_⟩;have hi:=hzi (({ s with cH:=s.cH++[some ch] }:St).put oj.dst (.bP s.cH.length 0)) (λ d hd=>by
       rw[hdi]at hd;cases hd;rw[y0z,y0d (λ hh=>a2 di hdi hh)]
       exact ⟨hdil,hxi⟩) (λ β hβ=>by
       have:=(hki β hβ).1;rw[yc,getD_eq_getElem?_getD,getD_eq_getElem?_getD,getElem?_append_left (by omega)]) (λ x hx τ=>by
       rw[y3S a3 x hx τ];cases x<;>rfl)
     refine runI (y2Y hfs k1 k2) ((yo (s:={ s with cH:=s.cH++[some ch] }) a3).trans gi) (hi.trans (congrArg some ?_))
     rw[yc,yc,yHw (λ β hβ=>by have:=(hki β hβ).1;omega) hqi]
     have e0:((kl s.cH ki).set qi (cq fi ei ui xi ni)).length=s.cH.length:=by rw[length_set,y0U]
     rw[e0];have e1:∀ (D:List (Option Chunk)),({ (({ s with cH:=s.cH++[some ch] }:St).put oj.dst (.bP s.cH.length 0))with cH:=D }:St)=({ s with cH:=D }:St).put oj.dst (.bP s.cH.length 0):=λ D=>by cases oj.dst<;>rfl
     have e2:∀ (D:List (Option Chunk)),({ (({ s with cH:=(kl s.cH ki).set qi (cq fi ei ui xi ni) }:St).put oi.dst (vq fi qi ui xi ni))with cH:=D }:St)=({ s with cH:=D }:St).put oi.dst (vq fi qi ui xi ni):=λ D=>by cases oi.dst<;>rfl
     rw[e1,e2,y19 a2']
    ·have g4:y1Q g s oj=true:=y2c g3 (y0z (s:={ s with cH:=(kl s.cH ki).set qi (cq fi ei ui xi ni) }) ..).symm (λ d _ _ hd=>(y0d (s:={ s with cH:=(kl s.cH ki).set qi (cq fi ei ui xi ni) }) (a2' d hd)).symm)
     exact ⟨s.put oj.dst .gone,⟨hfs,.inr ⟨gj.symm.trans g2,g4,rfl⟩⟩,behind .gone (y1g hn1 hfs g4)⟩
   ·have hej':y1x g oj=true:=by simpa using hej
    obtain ⟨hnj,hlt⟩:y3D g oj=true/\apLt g oi oj=true:=by
     rcases hc with h|h|h
     ·exact absurd h hej
     ·exact absurd h hal
     ·exact h
    rcases h2.2 with ⟨g2,h2⟩|⟨g2,g3,rfl⟩
    ·have r2:newD g (({ s with cH:=(kl s.cH ki).set qi (cq fi ei ui xi ni) }:St).put oi.dst (vq fi qi ui xi ni)) oj some=some s2:=by
      unfold y0H at h2;rw[hej']at h2;simp only[if_true]at h2;rcases y1C h2 with ⟨_,h⟩|⟨h,_⟩
      ·exact h
      ·rw[hnj]at h;cases h
     obtain ⟨kj,qj,ej,uj,xj,nj,fj,haj,⟨dj,hdj,hdjl,hxj⟩,hkj,rfl,_,hzj⟩:=y38 r2;rw[hdj]at haj;have hlt:qi < qj:=by
      unfold apLt at hlt;rw[hdi,hdj,hai,haj]at hlt;simpa using hlt
     rw[y0z]at hdjl;rw[y0d (a2' dj hdj)]at hxj;have kq:∀ β,kj=some β->β≠qi/\ki≠some β:=by
      intro β hβ;obtain ⟨_,k2,x,hx,hv⟩:=hkj β hβ;rw[<- opj x hx 0]at hv;have h3:=yLm (T:=g.T) (τ:=0) (x:=x) hno;rw[hv]at h3;have h4:β≠qi:=y3i rfl h3;refine ⟨h4,λ hh=>?_⟩
      rw[yc,getD_eq_getElem?_getD,y8k,yCM]at k2;rw[hh]at k2;by_cases hl:β < s.cH.length
      ·simp[hl,Ne.symm h4]at k2
      ·rw[if_neg (λ hh=>hl (by simpa[y0U]using hh.1)),if_neg (λ hh=>hl hh.1),getElem?_eq_none (Nat.le_of_not_lt hl)]at k2
       cases k2
     have hs:=hzj s (λ d hd=>by rw[hdj]at hd;cases hd;exact ⟨hdjl,hxj⟩) (λ β hβ=>by
      rw[yc];exact (y8b (kq β hβ).1 (kq β hβ).2).symm) opj
     refine ⟨_,⟨hfs,.inl ⟨gj.symm.trans g2,by unfold y0H effD;rw[hej',hnj];simp only[if_true];exact hs⟩⟩,?_⟩
     have hi:=hzi (({ s with cH:=(kl s.cH kj).set qj (cq fj ej uj xj nj) }:St).put oj.dst (vq fj qj uj xj nj)) (λ d hd=>by
       rw[hdi]at hd;cases hd;rw[y0z,y0d (λ hh=>a2 di hdi hh)]
       exact ⟨hdil,hxi⟩) (λ β hβ=>by
       rw[yc];refine y8b ?_ (λ hh=>(kq β hh).2 hβ)
       have:=(hki β hβ).1;omega) (λ x hx τ=>by
       rw[y3S a3 x hx τ];cases x<;>rfl)
     refine runI (by rw[hdj];exact y4h hfs hn1 hn2 haj hdjl hxj) ((yo (s:={ s with cH:=(kl s.cH kj).set qj (cq fj ej uj xj nj) }) a3).trans gi) (hi.trans (congrArg some ?_))
     rw[yc,yc];have ec:=yPX (cs:=s.cH) (ki:=ki) (kj:=kj) (qi:=qi) (qj:=qj) (x:=cq fi ei ui xi ni) (y:=cq fj ej uj xj nj) (by omega) (λ hh=>by have:=(hki qj hh).1;omega) (λ hh=>(kq qi hh).1 rfl)
     rw[<- ec];have e1:∀ (D:List (Option Chunk)),({ (({ s with cH:=(kl s.cH kj).set qj (cq fj ej uj xj nj) }:St).put oj.dst (vq fj qj uj xj nj))with cH:=D }:St)=({ s with cH:=D }:St).put oj.dst (vq fj qj uj xj nj):=λ D=>by cases oj.dst<;>rfl
     have e2:∀ (D:List (Option Chunk)),({ (({ s with cH:=(kl s.cH ki).set qi (cq fi ei ui xi ni) }:St).put oi.dst (vq fi qi ui xi ni))with cH:=D }:St)=({ s with cH:=D }:St).put oi.dst (vq fi qi ui xi ni):=λ D=>by cases oi.dst<;>rfl
     rw[e1,e2,y19 a2']
    ·have g4:y1Q g s oj=true:=y2c g3 (y0z (s:={ s with cH:=(kl s.cH ki).set qi (cq fi ei ui xi ni) }) ..).symm (λ d _ _ hd=>(y0d (s:={ s with cH:=(kl s.cH ki).set qi (cq fi ei ui xi ni) }) (a2' d hd)).symm)
     exact ⟨s.put oj.dst .gone,⟨hfs,.inr ⟨gj.symm.trans g2,g4,rfl⟩⟩,behind .gone (y1g hn1 hfs g4)⟩
  ·
   have gj:y1a ops (s.put oi.dst .gone) oj=y1a ops s oj:=yo a1;have behind:∀ u:SV,y0P g (s.put oj.dst u)=true->Runs g call ops oi (s.put oj.dst u) ((s.put oi.dst .gone).put oj.dst u):=λ u hu=>by
    rw[y19 a2];exact ⟨hu,.inr ⟨(yo a3).trans gi,y2c gi2 (y0z ..) (λ d _ _ hd=>y0d (λ hh=>a2 d hd hh)),rfl⟩⟩
   by_cases hej:y1x g oj=false
   ·obtain ⟨_,u,yj,rfl⟩:=(y1M hej).1 h2;have hu:=y4i yj;refine ⟨s.put oj.dst u,(y1M hej).2 ⟨hfs,u,?_,rfl⟩,behind u (y2s hfs hu)⟩;rcases yj with ⟨y1,y2⟩|⟨y1,_,y2⟩
    ·exact .inl ⟨gj.symm.trans y1,y0R.2 ⟨by rw[<- y1y (sv:=.gone) a1];exact (y0R.1 y2).1,y1W.2 hu⟩⟩
    ·exact .inr ⟨gj.symm.trans y1,y1W.2 λ p hp=>⟨rfl,(hu p hp).2⟩,y2⟩
   by_cases hal:y0k oj=true
   ·have hej':y1x g oj=true:=by simpa using hej
    rcases h2.2 with ⟨g2,h2⟩|⟨g2,g3,rfl⟩
    ·unfold y0H at h2;rw[hej']at h2;simp only[if_true]at h2;have h2:y2y g (s.put oi.dst .gone) oj some=some s2:=by
      rcases y1C h2 with ⟨h,_⟩|⟨_,_,h⟩
      ·rw[y55 hal]at h;cases h
      ·exact h
     obtain ⟨ch,k1,k2,k3⟩:=y3O hal h2;rw[k3]at h2;cases h2;refine ⟨_,y6N hal hej' hfs (gj.symm.trans g2) k3,⟨y2Y hfs k1 k2,.inr ⟨(yo (s:={ s with cH:=s.cH++[some ch] }) a3).trans gi,y2c gi2 (y0z (s:={ s with cH:=s.cH++[some ch] }) ..) (λ d _ _ hd=>y0d (s:={ s with cH:=s.cH++[some ch] }) (λ hh=>a2 d hd hh)),?_⟩⟩⟩
     rw[yc,yKw,y19 a2]
    ·have g4:y1Q g s oj=true:=y2c g3 (y0z ..).symm (λ d _ _ hd=>(y0d (a2' d hd)).symm)
     exact ⟨s.put oj.dst .gone,⟨hfs,.inr ⟨gj.symm.trans g2,g4,rfl⟩⟩,behind .gone (y1g hn1 hfs g4)⟩
   ·have hej':y1x g oj=true:=by simpa using hej
    obtain ⟨hnj,_⟩:y3D g oj=true/\apLt g oi oj=true:=by
     rcases hc with h|h|h
     ·exact absurd h hej
     ·exact absurd h hal
     ·exact h
    rcases h2.2 with ⟨g2,h2⟩|⟨g2,g3,rfl⟩
    ·have r2:newD g (s.put oi.dst .gone) oj some=some s2:=by
      unfold y0H at h2;rw[hej']at h2;simp only[if_true]at h2;rcases y1C h2 with ⟨_,h⟩|⟨h,_⟩
      ·exact h
      ·rw[hnj]at h;cases h
     obtain ⟨kj,qj,ej,uj,xj,nj,fj,haj,⟨dj,hdj,hdjl,hxj⟩,hkj,rfl,_,hzj⟩:=y38 r2;rw[hdj]at haj;rw[y0z]at hdjl;rw[y0d (a2' dj hdj)]at hxj;have hs:=hzj s (λ d hd=>by rw[hdj]at hd;cases hd;exact ⟨hdjl,hxj⟩) (λ β hβ=>by rw[yc]) (λ x hx τ=>(y3S a1 x hx τ).symm)
     refine ⟨_,⟨hfs,.inl ⟨gj.symm.trans g2,by unfold y0H effD;rw[hej',hnj];simp only[if_true];exact hs⟩⟩,?_⟩
     refine ⟨by rw[hdj];exact y4h hfs hn1 hn2 haj hdjl hxj,.inr ⟨(yo (s:={ s with cH:=(kl s.cH kj).set qj (cq fj ej uj xj nj) }) a3).trans gi,y2c gi2 (y0z ..) (λ d _ _ hd=>y0d (s:={ s with cH:=(kl s.cH kj).set qj (cq fj ej uj xj nj) }) (λ hh=>a2 d hd hh)),?_⟩⟩
     rw[yc,y19 a2'];congr 1
     cases oi.dst<;>rfl
    ·have g4:y1Q g s oj=true:=y2c g3 (y0z ..).symm (λ d _ _ hd=>(y0d (a2' d hd)).symm)
     exact ⟨s.put oj.dst .gone,⟨hfs,.inr ⟨gj.symm.trans g2,g4,rfl⟩⟩,behind .gone (y1g hn1 hfs g4)⟩
theorem yHJ{call:y0N St}{T:Nat->Bool}{Q:St->Prop}{i:Nat}{oi:Oper}{ms:List Nat}(hn1:(g.ap.map (·.1)).Nodup)(hn2:(g.ap.map (·.2.2)).Nodup)(hm:y5B md ops.toList ms)(hi:ops[i]?=some oi)(hTi:T i=true) :
  ∀ (fuel:Nat) (listed:Array Bool) (s s1:St),y86 md ops listed ->
   (∀ j oj,ops[j]?=some oj->j≠i->listed.getD j true=false->y3B ms j i=false->(∀ e∈oj.after,Region.binds md e=true->e.on≠i)->oi.apart ops oj=true/\T j=true/\yJr g oi oj) ->
   i∈Region.ready md ops listed->Runs g call ops oi s s1 ->
   anyS g call md ops T Q fuel (listed.setIfInBounds i true) s1->anyS g call md ops T Q (fuel+1) listed s:=by
 intro fuel;induction fuel with
 |zero =>
  intro listed s s1 _ _ hr hy H;refine ⟨λ h=>(by rw[h]at hr;cases hr),λ j hj=>?_⟩
  by_cases hji:j=i
  ·subst hji;exact hy.sOp hi hTi H
  ·have:=ready_mono hj hji;rw[H.1]at this;cases this
 |succ fuel ih =>
  intro listed s s1 hcl hfree hr hy H;refine ⟨λ h=>(by rw[h]at hr;cases hr),λ j hj=>?_⟩
  by_cases hji:j=i
  ·subst hji;exact hy.sOp hi hTi H
  ·have h1:=H.2 j (ready_mono hj hji);obtain ⟨hjun,oj,hoj,hall⟩:=mem_ready.1 hj;have hnot:∀ e∈oj.after,Region.binds md e=true->e.on≠i:=λ e he hb heq=>by
    have h1:=hall e he hb;have h0:=(mem_ready.1 hr).1;rw[heq]at h1;rcases lt_or_ge i listed.size with h'|h'
    ·simp[h']at h0 h1;rw[h0]at h1;cases h1
    ·simp[Array.getElem?_eq_none h']at h1
   obtain ⟨hap,hTj,hso⟩:=hfree j oj hoj hji hjun (y4M hm hcl (mem_ready.1 hr).1 hj) hnot;obtain ⟨s2,r2,h2⟩:=y80 hoj hTj h1;obtain ⟨s',r3,r4⟩:=swap hn1 hn2 hap hso hy r2;have hfree':∀ k ok,ops[k]?=some ok->k≠i->(listed.setIfInBounds j true).getD k true=false->y3B ms k i=false ->
     (∀ e∈ok.after,Region.binds md e=true->e.on≠i)->oi.apart ops ok=true/\T k=true/\yJr g oi ok:=λ k ok hk hki hun hw hno=>by
    refine hfree k ok hk hki ?_ hw hno;by_cases hjk:j=k
    ·subst hjk;exact hjun
    ·rw[getD_set_ne true hjk]at hun;exact hun
   refine r3.sOp hoj hTj (ih (listed.setIfInBounds j true) s' s2 (hcl.step hj) hfree' (ready_mono hr (Ne.symm hji)) r4 ?_);rw[Array.setIfInBounds_comm _ _ hji];exact h2
theorem yFZ{call:y0N St}{T:Nat->Bool}{Q:St->Prop}{ms:List Nat}(hn1:(g.ap.map (·.1)).Nodup)(hn2:(g.ap.map (·.2.2)).Nodup)(hm:y5B md ops.toList ms)(hTail:∀ j o,ops[j]?=some o->T j=false->∀ i,i < j->y3B ms j i=true)(hT2:∀ i j,i<=j->T i=false->T j=false)
  (hAl:∀ i o,ops[i]?=some o->y1x g o=true->T i=true->(∀ j oj,ops[j]?=some oj->i < j->y3B ms j i=true\/(y3D g o=true/\g.ap≠[]/\(y1x g oj=false\/y0k oj=true\/(y3D g oj=true/\apLt g o oj=true))))/\(∀ j oj,ops[j]?=some oj->j < i->y3B ms i j=true\/y0k o=true\/yJc g oj=true\/(y3D g o=true/\g.ap≠[]))) :
  ∀ (l:List Oper) (k:Nat) (listed:Array Bool) (s:St),(∀ j,l[j]?=ops[k+j]?)->(∀ j,j < ops.size->listed.getD j true=decide (j < k)) ->
  y86 md ops listed->Region.lexFrom md ops l.length k listed=true->runS g call ops T Q l k s->anyS g call md ops T Q l.length listed s
 |[],_,_,_,_,_,_,hB,h=>⟨by simpa[Region.lexFrom]using hB,h⟩
 |o::l,k,listed,s,hl,hlist,hcl,hB,h=>by
  have h0:ops[k]?=some o:=by simpa using (hl 0).symm
  have hksz:k < ops.size:=(Array.getElem?_eq_some_iff.1 h0).1;simp only[List.length_cons,Region.lexFrom,and_eq_true]at hB;obtain ⟨⟨hr,hf⟩,hB'⟩:=hB;have hrk:k∈Region.ready md ops listed:=by simpa using hr
  have hnext:∀ j,j < ops.size->(listed.setIfInBounds k true).getD j true=decide (j < k+1):=by
   intro j hj;by_cases hkj:k=j
   ·subst hkj;have:(listed.setIfInBounds k true).getD k true=true:=by
     rw[Array.getD_eq_getD_getElem?];by_cases hs:k < listed.size
     ·simp[hs]
     ·simp[hs]
    rw[this];simp
   ·rw[getD_set_ne true hkj,hlist j hj];congr 1
    apply propext;omega
  have hrec:=yFZ (call:=call) (Q:=Q) hn1 hn2 hm hTail hT2 hAl l (k+1) (listed.setIfInBounds k true);have hl':∀ j,l[j]?=ops[k+1+j]?:=λ j=>by have:=hl (j+1);simpa[add_assoc,add_comm 1 j]using this
  by_cases hcase:T k=true/\(y1x g o=false\/(y3D g o=true/\g.ap≠[]))
  ·obtain ⟨hTk,he⟩:=hcase;obtain ⟨s1,hy,hK⟩:=y80 h0 hTk h;refine yHJ hn1 hn2 hm h0 hTk l.length listed s s1 hcl (λ j oj hoj hji hun hnw hno=>?_) hrk hy (hrec _ hl' hnext (hcl.step hrk) hB' hK)
   have hj:k < j:=by
    have hjs:=(Array.getElem?_eq_some_iff.1 hoj).1;rw[hlist j hjs]at hun;simp at hun;omega
   have hTj:T j=true:=by
    cases hTj:T j with
    |true=>rfl
    |false =>
     rw[hTail j oj hoj hTj k hj]at hnw;cases hnw
   refine ⟨Region.free_spec h0 hf j oj hoj hji hun hno,hTj,?_⟩;cases hek:y1x g o with
   |false =>
    refine .inl ⟨hek,λ hej=>?_⟩
    rcases (hAl j oj hoj hej hTj).2 k o h0 hj with hw|hq|hq|hq
    ·rw[hw]at hnw;cases hnw
    ·exact .inr (.inl hq)
    ·exact .inr (.inr hq)
    ·exact .inl hq
   |true =>
    have he:y3D g o=true/\g.ap≠[]:=by
     rcases he with h|h
     ·rw[hek]at h;cases h
     ·exact h
    rcases (hAl k o h0 hek hTk).1 j oj hoj hj with hw|⟨_,_,hq⟩
    ·rw[hw]at hnw;cases hnw
    ·exact .inr ⟨hek,he.1,he.2,hq⟩
  ·have hafter:∀ j oj,ops[j]?=some oj->k < j->y3B ms j k=true:=λ j oj hoj hj=>by
    cases hTk:T k with
    |false=>exact hTail j oj hoj (hT2 k j (by omega) hTk) k hj
    |true =>
     cases he:y1x g o with
     |true =>
      rcases (hAl k o h0 he hTk).1 j oj hoj hj with h|⟨h1,h2,_⟩
      ·exact h
      ·exact absurd ⟨hTk,.inr ⟨h1,h2⟩⟩ hcase
     |false=>exact absurd ⟨hTk,.inl he⟩ hcase
   refine ⟨λ hn=>(by rw[hn]at hrk;cases hrk),λ j hj=>?_⟩
   have hjk:j=k:=by
    obtain ⟨hjun,oj,hoj,hall⟩:=mem_ready.1 hj;have hjs:=(Array.getElem?_eq_some_iff.1 hoj).1;rw[hlist j hjs]at hjun;simp at hjun;rcases lt_or_ge k j with h'|h'
    ·have:=y4M hm hcl (mem_ready.1 hrk).1 hj;rw[hafter j oj hoj h']at this;cases this
    ·omega
   subst hjk;exact yMX (λ s' hs'=>hrec s' hl' hnext (hcl.step hrk) hB' hs') h
end
end Go.Vx
end
section
namespace Go.Vx
open Go.RowKit
variable [GT]
section
variable {P:Program} {A0:Nat->Prop} {w0:Base} {ρ:Places} {s s':St} {a:Act} {w w':World} {g:G} {R:Type} {r:R} {ops:Array Oper}
omit [GT] in
theorem yQ9{j:Nat}{b:Bool}(h:y5S ops s j=some (some b)):setG ops s j b=s:=by
 unfold y5S at h;unfold setG;split at h
 ·rename_i t ht;split at h
  ·rename_i b' hs;cases h;show ({ s with sl:=s.sl.set t (.val .bool b) }:St)=s
   have:s.slots.set t (.val .bool b)=s.slots:=by
    apply ext_getElem?;intro i;by_cases hti:t=i
    ·subst hti;rcases lt_or_ge t s.slots.length with hl|hl
     ·rw[getElem?_set_self hl];rw[St.get_def]at hs;rw[getD_eq_getElem?_getD,getElem?_eq_getElem hl]at hs;rw[getElem?_eq_getElem hl];exact congrArg some hs.symm
     ·rw[getElem?_eq_none (by simpa using hl),getElem?_eq_none hl]
    ·rw[getElem?_set_ne hti]
   rw[show s.sl.set t (.val .bool b)=s.sl from Slots.ext_list (by rw[Slots.toList_set];exact this)]
  ·cases h
  ·cases h
 ·cases h
theorem yBu{call:(R:Type)->y0N R}(hN:y2j call){T:Nat->Bool}{Q:St->Prop}{dr:Bool}(hn:dr=true->(g.ap.map (·.1)).Nodup/\(g.ap.map (·.2.2)).Nodup)(l2:List Oper):∀ (l:List Oper) (k:Nat) (s:St) (F:St->Option R),(dr=true->y0P g s=true)->(∀ j,j < l.length->l[j]?=ops[k+j]?)->(∀ j,j < l.length->T (k+j)=dr) ->
  y0o g (call R) dr ops l s F=some r->(∀ s',F s'=some r->runS g (call St) ops T Q l2 (k+l.length) s')->runS g (call St) ops T Q (l++l2) k s
 |[],k,s,F,_,_,_,h,hF=>hF s h
 |o::l,k,s,F,hap,hl,hT,h,hF=>by
  have h0:ops[k]?=some o:=by simpa using (hl 0 (by simp)).symm
  have hTk:T k=dr:=by simpa using hT 0 (by simp)
  have ih:=λ s' (hap':dr=true->y0P g s'=true) (h':y0o g (call R) dr ops l s' F=some r)=>yBu hN hn l2 l (k+1) s' F hap'
   (λ j hj=>by have:=hl (j+1) (by simp;omega);simpa[add_assoc,add_comm 1 j]using this)
   (λ j hj=>by have:=hT (j+1) (by simp;omega);simpa[add_assoc,add_comm 1 j]using this) h'
   (λ s' hs'=>by have:=hF s' hs';simpa[add_assoc,add_comm 1 l.length]using this)
  show sOp g (call St) ops T k (runS g (call St) ops T Q (l++l2) (k+1)) s
  unfold sOp;rw[h0];dsimp only;refine ⟨λ ht=>hap (hTk ▸ ht),?_⟩
  unfold y0o at h;unfold y1a;cases hg:o.guard with
  |none =>
   rw[hg]at h;dsimp only at h ⊢;rw[y2G hN,bind_eq_some_iff]at h;obtain ⟨s',h1,h2⟩:=h;rw[hTk];exact ⟨s',h1,ih s' (λ hd=>by subst hd;exact y8f (hn rfl).1 (hn rfl).2 (hap rfl) h1) h2⟩
  |some gw =>
   obtain ⟨j,want⟩:=gw;rw[hg]at h;dsimp only at h ⊢;rw[bind_eq_some_iff]at h;obtain ⟨ob,hb,h⟩:=h;rw[hb];simp only[map_some];have yes:y0H g (call R) dr s o (λ s'=>y0o g (call R) dr ops l s' F)=some r->(match some true with
     |some true=>∃ s',y0H g (call St) (T k) s o some=some s'/\runS g (call St) ops T Q (l++l2) (k+1) s'
     |some false=>(T k=true->y1Q g s o=true)/\runS g (call St) ops T Q (l++l2) (k+1) (s.put o.dst .gone)
     |none=>False):=λ h=>by
    rw[y2G hN,bind_eq_some_iff]at h;obtain ⟨s',h1,h2⟩:=h;rw[hTk];exact ⟨s',h1,ih s' (λ hd=>by subst hd;exact y8f (hn rfl).1 (hn rfl).2 (hap rfl) h1) h2⟩
   have no:(bif dr && !y1Q g s o then none else y0o g (call R) dr ops l (s.put o.dst .gone) F)=some r->(T k=true->y1Q g s o=true)/\runS g (call St) ops T Q (l++l2) (k+1) (s.put o.dst .gone):=λ h=>by
    cases hq:dr && !y1Q g s o with
    |true=>rw[hq]at h;cases h
    |false =>
     rw[hq]at h;have hg2:dr=true->y1Q g s o=true:=λ hd=>by rw[hd]at hq;simpa using hq
     exact ⟨λ ht=>hg2 (hTk ▸ ht),ih _ (λ hd=>y1g (hn hd).1 (hap hd) (hg2 hd)) h⟩
   cases ob with
   |none=>cases want<;>exact no h
   |some b =>
    dsimp only at h;cases want<;>cases b<;>(
     simp only[cond_true,cond_false]at h;rw[yQ9 hb]at h;first|exact yes h|exact no h)
theorem y5j{call:(R:Type)->y0N R}(hC:y6s P call)(hRd:y3M P call)(hT:yw P g.T)(hE:∀ e∈g.E,FnOK P e){T:Nat->Bool}{Q:St->Prop}{Q':Exit->Act->World->Prop}(hQ:∀ ρ s a w,Rel P A0 w0 ρ s a w->Q s->Q' .normal a w) :
  ∀ (l:List Oper) (k:Nat) {ρ:Places} {s:St} {a:Act} {w:World},Rel P A0 w0 ρ s a w->runS g (call St) ops T Q l k s->wpOpsIn (y3V w0.ro) 0 P ops Q' (List.range' k l.length) a w
 |[],_,_,_,_,_,h,hh=>hQ _ _ _ _ h hh
 |_::l,k,_,_,_,_,h,hh=>by
  simp only[List.length_cons,List.range'_succ];rw[wpOpsIn_cons];exact y8W hC hRd hT hE h (λ _ _ _ _ hR hK=>y5j hC hRd hT hE hQ l (k+1) hR hK) hh
omit [GT] in
theorem y59:∀ {l:List Nat},yDQ l=true->l.Nodup
 |[],_=>nodup_nil
 |a::l,h=>by
  unfold yDQ at h;simp only[and_eq_true,not_eq_true']at h;refine nodup_cons.2 ⟨λ hm=>?_,y59 h.2⟩
  have:l.contains a=true:=List.contains_iff_mem.2 hm;rw[this]at h;cases h.1
theorem yC4{call:(R:Type)->y0N R}(hC:y6s P call)(hRd:y3M P call)(hN:y2j call)(hm:P.follows .mixedOrders=true)(hT:yw P g.T)(hE:∀ e∈g.E,FnOK P e){K:St->Option R}{Q:Exit->Act->World->Prop}{id:Nat}{draw:Bool}(h:Rel P A0 w0 ρ s a w)
  (hk:y6A g (call R) ops draw s K=some r) (hQ:∀ ρ s a w,Rel P A0 w0 ρ s a w->K s=some r->Q .normal a w):(Code.region id ops draw).wpIn (y3V w0.ro) 0 P Q a w:=by
 unfold y6A at hk;cases draw with
 |false =>
  simp only[false_eq_true,if_false]at hk;have hr:=yBu hN (g:=g) (ops:=ops) (T:=λ _=>false) (Q:=λ s=>K s=some r) (λ h=>by cases h) [] ops.toList 0 s K (λ h=>by cases h) (λ j _=>by simp) (λ _ _=>rfl) hk (λ s' hs'=>hs')
  rw[append_nil]at hr;refine wpIn_region ?_
  have:=y5j hC hRd hT hE hQ ops.toList 0 h hr;rw[List.range_eq_range'];simpa using this
 |true =>
  simp only[if_true]at hk;replace h:=Rel.settleAll (clos ops.toList s) h
  generalize settleAll (clos ops.toList s) s=s at h hk;replace h:=Rel.settleCells (lent g ops.toList s) h
  generalize settleCells (lent g ops.toList s) s=s at h hk;replace h:=h.splitAt (g:=g) ops.toList
  obtain ⟨ρ,h⟩:=h;generalize Vx.splitAt g ops.toList s=s at h hk;generalize apOf g s ops.toList _ []=ap at hk;unfold yEK at hk;obtain ⟨hA,hk⟩:=yG hk;obtain ⟨hn1,hn2,hr3⟩:(ap.map (·.1)).Nodup/\(ap.map (·.2.2)).Nodup/\∀ p∈ap,s.cH.length<=p.2.2/\p.2.2 < s.cH.length+ap.length:=by
   rw[or_eq_true]at hA;rcases hA with hA|hA
   ·have hA:=isEmpty_iff.1 hA;subst hA;exact ⟨nodup_nil,nodup_nil,λ p hp=>by cases hp⟩
   ·simp only[and_eq_true]at hA;refine ⟨y59 hA.1.1,y59 hA.1.2,λ p hp=>?_⟩
    have:=all_eq_true.1 hA.2 p hp;simpa using this
  generalize (ops.toList.zipIdx.any λ p=>decide (p.2 < _) && !yNF { g with ap:=ap } _ ops p.1 p.2)=vl at hk
  generalize hg':({ g with ap:=ap,vl:=vl }:G)=g' at hk
  have hT':yw P g'.T:=by rw[<- hg'];exact hT
  have hE':∀ e∈g'.E,FnOK P e:=by rw[<- hg'];exact hE
  have hap:g'.ap=ap:=by rw[<- hg']
  rw[<- hap]at hn1 hn2 hr3 hk;have hfree:y0P g' (s.pad g'.ap.length)=true:=yHH h hr3;replace h:=h.pad g'.ap.length
  generalize s.pad g'.ap.length=s at h hk hfree;clear hT hE;unfold yDx at hk;obtain ⟨hB,hk⟩:=yG hk;rw[and_eq_true]at hB;obtain ⟨hB,hEf⟩:=hB;rw[and_eq_true]at hB;obtain ⟨hB,hTl⟩:=hB;have hm0:y5B .any ops.toList (yJM .any ops.toList []):=yGy ops.toList [] [] rfl (λ j i h=>by simp[y3B]at h)
  generalize yJM .any ops.toList []=ms at hk hTl hEf hm0;have hn:ops.size - yE1 ms ops.size<=ops.size:=Nat.sub_le _ _;have e0:ops.toList.length=ops.size:=Array.length_toList;generalize ops.size - yE1 ms ops.size=n at hk hTl hn hEf;simp only[Region.lexB,and_eq_true]at hB;have hr:=yBu hN (g:=g') (ops:=ops) (T:=λ j=>decide (j < n)) (Q:=λ s=>K s=some r) (λ _=>⟨hn1,hn2⟩) (ops.toList.drop n) (ops.toList.take n) 0 s _ (λ _=>hfree)
   (λ j hj=>by
    rw[length_take]at hj;rw[getElem?_take,if_pos (by omega)]
    simp)
   (λ j hj=>by
    rw[length_take]at hj;simp;omega) hk (λ s' hs'=>by
    have:=yBu hN (g:=g') (ops:=ops) (T:=λ j=>decide (j < n)) (Q:=λ s=>K s=some r) (λ h=>by cases h) [] (ops.toList.drop n) (0+(ops.toList.take n).length) s' K (λ h=>by cases h)
     (λ j hj=>by
      rw[length_drop]at hj;rw[getElem?_drop,length_take,zero_add];rw[min_eq_left (by omega)]
      simp)
     (λ j hj=>by
      rw[length_drop]at hj;simp only[length_take,decide_eq_false_iff_not];omega) hs' (λ s' hs'=>hs')
    rw[append_nil]at this;exact this)
  rw[List.take_append_drop]at hr;have h1:=h.drawn (w.drawn+1);refine wpIn_region_any hm (y5a (g:=g') (md:=.any) (T:=λ j=>decide (j < n)) hC hRd hT' hE' hQ _ _ h1 ?_)
  have:=yFZ (g:=g') (call:=call St) (md:=.any) (ops:=ops) (T:=λ j=>decide (j < n)) (Q:=λ s=>K s=some r) hn1 hn2 hm0 (λ j o hj hTj i hi=>by
    simp at hTj;have hm:(o,j)∈ops.toList.zipIdx:=by
     rw[mem_iff_getElem?];refine ⟨j,?_⟩;rw[List.getElem?_zipIdx];simp[hj]
    have h3:=all_eq_true.1 hTl _ hm;simp only[or_eq_true,decide_eq_true_eq]at h3;rcases h3 with h3|h3
    ·omega
    ·exact all_eq_true.1 h3 i (mem_range.2 hi))
   (λ i j hij hi=>by simp at hi ⊢;omega) (λ i o hi he hTi=>by
    have hm:(o,i)∈ops.toList.zipIdx:=by
     rw[mem_iff_getElem?];refine ⟨i,?_⟩;rw[List.getElem?_zipIdx];simp[hi]
    have h3:=all_eq_true.1 hEf _ hm;simp only[decide_eq_true_eq]at hTi;simp only[or_eq_true,decide_eq_true_eq]at h3;rcases h3 with h3|h3
    ·omega
    ·unfold yNF at h3;rw[he]at h3;simp only[Bool.not_true,Bool.false_or]at h3;refine ⟨λ j oj hoj hij=>?_,λ j oj hoj hji=>?_⟩
     ·have h4:=all_eq_true.1 h3 j (mem_range.2 (Array.getElem?_eq_some_iff.1 hoj).1);rw[if_pos hij,hoj]at h4;have hne:¬ j=i:=by omega
      simp only[hne,decide_false,Bool.false_or,or_eq_true,and_eq_true,not_eq_true',List.isEmpty_eq_false_iff]at h4;rcases h4 with h4|⟨⟨h4,h5⟩,(h6|h6)|h6⟩
      ·exact .inl h4
      ·exact .inr ⟨h4,h5,.inl h6⟩
      ·exact .inr ⟨h4,h5,.inr (.inl h6)⟩
      ·exact .inr ⟨h4,h5,.inr (.inr h6)⟩
     ·have h4:=all_eq_true.1 h3 j (mem_range.2 (Array.getElem?_eq_some_iff.1 hoj).1);rw[if_neg (by omega),hoj]at h4
      have hne:¬ j=i:=by omega
      simp only[hne,decide_false,Bool.false_or,or_eq_true,and_eq_true,not_eq_true',List.isEmpty_eq_false_iff]at h4;rcases h4 with (h4|h4)|h4|⟨h4,h5⟩
      ·exact .inl h4
      ·exact .inr (.inl h4)
      ·exact .inr (.inr (.inl h4))
      ·exact .inr (.inr (.inr ⟨h4,h5⟩))) ops.toList 0 (Array.replicate ops.size false) s (λ j=>by simp) (λ j hj=>by simp[hj]) (λ p o hp hl=>by simp[Array.getD_eq_getD_getElem?,Array.getElem?_replicate]at hl;split at hl<;>simp at hl) (by simpa using hB.2) hr
  simpa using this
def yRU:Exit->Bool
 |.normal|.exit _|.ret=>true
 |_=>false
omit [GT] in
theorem yEl{b:Frame}{k:List Item}{cs:List Frame}{c:Code}:step P (lone (b.atR a (.code (.scope c)::k)) cs w)=.next (lone (b.atR a (.code c::.inScope c::k)) cs w):=
 step_lone_go (by simp[stepG,stepG.exec,Frame.atR])
omit [GT] in
theorem yBP{b:Frame}{k:List Item}{cs:List Frame}{c:Code}:step P (lone (b.atR a (.inScope c::k)) cs w)=.next (lone (b.atR a k) cs w):=
 step_lone_go (by simp[stepG,stepG.exec,Frame.atR])
omit [GT] in
theorem y5C{F:Fence}{n:Nat}{c:Code}{Q:Exit->Act->World->Prop}(h:c.wpIn F n P (Exit.noGoto Q) a w):(Code.scope c).wpIn F n P Q a w:=by
 intro b k cs hro hb hr;obtain ⟨e,a₁,w₁,hq,harr⟩:=h b (.inScope c::k) cs hro hb hr;have h0:StepsIn (Machine.fenced P F) P (lone (b.atR a (.code (.scope c)::k)) cs w) (lone (b.atR a (.code c::.inScope c::k)) cs w):=.one (fenced_calm hb hr rfl) yEl;have hx:∀ id,exitTo id (.inScope c::k)=exitTo id k:=λ id=>by simp[exitTo]
 cases e with
 |normal=>exact ⟨.normal,a₁,w₁,hq,h0.trans (StepsIn.trans harr (.one (fenced_calm hb hr rfl) yBP))⟩
 |exit id=>exact ⟨.exit id,a₁,w₁,hq,λ k' hk=>h0.trans (harr.1 k' (by rw[hx];exact hk)),λ hro' hk=>let ⟨k₁,h1,h2⟩:=harr.2 hro' (by rw[hx];exact hk);⟨k₁,h1,h0.trans h2⟩⟩
 |goto l=>exact hq.elim
 |ret=>exact ⟨_,a₁,w₁,hq,.of_steps h0 harr⟩
 |panic ch=>exact ⟨_,a₁,w₁,hq,.of_steps h0 harr⟩
 |outgrown=>exact ⟨_,a₁,w₁,hq,.of_steps h0 harr⟩
theorem y9s(cs:List (Option Chunk))(sv:SV):clrV cs sv=sv\/clrV cs sv=.undef:=by
 unfold clrV;split
 ·split
  ·exact .inr rfl
  ·exact .inl rfl
 ·exact .inl rfl
theorem Rel.clr(h:Rel P A0 w0 ρ s a w):Rel P A0 w0 ρ (clrS s) a w:=by
 have hsl:(clrS s).slots=s.slots.map (clrV s.cH):=Slots.toList_map _ _;refine ⟨by rw[hsl,List.length_map];exact h.size,λ i sv hi=>?_,h.cH,h.inj,λ i sv hi=>?_,h.cN,h.below,h.dom,h.defers,h.dep,h.lpi,h.round,h.glob,h.kZ,h.kS,h.kN,h.subs⟩
 ·rw[hsl]at hi;simp only[getElem?_map,map_eq_some_iff]at hi;obtain ⟨sv',h1,rfl⟩:=hi;rcases y9s s.cH sv' with e|e<;>rw[e]
  ·exact h.slots i sv' h1
  ·trivial
 ·rw[hsl]at hi;simp only[getElem?_map,map_eq_some_iff]at hi;obtain ⟨sv',h1,rfl⟩:=hi;rcases y9s s.cH sv' with e|e<;>rw[e]
  ·exact h.names i sv' h1
  ·trivial
def Base.range(w0:Base)(info:LpInfo):Base:={ w0 with infos:=w0.infos++[info] }
theorem Rel.range(h:Rel P A0 w0 ρ s a w)(info:LpInfo):Rel P A0 (w0.range info) ρ { s with dep:=s.dep+1 } a w:=
 ⟨h.size,h.slots,h.cH,h.inj,h.names,h.cN,h.below,h.dom,h.defers,⟨by simp[Base.range,h.dep.1],h.dep.2⟩,λ β ch q hb hq=>by
   have h1:=h.lpi β ch q hb hq;have hlt:=(List.getElem?_eq_some_iff.1 h1).1;show (w0.infos++[info])[q.1]?=some q.2
   rw[getElem?_append_left hlt,h1],h.round,h.glob,h.kZ,h.kS,h.kN,h.subs⟩
theorem Rel.unrange{info:LpInfo}(h:Rel P A0 (w0.range info) ρ s a w)(hlp:∀ (β:Nat) (ch:Chunk) (q:Nat×LpInfo),s.cH[β]?=some (some ch)->ch.lpNo=some q->q.1 < s.dep - 1):Rel P A0 w0 ρ { s with dep:=s.dep - 1 } a w:=
 have hd:s.dep=w0.infos.length+1:=by simpa[Base.range]using h.dep.1
 ⟨h.size,h.slots,h.cH,h.inj,h.names,h.cN,h.below,h.dom,h.defers,⟨by show s.dep - 1=_;omega,h.dep.2⟩,λ β ch q hb hq=>by
   have h1:=h.lpi β ch q hb hq;have hlt:=hlp β ch q hb hq;have h2:(w0.infos++[info])[q.1]?=some q.2:=h1;rwa[getElem?_append_left (by omega)]at h2,h.round,h.glob,h.kZ,h.kS,h.kN,h.subs⟩
theorem Rel.mark(h:Rel P A0 w0 ρ s a w){r:Nat}(hr:w.heap[r]?=some (.deferred (some [])))(hr0:w0.w.heap.size<=r)(hnew:∀ ms:List Nat,a.defers=ms.map markD->r ∉ ms)(hnew':r ∉ w0.marks) :
  Rel P A0 w0 ρ { s with nmk:=s.nmk+1 } { a with defers:=markD r::a.defers } w:=by
 obtain ⟨ms,⟨h1,h2,h3⟩,h4⟩:=h.defers;refine ⟨h.size,h.slots,h.cH,h.inj,h.names,h.cN,h.below,h.dom,⟨r::ms,⟨by simp[h1],λ h0=>by simp at h0,?_⟩,λ q hq=>?_⟩,h.dep,h.lpi,h.round,h.glob,h.kZ,h.kS,h.kN,h.subs⟩
 ·rw[List.cons_append,nodup_cons];refine ⟨λ hm=>?_,h3⟩
  rcases mem_append.1 hm with hm|hm
  ·exact hnew ms h1 hm
  ·exact hnew' hm
 ·rcases hq with hq|hq
  ·rcases mem_cons.1 hq with rfl|hq
   ·exact ⟨hr,hr0⟩
   ·exact h4 q (.inl hq)
  ·exact h4 q (.inr hq)
theorem yG3(h:Rel P A0 w0 ρ s a w):(∀ ms:List Nat,a.defers=ms.map markD->w.heap.size ∉ ms)/\w.heap.size ∉ w0.marks:=by
 obtain ⟨ms0,⟨h1,h2,h3⟩,h4⟩:=h.defers;have key:∀ r,r∈ms0\/r∈w0.marks->r < w.heap.size:=λ r hr=>yN (h4 r hr).1
 refine ⟨λ ms hms hin=>?_,λ hin=>Nat.lt_irrefl _ (key _ (.inr hin))⟩
 have e:ms=ms0:=by
  have:=hms.symm.trans h1;have inj:Function.Injective markD:=λ x y hxy=>by
   have:=congrArg Deferred.target hxy;simpa[markD]using this
  exact (List.map_inj_right (λ x y hxy=>inj hxy)).1 this
 subst e;exact Nat.lt_irrefl _ (key _ (.inl hin))
theorem yAV{f:Operand}{l:Nat}{n:FuncId}{caps:List Value}(hf:a.eval f=.func (.func n) #[] caps.toArray)(hE:y3g P n) :
  ∃ d,(resolve a.eval (rangeCall f l) 0).run P w=.ok d w/\(invoke d.target d.args).run P w=.ok (.enter n ((.func (.yield l) #[] #[]::caps).toArray)) w:=by
 obtain ⟨fn,h1,h2,h3⟩:=hE;refine ⟨{ target:=.fn (.func n) caps.toArray,args:=#[.func (.yield l) #[] #[]] },?_,?_⟩
 ·simp only[rangeCall,resolve,hf,Deferred.ofValue,Sem.run_pure];simp[Act.eval]
 ·have e1:(#[Value.func (.yield l) #[] #[]]++caps.toArray)=(Value.func (.yield l) #[] #[]::caps).toArray:=by
   apply Array.toList_inj.1;simp
  simp only[invoke,callFunc,e1,Sem.run_bind];simp[h1];rw[if_neg (by simpa using h2),if_neg (by intro hb;rw[hb]at h3;cases h3)]
theorem Rel.enterRange(h:Rel P A0 w0 ρ s a w)(fn:FuncId)(info:LpInfo) :
  ∃ l mark w1 ρ1,(Instr.enterLoop fn a.tmps info.ps info.assign info.body w0.ro).run P w=.ok (l,mark) w1 /\
   (∀ sv v,sv.inn s.cH.length->yF P (Av A0 ρ s.cH) w ρ sv v->yF P (Av A0 ρ1 (s.cH++[some (.lp s.dep info s.slots .ready)])) w1 ρ1 sv v) /\
   (∃ b,(ρ1 s.cH.length).blk=some b/\b=l) /\
   Rel P A0 ((w0.range info).push (.func (.yield l) #[] #[])) ρ1 { s with cH:=s.cH++[some (.lp s.dep info s.slots .ready)],kept:=.yld s.cH.length::s.kept,dep:=s.dep+1,nmk:=if s.rnd then s.nmk else s.nmk+1 }
    { a with defers:=mark++a.defers } w1:=by
 have hif:(if s.rnd then s.nmk else s.nmk+1)=if w0.ro.isSome then s.nmk else s.nmk+1:=by rw[h.dep.2]
 rw[hif];clear hif;have gen:∀ (wA:World) (d:Nat),Below w.heap.size w wA->∀ {s2:St} {a2:Act},s2.sl=s.sl->s2.cH=s.cH->s2.kept=s.kept->s2.dep=s.dep->a2.tmps=a.tmps->Rel P A0 w0 ρ s2 a2 wA ->
   ∃ ρ1,(∀ sv v,sv.inn s.cH.length->yF P (Av A0 ρ s.cH) w ρ sv v->yF P (Av A0 ρ1 (s.cH++[some (.lp s.dep info s.slots .ready)])) (wA.alloc (.loop { state:=.ready,pending:=none,fn,tmps:=a.tmps,params:=info.ps,assign:=info.assign,body:=info.body,defers:=d })) ρ1 sv v) /\
    (∃ b,(ρ1 s.cH.length).blk=some b/\b=wA.heap.size) /\
    Rel P A0 ((w0.range info).push (.func (.yield wA.heap.size) #[] #[])) ρ1 { s2 with cH:=s.cH++[some (.lp s.dep info s.slots .ready)],kept:=.yld s.cH.length::s.kept,dep:=s.dep+1 } a2
     (wA.alloc (.loop { state:=.ready,pending:=none,fn,tmps:=a.tmps,params:=info.ps,assign:=info.assign,body:=info.body,defers:=d })):=by
  intro wA d hb s2 a2 e1 e2 e3 e4 e5 h2;obtain ⟨sl,ch,ke,de,nm,rd⟩:=s2;simp only at e1 e2 e3 e4;subst e1 e2 e3 e4;have hbl:=y0L wA (.loop { state:=.ready,pending:=none,fn,tmps:=a.tmps,params:=info.ps,assign:=info.assign,body:=info.body,defers:=d });have h3:=(h2.range info).newChunk (.lp s.dep info s.slots .ready) ⟨some wA.heap.size,0,0,[],[],[]⟩ hbl (λ b hb=>by cases hb;exact le_refl _) (λ sv hs=>by
    obtain ⟨i,hi⟩:=List.getElem?_of_mem hs;exact h2.names i sv hi)
   (λ A hA _=>⟨wA.heap.size,_,rfl,heap_alloc_new wA _,⟨rfl,rfl,rfl,rfl,.inr rfl⟩,by rw[h.size],λ i sv hi=>by
    have h4:=h2.slots i sv hi;have hlt:i < a.tmps.size:=h.size ▸ (List.getElem?_eq_some_iff.1 hi).1;refine ⟨a.tmps.getD i undef,by simp[Array.getD_eq_getD_getElem?,hlt],?_⟩
    rw[e5]at h4;exact h4.mono (λ n hn _=>hbl.block n hn) hA⟩)
   (λ q hq=>by
    cases hq;show (w0.infos++[info])[s.dep]?=some info
    rw[h.dep.1];simp)
  refine ⟨_,λ sv v hi hv=>?_,⟨wA.heap.size,by rw[Places.set_self],rfl⟩,h3.push (sv:=.yld s.cH.length) ⟨wA.heap.size,by rw[Places.set_self],rfl⟩ (by show s.cH.length < (s.cH++[_]).length;simp)⟩
  have he:∀ β,β < s.cH.length->ρ.set s.cH.length ⟨some wA.heap.size,0,0,[],[],[]⟩ β=ρ β:=λ β hβ=>Places.set_lt ρ _ hβ
  refine (hv.congr he hi).mono (λ n hn _=>(hbl.block n (Nat.lt_of_lt_of_le hn hb.size)).trans (hb.block n hn)) (λ n hn hA=>?_)
  rcases hA with (h0|⟨β,c,hc,hbn⟩)|⟨β,c,hc,hbn⟩
  ·exact .inl (.inl h0)
  ·rcases yd hc with ⟨hl,hc⟩|⟨rfl,rfl⟩
   ·rw[he β hl]at hbn;exact .inl (.inr ⟨β,c,hc,hbn⟩)
   ·rw[Places.set_self]at hbn;cases hbn
  ·rcases yd hc with ⟨hl,hc⟩|⟨rfl,rfl⟩
   ·rw[he β hl]at hbn;exact .inr ⟨β,c,hc,hbn⟩
   ·rw[Places.set_self]at hbn;cases hbn;exact absurd hn (Nat.not_lt.2 hb.size)
 cases hro:w0.ro with
 |none =>
  have hb1:=y0L w (.deferred (some []));have h1:=(h.step hb1).mark (r:=w.heap.size) (heap_alloc_new w _) h.below.size (yG3 h).1 (yG3 h).2;obtain ⟨ρ1,g1,g2,g3⟩:=gen (w.alloc (.deferred (some []))) w.heap.size hb1 (s2:={ s with nmk:=s.nmk+1 }) (a2:={ a with defers:=markD w.heap.size::a.defers }) rfl rfl rfl rfl rfl h1
  rw[World.size_alloc]at g2 g3;exact ⟨_,_,_,ρ1,run_enterLoop_outer ..,g1,g2,g3⟩
 |some l0 =>
  obtain ⟨r0,hr0⟩:=h.round l0 (.inl hro);obtain ⟨ρ1,g1,g2,g3⟩:=gen w r0.defers (Below.refl _ _) rfl rfl rfl rfl rfl h;exact ⟨_,_,_,ρ1,run_enterLoop_inner hr0 ..,g1,g2,g3⟩
theorem y9c{d:Nat}{cs:List (Option Chunk)}{γ:Nat}{c:Chunk}(h:(y5i d cs)[γ]?=some (some c)):cs[γ]?=some (some c)/\∀ q,c.lpNo=some q->q.1 < d:=by
 unfold y5i at h;rw[getElem?_map,map_eq_some_iff]at h;obtain ⟨o,h1,h2⟩:=h;rw[h1];split at h2
 ·split at h2
  ·rename_i hi;cases h2;exact ⟨rfl,λ q hq=>by cases hq;exact hi⟩
  ·cases h2
 ·rename_i hno;subst h2;refine ⟨rfl,λ q hq=>?_⟩
  cases c with
  |lp i info cells st=>exact absurd rfl (hno i info cells st)
  |_=>cases hq
theorem Rel.writeLp(h:Rel P A0 w0 ρ s a w){β l i:Nat}{info:LpInfo}{cells:List SV}{st st':LpSt}{rc rc':Loop}(hc:s.cH[β]?=some (some (.lp i info cells st)))(hb:(ρ β).blk=some l)(hl:w.heap[l]?=some (.loop rc))
  (ht:rc'.tmps=rc.tmps) (hp:rc'.params=rc.params) (ha:rc'.assign=rc.assign) (hbd:rc'.body=rc.body) (hst:rc'.state=st'.state) (hpe:st'=.over\/rc'.pending=st'.pending) :
  Rel P A0 w0 ρ { s with cH:=s.cH.set β (some (.lp i info cells st')) } a (w.putObj l (.loop rc')):=by
 obtain ⟨b',rec',hb',g1,⟨g2,g3,g4,_,_⟩,g5,g6⟩:=(h.cH β _ hc).1;rw[hb]at hb';cases hb';rw[hl]at g1;cases g1;have hlt:=yN hl;have hK:Keep (Av A0 ρ s.cH) w (w.putObj l (.loop rc')):=λ n hn hnA=>World.putObj_heap_other (λ e=>hnA (.inr ⟨β,_,hc,e ▸ hb⟩))
 exact h.write hc hb (λ n hn=>World.putObj_heap_other hn) (by simp[World.putObj]) rfl rfl rfl (show Chunk.inn s.cH.length (.lp i info cells st')from h.cN β (.lp i info cells st) hc)
  (λ A hA=>⟨l,rc',hb,World.putObj_heap_same hlt,⟨hp.trans g2,ha.trans g3,hbd.trans g4,hst,hpe⟩,by rw[ht];exact g5,λ j sv hj=>by
   obtain ⟨v,h1,h2⟩:=g6 j sv hj;exact ⟨v,by rw[ht];exact h1,h2.mono hK (λ n _ hn=>(hA n).1 hn)⟩⟩)
theorem Rel.endRange{info:LpInfo}{l:Nat}{K:Exit->St->Option R}(h:Rel P A0 ((w0.range info).push (.func (.yield l) #[] #[])) ρ s a w)(hk:Vx.endRange s K=some r) :
  ∃ jump w' s' e,(Instr.endLoop l).run P w=.ok jump w'/\Rel P A0 w0 ρ s' a w'/\K e s'=some r/\((jump=none/\e=.normal)\/(∃ id,jump=some (.exit id)/\e=.exit id)\/(jump=some .ret/\e=.ret)):=by
 unfold Vx.endRange at hk;split at hk
 ·rename_i β kept hkp;split at hk
  ·rename_i i info' cells st hch;obtain ⟨e,he,hk⟩:=bind_eq_some_iff.1 hk;have hc:=getD_some hch;have hh:=h.kS 0 (.yld β) (by rw[hkp];rfl)
   obtain ⟨b,hb,hv⟩:=hh;have hbl:b=l:=by
    simp only[Base.push,List.getD_cons_zero,Value.func.injEq,Fn.yield.injEq]at hv;exact hv.1.symm
   subst hbl;obtain ⟨b',rc,hb',g1,⟨g2,g3,g4,g5,g6⟩,g7,g8⟩:=(h.cH β _ hc).1;rw[hb]at hb';cases hb';have hnb:rc.state≠.busy:=by
    rw[g5];intro hs;cases st<;>simp[LpSt.state,LpSt.exit]at hs he
   have hnv:st≠.over:=by
    intro hs;subst hs;simp[LpSt.exit]at he
   have hpe:rc.pending=st.pending:=g6.resolve_left hnv;have h1:=h.writeLp (st':=.over) (rc':={ rc with state:=.exhausted }) hc hb g1 rfl rfl rfl rfl rfl (.inl rfl)
   have h2:=h1.dropAll (cs:=y5i (s.dep - 1) (s.cH.set β none)) (by simp[y5i]) (λ γ c hg=>by
    obtain ⟨h3,_⟩:=y9c hg;by_cases hbg:β=γ
    ·subst hbg;rw[getElem?_set]at h3;simp at h3
    ·rw[getElem?_set_ne hbg]at h3 ⊢;exact h3)
   have h3:=h2.pop hkp;have h4:=h3.unrange (λ γ c q hg hq=>(y9c hg).2 q hq)
   refine ⟨rc.pending,_,_,e,run_endLoop g1 hnb,h4,hk,?_⟩;rw[hpe];cases st with
   |ready=>cases he;exact .inl ⟨rfl,rfl⟩
   |busy=>cases he
   |over=>cases he
   |done j =>
    cases j with
    |exit id=>cases he;exact .inr (.inl ⟨id,rfl,rfl⟩)
    |ret=>cases he;exact .inr (.inr ⟨rfl,rfl⟩)
  ·cases hk
 ·cases hk
theorem y4X{call:(R:Type)->y0N R}(hC:y6s P call)(hRd:y3M P call)(hN:y2j call)(hm:P.follows .mixedOrders=true)(hT:yw P g.T)(hE:∀ e∈g.E,FnOK P e){fuel:Nat}:∀ (c:Code) (kp:List (List Nat)) {ρ:Places} {s:St} {a:Act} {w:World} {K:Exit->St->Option R} {Q:Exit->Act->World->Prop},
  Rel P A0 w0 ρ s a w->exec g (call R) fuel c kp s K=some r->(∀ e ρ s a w,yRU e=true->Rel P A0 w0 ρ s a w->K e s=some r->Q e a w)->c.wpIn (y3V w0.ro) 0 P Q a w:=by
 intro c;induction c with
 | skip=>intro kp ρ s a w K Q h hk hQ;exact wpIn_skip (hQ .normal _ _ _ _ rfl h hk)
 |region id ops draw=>intro kp ρ s a w K Q h hk hQ;exact yC4 hC hRd hN hm hT hE h hk (λ ρ s a w hR hK=>hQ .normal _ _ _ _ rfl hR hK)
 |seq x y ihx ihy =>
  intro kp ρ s a w K Q h hk hQ;refine wpIn_seq (ihx kp h hk λ e ρ s a w he hR hK=>?_)
  cases e with
  |normal=>exact ihy _ hR hK hQ
  |exit id=>exact hQ _ _ _ _ _ rfl hR hK
  |ret=>exact hQ _ _ _ _ _ rfl hR hK
  |_=>cases he
 |cond c x y ihx ihy =>
  intro kp ρ s a w K Q h hk hQ;simp only[exec]at hk;split at hk
  ·rename_i p hp;have hv:=(y3 (T:=g.T) h 0 c).1;rw[hp]at hv;refine wpIn_cond (y3b hv) ?_
   cases p with
   |true=>exact ihx _ h hk hQ
   |false=>exact ihy _ h hk hQ
  ·cases hk
 |block id c ih =>
  intro kp ρ s a w K Q h hk hQ;refine wpIn_block (ih kp h hk λ e ρ s a w he hR hK=>?_)
  cases e with
  |normal=>exact hQ _ _ _ _ _ rfl hR hK
  |exit id' =>
   simp only[Exit.inBlock];dsimp only at hK;split at hK
   ·rename_i hid;rw[if_pos hid];exact hQ _ _ _ _ _ rfl hR hK
   ·rename_i hid;rw[if_neg hid];exact hQ _ _ _ _ _ rfl hR hK
  |ret=>exact hQ _ _ _ _ _ rfl hR hK
  |_=>cases he
 |loop c ih =>
  intro kp ρ s a w K Q h hk hQ;simp only[exec]at hk;have hf:=(h.frz c).frzK (kp.headD []);have hs0:(y6v c (kp.headD []) s).Ok:=let h0:=yMo hf (kp.headD []);⟨h0.names,h0.cN,h0.kN⟩
  have hI0:LpI w0.infos (y6v c (kp.headD []) s):=yGC hf.lpi _;have hd0:∀ s':St,s'.dep=w0.infos.length/\s'.rnd=w0.ro.isSome->(y6v c (kp.headD []) s).dep=s'.dep/\(y6v c (kp.headD []) s).rnd=s'.rnd:=λ s' hs'=>⟨hf.dep.1.trans hs'.1.symm,hf.dep.2.trans hs'.2.symm⟩
  clear hf;obtain ⟨ρ1,h1⟩:=yHF h c (kp.headD []);have h2:=h1.weak (yCj h1 hs0 hI0 ⟨rfl,rfl⟩ (yKe _)) (yCe hI0 _);clear h1 h;generalize y6v c (kp.headD []) s=s0 at *;generalize stX s0=y at *;refine wpIn_loop_rounds fuel ?_
  generalize hF:(λ (r:(stTy s0).den->Option R) (y:(stTy s0).den)=>exec g (call R) fuel c kp.tail (y4t s0 y) λ e s'=>match e with
   |.normal=>(stAs s0 (canon (kp.headD []) (frzK (kp.headD []) s'))).bind r
   |e=>K e s')=F at hk
  generalize fuel=n at hk;induction n generalizing ρ1 a w y with
  |zero=>cases hk
  |succ n ihn =>
   have hk2:F (iter F n) y=some r:=hk;rw[<- hF]at hk2;refine ih kp.tail h2 hk2 λ e ρ' s' a' w' he hR hK=>?_
   cases e with
   |normal =>
    dsimp only at hK;obtain ⟨y',hy',hk'⟩:=bind_eq_some_iff.1 hK;rw[hF]at hk';obtain ⟨ρ2,h3⟩:=(hR.frzK (kp.headD [])).canon (kp.headD []);exact ihn ρ2 y' (h3.weak (yCj h3 hs0 hI0 (hd0 _ h3.dep) hy') (yCe hI0 _)) hk'
   |exit id=>exact hQ _ _ _ _ _ rfl hR hK
   |ret=>exact hQ _ _ _ _ _ rfl hR hK
   |_=>cases he
 |scope c ih =>
  intro kp ρ s a w K Q h hk hQ;refine y5C (ih kp h hk λ e ρ s a w he hR hK=>?_)
  cases e with
  |normal=>exact hQ _ _ _ _ _ rfl hR hK
  |exit id=>exact hQ _ _ _ _ _ rfl hR hK
  |ret=>exact hQ _ _ _ _ _ rfl hR hK
  |_=>cases he
 |rangeFunc f ps x y _ _ =>
  intro kp ρ s a w K Q h hk hQ;simp only[exec]at hk;replace h:=h.clr
  generalize clrS s=s at h hk;unfold yLo at hk;split at hk
  ·rename_i n caps hev;obtain ⟨hs,hin⟩:=y3 (T:=g.T) h 0 f;rw[hev]at hs hin;obtain ⟨vs,hfv,hr⟩:=hs;refine wpIn_rangeFunc λ fn _=>?_
   obtain ⟨l,mark,w1,ρ1,e1,e2,⟨b,hb,hbl⟩,h1⟩:=h.enterRange fn { ps:=ps,assign:=x,body:=y,keep:=kp,mU:=g.mU,fz:=g.fz };subst hbl;obtain ⟨hEn,hCalls⟩:=hC h1 (svs:=.yld s.cH.length::y1e caps) (vs:=.func (.yield b) #[] #[]::vs) (by
     have hcv:=y1q hr;refine ⟨by simp[hcv.1],λ i sv hi=>?_⟩
     cases i with
     |zero=>simp at hi;subst hi;exact ⟨_,rfl,b,hb,rfl⟩
     |succ i =>
      obtain ⟨v,q1,q2⟩:=hcv.2 i sv (by simpa using hi)
      exact ⟨v,by simpa using q1,e2 sv v (y4Q hin sv (mem_of_getElem? (by simpa using hi))) q2⟩)
    (λ sv hs=>by
     rcases mem_cons.1 hs with rfl|hs
     ·show s.cH.length < (s.cH++[_]).length
      simp
     ·exact SV.inn_mono (by simp) (y4Q hin sv hs)) hk
   obtain ⟨d,hres,hinv⟩:=yAV (P:=P) (w:=w1) (l:=b) hfv hEn;refine ⟨b,mark,w1,d,w1,n,_,w1,e1,hres,λ _ _=>trivial,hinv,λ h=>(by cases h),yFV.2 (hCalls.mono λ ex w2 hB=>?_)⟩
   obtain ⟨v,ρ2,s2,sv,rfl,hR,_,_,hK2⟩:=hB;obtain ⟨jump,w3,s3,e,g1,g2,g3,g4⟩:=hR.endRange hK2;refine ⟨jump,w3,g1,?_⟩;rcases g4 with ⟨rfl,rfl⟩|⟨id,rfl,rfl⟩|⟨rfl,rfl⟩
   ·exact hQ .normal _ _ _ _ rfl g2 g3
   ·exact wpIn_exit (hQ _ _ _ _ _ rfl g2 g3)
   ·exact wpIn_ret (hQ _ _ _ _ _ rfl g2 g3)
  ·cases hk
 |exit id=>intro kp ρ s a w K Q h hk hQ;exact wpIn_exit (hQ _ _ _ _ _ rfl h hk)
 |ret=>intro kp ρ s a w K Q h hk hQ;exact wpIn_ret (hQ _ _ _ _ _ rfl h hk)
 |label l=>intro kp ρ s a w K Q h hk hQ;exact wpIn_label (hQ .normal _ _ _ _ rfl h hk)
 |_=>intro kp ρ s a w K Q h hk hQ;simp[exec]at hk
end
end Go.Vx
end
section
namespace Go.Vx
open Go.RowKit
variable [GT]
section
variable {P:Program} {A0:Nat->Prop} {w0:Base} {ρ:Places} {s s':St} {a:Act} {w w':World} {g:G} {R:Type} {r:R} {ops:Array Oper}
theorem y9T{A:Nat->Prop}:∀ {t:Ty} {x:t.den} {l:List Value},y6 P t A w x l->yD P A w ρ (y18 t x) (t.group l):=by
 intro t;induction t with
 |pair a b iha ihb =>
  intro x l h;simp only[y6]at h;obtain ⟨l1,l2,rfl,h1,h2⟩:=h;have e1:(l1++l2).take a.size=l1:=by rw[<- h1.length,take_left]
  have e2:(l1++l2).drop a.size=l2:=by rw[<- h1.length,drop_left]
  have ih:=ihb h2;simp only[y18,Ty.group,e1,e2];refine ⟨by simpa using ih.1,λ i sv hi=>?_⟩
  cases i with
  |zero=>simp at hi;subst hi;exact ⟨_,rfl,l1,h1,rfl⟩
  |succ i=>obtain ⟨v,h3,h4⟩:=ih.2 i sv (by simpa using hi);exact ⟨v,by simpa using h3,h4⟩
 |_=>intro x l h;exact ⟨rfl,λ i sv hi=>by simp[y18]at hi⟩
theorem yF0(n:Nat):∀ {t:Ty} {x:t.den},∀ sv∈y18 t x,sv.inn n:=by
 intro t;induction t with
 |pair a b iha ihb =>
  intro x sv hs;simp only[y18,mem_cons]at hs;rcases hs with rfl|hs
  ·trivial
  ·exact ihb sv hs
 |_=>intro x sv hs;simp[y18]at hs
theorem Rel.settleR(h:Rel P A0 w0 ρ s a w)(sv:SV):Rel P A0 w0 ρ (s.settleR sv) a w:=by
 unfold St.settleR;split
 ·refine Rel.freeze ?_ _;split
  ·exact Rel.settleCells _ h
  ·exact h
 ·exact h.settle _
theorem Rel.settleRes:∀ (l:List ResultVar) {s:St},Rel P A0 w0 ρ s a w->Rel P A0 w0 ρ (Vx.settleRes l s) a w
 |[],_,h=>h
 |.tmp t::l,_,h=>Rel.settleRes l (h.settleR _)
 |.cell _ _::l,_,h=>Rel.settleRes l (h.settleIn _)
def resV(P:Program)(a:Act)(w:World)(v:ResultVar)(u:Value):Prop:=
 (match v with
  |.tmp t=>(pure (a.tmps.getD t undef):Sem Value)
  |.cell p t=>do loadVar t (<- asAddr (a.tmps.getD p undef))).run P w=.ok u w
theorem y65(hT:yw P g.T)(h:Rel P A0 w0 ρ s a w){t ty:Nat}{ta:Ty}{x:ta.den}(hx:yDB g.T s t ty ta=some x):∃ l,y6 P ta (Av A0 ρ s.cH) w x l/\resV P a w (.cell t ty) (ta.wrap l):=by
 unfold yDB at hx;split at hx
 ·rename_i i β off hi hs;obtain ⟨rfl,hx⟩:=yG hx;split at hx
  ·rename_i u cells hch;have hc:=getD_some hch;obtain ⟨b,hb,hv⟩:∃ b,(ρ β).blk=some b/\a.tmps.getD t undef=.pointer (some ⟨b,off,none⟩):=by
    have:=h.get t;rw[hs]at this;exact this
   obtain ⟨b',vs,hb',h1,h2⟩:=yGt (h.cH β _ hc).1;rw[hb]at hb';cases hb';have h3:=y1s _ _ _ _ ((h2.drop off).take i.ty.size) hx;have h4:=h3.length;refine ⟨_,h3,?_⟩;have hl:=y2w (P:=P) (w:=w) (b:=b) (off:=off) (hT.fits hi) h4 (by
    have:=h1.sub off i.ty.size;rwa[zero_add]at this)
   unfold resV;dsimp only;rw[hv];simp only[Instr.loadAt,Instr.sureAddr,Sem.run_bind,Sem.run_pure,Result.andThen_ok]at hl;simp only[asAddr,Sem.run_bind,Sem.run_pure,Result.andThen_ok];exact hl
  ·cases hx
 ·cases hx
theorem yDA(hT:yw P g.T)(h:Rel P A0 w0 ρ s a w){t ty:Nat}{ta:Ty}{x:ta.den}(hx:yDB g.T s t ty ta=some x):∃ l,y6 P ta A0 w x l/\resV P a w (.cell t ty) (ta.wrap l):=by
 obtain ⟨l,h1,h2⟩:=y65 hT h hx;exact ⟨l,h1.mono (λ _ _ _=>rfl) (λ n _ hn=>.inl (.inl hn)),h2⟩
theorem yEt(hT:yw P g.T)(hE:∀ e∈g.E,FnOK P e)(h:Rel P A0 w0 ρ s a w):∀ {t:Ty} {l:List ResultVar} {y:t.den},yBs g.E g.T s t l=some y ->
  ∃ ly,y6 P t A0 w y ly/\(t.group ly).length=l.length/\∀ (i:Nat) (v:ResultVar) (u:Value),l[i]?=some v->(t.group ly)[i]?=some u->resV P a w v u:=by
 intro t;induction t with
 |unit =>
  intro l y hr;cases l with
  |nil=>exact ⟨[],rfl,rfl,λ i v u hv=>by simp at hv⟩
  |cons _ _=>simp[yBs]at hr
 |pair ta tb iha ihb =>
  intro l y hr;have step:∀ (v0:ResultVar) (l:List ResultVar) (x:ta.den) (y2:tb.den) (l1:List Value),y6 P ta A0 w x l1->resV P a w v0 (ta.wrap l1)->yBs g.E g.T s tb l=some y2 ->
    ∃ ly,y6 P (.pair ta tb) A0 w (x,y2) ly/\((Ty.pair ta tb).group ly).length=(v0::l).length/\∀ (i:Nat) (v:ResultVar) (u:Value),(v0::l)[i]?=some v->((Ty.pair ta tb).group ly)[i]?=some u->resV P a w v u:=by
   intro v0 l x y2 l1 h1 h2 hy2;obtain ⟨l2,h3,h4,h5⟩:=ihb hy2;have e1:(l1++l2).take ta.size=l1:=by rw[<- h1.length,take_left]
   have e2:(l1++l2).drop ta.size=l2:=by rw[<- h1.length,drop_left]
   refine ⟨l1++l2,⟨l1,l2,rfl,h1,h3⟩,by simp[Ty.group,e2,h4],λ i v u hv hu=>?_⟩
   simp only[Ty.group,e1,e2]at hu;cases i with
   |zero=>simp at hv hu;subst hv hu;exact h2
   |succ i=>exact h5 i v u (by simpa using hv) (by simpa using hu)
  cases l with
  |nil=>simp[yBs]at hr
  |cons v l =>
   cases v with
   |cell p ty =>
    obtain ⟨x,y2,hx,hy2,rfl⟩:=y1w (γ:=(Ty.pair ta tb).den) (f:=λ a b=>(a,b)) hr
    obtain ⟨l1,h1,h2⟩:=yDA hT h hx;exact step _ l x y2 l1 h1 h2 hy2
   |tmp k =>
    obtain ⟨x,y2,hx,hy2,rfl⟩:=y1w (γ:=(Ty.pair ta tb).den) (f:=λ a b=>(a,b)) hr
    obtain ⟨l1,h1,h2⟩:=y56 hE (A:=Av A0 ρ s.cH) (A':=A0) (λ n _ hn=>.inl (.inl hn)) (λ β ch hb=>⟨(h.cH β ch hb).1,λ b hb' hA=>by
     have h3:=(h.cH β ch hb).2 b hb';have h4:=h.dom b hA;omega⟩) (h.get k) hx
    refine step _ l x y2 l1 h1 ?_ hy2;unfold resV;rw[<- h2];rfl
 |_=>intro l y hr;simp[yBs]at hr
theorem y6k{F:ResultVar->Sem Value}:∀ (rs:List ResultVar) (l:List Value),l.length=rs.length->(∀ (i:Nat) (v:ResultVar) (u:Value),rs[i]?=some v->l[i]?=some u->(F v).run P w=.ok u w)->(rs.mapM F).run P w=.ok l w
 |[],l,hl,_=>by cases l with|nil=>rfl|cons _ _=>simp at hl
 |v::rs,[],hl,_=>by simp at hl
 |v::rs,u::l,hl,h=>by
  rw[List.mapM_cons];simp only[Sem.run_bind,h 0 v u rfl rfl,Sem.run_pure,Result.andThen_ok,y6k rs l (by simpa using hl) (λ i v' u' hv hu=>h (i+1) v' u' (by simpa using hv) (by simpa using hu))]
theorem y2K{fn:Func}{l:List Value}(hl:l.length=fn.results.toList.length)(h:∀ (i:Nat) (v:ResultVar) (u:Value),fn.results.toList[i]?=some v->l[i]?=some u->resV P a w v u):(results fn a.tmps).run P w=.ok (pack l) w:=by
 unfold results;rw[Array.mapM_eq_mapM_toList];simp only[Sem.run_bind,Sem.run_map];rw[y6k fn.results.toList l hl (λ i v u hv hu=>by have:=h i v u hv hu;unfold resV at this;cases v<;>exact this)]
 simp only[Result.andThen_ok];unfold pack;rcases l with _|⟨v,_|⟨u,l⟩⟩<;>simp
theorem yEk(hT:yw P g.T)(h:Rel P A0 w0 ρ s a w){v:ResultVar}{sv:SV}(hv:yPm g.T s v=some sv):∃ u,resV P a w v u/\yF P (Av A0 ρ s.cH) w ρ sv u/\sv.inn s.cH.length:=by
 cases v with
 |tmp t =>
  cases hv;exact ⟨a.tmps.getD t undef,by unfold resV;rfl,h.get t,h.inn t⟩
 |cell t ty =>
  simp only[yPm]at hv;split at hv
  ·rename_i i _;rw[map_eq_some_iff]at hv;obtain ⟨x,hx,rfl⟩:=hv;obtain ⟨l,h1,h2⟩:=y65 hT h hx;exact ⟨_,h2,⟨l,h1,rfl⟩,trivial⟩
  ·cases hv
theorem y6p(hT:yw P g.T)(h:Rel P A0 w0 ρ s a w):∀ {rs:List ResultVar} {svs:List SV},yH6 g.T s rs=some svs->∃ us,yD P (Av A0 ρ s.cH) w ρ svs us/\us.length=rs.length/\∀ (i:Nat) (v:ResultVar) (u:Value),rs[i]?=some v->us[i]?=some u->resV P a w v u
 |[],_,hh=>by cases hh;exact ⟨[],⟨rfl,λ i sv hi=>by simp at hi⟩,rfl,λ i v u hv=>by simp at hv⟩
 |v::rs,svs,hh=>by
  simp only[yH6,bind_eq_some_iff,map_eq_some_iff]at hh;obtain ⟨sv,h1,svs',h2,rfl⟩:=hh;obtain ⟨u,h3,h4,_⟩:=yEk hT h h1;obtain ⟨us,h5,h6,h7⟩:=y6p hT h h2;refine ⟨u::us,⟨by simp[h5.1],λ i sv' hi=>?_⟩,by simp[h6],λ i v' u' hv hu=>?_⟩
  ·cases i with
   |zero=>simp at hi;subst hi;exact ⟨u,rfl,h4⟩
   |succ i=>obtain ⟨v',h8,h9⟩:=h5.2 i sv' (by simpa using hi);exact ⟨v',by simpa using h8,h9⟩
  ·cases i with
   |zero=>simp at hv hu;subst hv hu;exact h3
   |succ i=>exact h7 i v' u' (by simpa using hv) (by simpa using hu)
theorem yJ2{l:List FuncId}{E:List Entry}{e:Entry}(h:e∈yMR l E):e∈E:=by
 unfold yMR at h;split at h
 ·exact h
 ·exact (List.mem_filter.1 h).1
theorem yC3(hT:yw P g.T)(h:Rel P A0 w0 ρ s a w){fn:Func}{p:SV×St}(hk:yFe g s fn.results.toList=some p) :
  ∃ u ρ',(results fn a.tmps).run P w=.ok u w/\Rel P A0 w0 ρ' p.2 a w/\yF P (Av A0 ρ' p.2.cH) w ρ' p.1 u/\p.1.inn p.2.cH.length:=by
 unfold yFe at hk;split at hk;rotate_left
 ·cases hk
 rename_i t ty hrs;split at hk;rotate_left
 ·cases hk
 rename_i i β off hi hs;split at hk;rotate_left
 ·cases hk
 rename_i u cells hch;obtain ⟨⟨hag,hfit⟩,hk⟩:=yG hk;cases hk;have hc:=getD_some hch;obtain ⟨b,hb,hv⟩:∃ b,(ρ β).blk=some b/\a.tmps.getD t undef=.pointer (some ⟨b,off,none⟩):=by
  have:=h.get t;rw[hs]at this;exact this
 obtain ⟨b',vs,hb',h1,h2⟩:=yGt (h.cH β _ hc).1;rw[hb]at hb';cases hb';have h3:=(h2.drop off).take i.ty.size;have h4:((vs.drop off).take i.ty.size).length=i.ty.size:=by
  have:=h2.1;rw[length_take,length_drop];omega
 have hl:=y2w (P:=P) (w:=w) (b:=b) (off:=off) (hT.fits hi) h4 (by
  have:=h1.sub off i.ty.size;rwa[zero_add]at this)
 have hN:=h.newChunk (w':=w) (.rcd i.ty ((cells.drop off).take i.ty.size)) ⟨none,0,0,[],(vs.drop off).take i.ty.size,[]⟩ (Below.refl _ _) (λ b hb=>by cases hb)
  (λ sv hsv=>h.cN β _ hc sv (List.mem_of_mem_drop (List.mem_of_mem_take hsv))) (λ A hA _=>⟨rfl,hag,h3.1,λ j sv hj=>by
   obtain ⟨v,hv,hr⟩:=h3.2 j sv hj;exact ⟨v,hv,hr.mono (λ _ _ _=>rfl) hA⟩⟩)
 refine ⟨_,_,y2K (l:=[i.ty.wrap ((vs.drop off).take i.ty.size)]) (by rw[hrs];rfl) (λ j v u hv' hu=>?_),hN,?_,?_⟩
 ·rw[hrs]at hv';cases j with
  |zero =>
   rw[getElem?_cons_zero,Option.some.injEq]at hv' hu;subst hv' hu;unfold resV;dsimp only;rw[hv];simp only[Instr.loadAt,Instr.sureAddr,Sem.run_bind,Sem.run_pure,Result.andThen_ok]at hl;simp only[asAddr,Sem.run_bind,Sem.run_pure,Result.andThen_ok];exact hl
  |succ j=>simp at hv'
 ·show i.ty.wrap _=Value.agg (Places.set ρ s.cH.length _ s.cH.length).vals.toArray
  rw[Places.set_self];simp[Ty.wrap,hag]
 ·show s.cH.length < (s.cH++[_]).length
  simp
theorem yHo(hT:yw P g.T)(hE:∀ e∈g.E,FnOK P e)(h:Rel P A0 w0 ρ s a w){rc:Bool}{fn:Func}{K:SV->St->Option R}(hk:retK g rc fn s K=some r) :
  ∃ u s' sv ρ',(results fn a.tmps).run P w=.ok u w/\Rel P A0 w0 ρ' s' a w/\yF P (Av A0 ρ' s'.cH) w ρ' sv u/\sv.inn s'.cH.length/\K sv s'=some r:=by
 unfold retK at hk;split at hk
 ·obtain ⟨p,hp,hk⟩:=bind_eq_some_iff.1 hk;obtain ⟨u,ρ',h1,h2,h3,h4⟩:=yC3 hT h hp;exact ⟨u,_,_,ρ',h1,h2,h3,h4,hk⟩
 split at hk
 ·rename_i hrs;refine ⟨_,s,_,ρ,y2K (l:=[]) (by rw[hrs];rfl) (λ i v u hv hu=>by simp at hu),h,(show yF P (Av A0 ρ s.cH) w ρ (.tup .unit ()) (pack [])from ⟨[],rfl,rfl⟩),trivial,hk⟩
 ·rename_i t hrs;refine ⟨_,s,_,ρ,y2K (l:=[a.tmps.getD t undef]) (by rw[hrs];rfl) (λ i v u hv hu=>?_),h,h.get t,h.inn t,hk⟩
  rw[hrs]at hv;cases i with
  |zero=>rw[getElem?_cons_zero,Option.some.injEq]at hv hu;subst hv hu;unfold resV;rfl
  |succ i=>simp at hv
 ·simp only[bind_eq_some_iff]at hk;obtain ⟨ty,_,svs,h2,y,h3,h4⟩:=hk;have hS:=Rel.settleRes fn.results.toList h;generalize Vx.settleRes fn.results.toList s=s1 at *;obtain ⟨us,h5,h6,h7⟩:=y6p hT hS h2;obtain ⟨l,h8,h9⟩:=y2Z hE (A':=Av A0 ρ s1.cH) (cs:=[]) (λ _ _ h=>h) (λ β ch hb=>by simp at hb) h5 h3
  obtain ⟨h10,h11⟩:=y8y (ρ:=ρ) (n:=s1.cH.length) h8;refine ⟨_,s1,_,ρ,y2K (l:=us) h6 h7,hS,?_,h11,h4⟩;rw[h9]at h10;exact h10
theorem yG6{rc:Bool}{fn:Func}(K:SV->St->Option R):retK g rc fn s K=(retK g rc fn s λ sv s=>some (sv,s)).bind λ p=>K p.1 p.2:=by
 unfold retK;split
 ·cases yFe g s fn.results.toList<;>rfl
 split
 ·rfl
 ·rfl
 ·simp only[bind_assoc,bind_some]
theorem yC6:∀ {I:List Inl} {f:FuncId} {e:Inl},yMt I f=some e->e∈I/\e.f=f
 |[],_,_,h=>by cases h
 |i::I,f,e,h=>by
  unfold yMt at h;split at h
  ·rename_i hb;cases h;exact ⟨mem_cons_self ..,by simpa using hb⟩
  ·obtain ⟨h1,h2⟩:=yC6 h;exact ⟨mem_cons_of_mem _ h1,h2⟩
def yKl(P:Program)(f:FuncId)(e0:TypeId):Prop:=
 y3g P f/\∀ (w:World) (b:Nat) (p v:Value),w.heap[b]?=some (.cells #[p,v] e0 (0,0))->(p=.pointer none\/p=.pointer (some ⟨b,0,none⟩)) ->
  Calls P f #[.pointer (some ⟨b,0,none⟩)] w λ ex w'=>ex=.returned (.tuple #[])/\w'.heap[b]?=some (.cells #[.pointer (some ⟨b,0,none⟩),v] e0 (0,0)) /\
   (∀ n,n≠b->w'.heap[n]?=w.heap[n]?)/\w'.heap.size=w.heap.size/\w'.os=w.os/\w'.tape=w.tape/\w'.output=w.output
def yOW(P:Program)(f:FuncId):Prop:=
 y3g P f/\∀ (w:World) (blk:Option Nat) (cap:Nat) (xs:List Int) (rest:List Value) (e:TypeId),(blk=none->xs=[]/\cap=0) ->
  (∀ b,blk=some b->w.heap[b]?=some (.cells (xs.map (Value.int .i64)++rest).toArray e (0,0)))->xs.length<=memMax ->
  Calls P f #[.slice (blk.map λ b=>⟨b,0,none⟩) xs.length cap] w λ ex w'=>ex=.returned (.tuple #[])/\∃ w1:World,w1.heap.size=w.heap.size/\(∀ n,some n≠blk->w1.heap[n]?=w.heap[n]?) /\
   (∀ b,blk=some b->w1.heap[b]?=some (.cells ((yST xs).map (Value.int .i64)++rest).toArray e (0,0)))/\w1.os=w.os/\w1.tape=w.tape/\w1.output=w.output/\Below w1.heap.size w1 w'
def ySQ(P:Program)(f:FuncId):LibK->Prop
 |.copy e0=>yKl P f e0
 |.sort=>yOW P f
def y4p(P:Program)(i:Inl):Prop:=P.funcs[i.f]?=some i.fn/\(i.fn.name == "runtime.NumGoroutine")=false/\∀ e0,i.lib=some e0->ySQ P i.f e0
theorem yLN{e0:Nat}{svs:List SV}(K:SV->St->Option R):yHV e0 svs s K=(yHV e0 svs s λ sv s=>some (sv,s)).bind λ p=>K p.1 p.2:=by
 unfold yHV;split
 ·split
  ·split<;>rfl
  ·rfl
 ·rfl
theorem yFP{A0:Nat->Prop}{w0:Base}{f:FuncId}{e0:Nat}(hO:yKl P f e0)(h:Rel P A0 w0 ρ s a w){svs:List SV}{vs:List Value}(hv:yD P (Av A0 ρ s.cH) w ρ svs vs){K:SV->St->Option R}{r:R}(hk:yHV e0 svs s K=some r) :
  y3g P f/\Calls P f vs.toArray w (Back P A0 w0 a K r):=by
 refine ⟨hO.1,?_⟩;unfold yHV at hk;split at hk
 ·rename_i β;obtain ⟨v0,hv0,b,hb,rfl⟩:=hv.2 0 _ rfl;have hvs:vs=[.pointer (some ⟨b,0,none⟩)]:=by
   have hl:=hv.1;match vs,hl,hv0 with
   |[x],_,h0=>simp at h0;rw[h0]
  subst hvs;split at hk
  ·rename_i t γ e sv hch;obtain ⟨hcond,hk2⟩:=yG hk;clear hk;obtain ⟨rfl,rfl⟩:=hcond;have hc:=getD_some hch;obtain ⟨b',cs,e',hb',hg,⟨hlen,hpe⟩,hcr⟩:=(h.cH γ _ hc).1;rw[hb]at hb';cases hb';obtain ⟨p,hp,he,b2,hb2,hpp⟩:=hcr 0 _ rfl;rw[hb]at hb2;cases hb2;obtain ⟨v,hv1,hvr⟩:=hcr 1 _ rfl;have hcs:cs=#[p,v]:=by
    apply Array.ext
    ·simpa using hlen
    ·intro i h1 h2;match i,h2 with
     |0,_=>simpa[Array.getElem?_eq_getElem h1]using hp
     |1,_=>simpa[Array.getElem?_eq_getElem h1]using hv1
   subst hcs;rw[he]at hpe;subst hpe;refine (hO.2 w b p v hg hpp).mono λ ex w' ⟨h1,h2,h3,h4,h5,h6,h7⟩=>?_
   have hW:=h.write (w':=w') (ch':=.box t [.mP γ e,sv]) hc hb h3 h4 h5 h6 h7 (h.cN γ _ hc) (λ A hA=>by
    refine ⟨b,_,e,hb,h2,⟨rfl,he⟩,λ i x hi=>?_⟩
    match i,hi with
    |0,hi=>simp at hi;subst hi;exact ⟨_,rfl,he,b,hb,.inr rfl⟩
    |1,hi =>
     simp at hi;subst hi;have hAb:Av A0 ρ s.cH b:=.inr ⟨γ,_,hc,hb⟩;exact ⟨v,rfl,hvr.mono (λ n hn hnA=>h3 n λ e=>hnA (e ▸ hAb)) (λ n _ hn=>(hA n).1 hn)⟩
    |i+2,hi=>simp at hi)
   have e1:s.cH.set γ (some (.box t [.mP γ e,sv]))=s.cH:=by
    apply ext_getElem?;intro n;rw[getElem?_set];split
    ·rename_i hn;subst hn;split
     ·exact hc.symm
     ·rename_i hl;rw[getElem?_eq_none (by omega)]at hc
      cases hc
    ·rfl
   rw[e1]at hW;exact ⟨_,ρ,s,.tup .unit (),h1,hW,⟨[],rfl,rfl⟩,trivial,hk2⟩
  ·cases hk
 ·cases hk
theorem yLj{svs:List SV}(K:SV->St->Option R):yLL svs s K=(yLL svs s λ sv s=>some (sv,s)).bind λ p=>K p.1 p.2:=rfl
theorem yNY{l:LibK}{svs:List SV}(K:SV->St->Option R):libK l svs s K=(libK l svs s λ sv s=>some (sv,s)).bind λ p=>K p.1 p.2:=by
 cases l with
 |copy e0=>exact yLN K
 |sort=>exact yLj (svs:=svs) (s:=s) K
theorem yEG{A0:Nat->Prop}{w0:Base}{f:FuncId}(hO:yOW P f)(h:Rel P A0 w0 ρ s a w){svs:List SV}{vs:List Value}(hv:yD P (Av A0 ρ s.cH) w ρ svs vs){K:SV->St->Option R}{r:R}(hk:yLL svs s K=some r) :
  y3g P f/\Calls P f vs.toArray w (Back P A0 w0 a K r):=by
 refine ⟨hO.1,?_⟩;unfold yLL at hk;cases hk
theorem yI6{A0:Nat->Prop}{w0:Base}{f:FuncId}{l:LibK}(hO:ySQ P f l)(h:Rel P A0 w0 ρ s a w){svs:List SV}{vs:List Value}(hv:yD P (Av A0 ρ s.cH) w ρ svs vs){K:SV->St->Option R}{r:R}(hk:libK l svs s K=some r) :
  y3g P f/\Calls P f vs.toArray w (Back P A0 w0 a K r):=by
 cases l with
 |copy e0=>exact yFP hO h hv hk
 |sort=>exact yEG hO h hv hk
theorem yDv{s0:St}{e:Exit}(K:SV->St->Option R):endRound s0 e s K=(endRound s0 e s λ sv s=>some (sv,s)).bind λ p=>K p.1 p.2:=by
 unfold endRound;simp only[bind_assoc,bind_some]
theorem yBf(I:List Inl)(fuel:Nat)(d:Nat):y2j (inl g I fuel d):=by
 induction d with
 |zero=>intro R n svs s K;rfl
 |succ d ihd =>
  intro R n svs s K;unfold inl;cases n with
  |fn n =>
   dsimp only;split
   ·rfl
   split
   ·exact yNY K
   ·split
    ·rfl
    ·conv=>rhs;rw[y4k ihd]
     rw[y4k ihd (R:=R),bind_assoc];congr 1
     funext p
     obtain ⟨e,s'⟩:=p;have key:∀ (rc:Bool) (fn:Func),(if s'.leaves then retK g rc fn { s' with nmk:=0 } λ sv s''=>K sv (y3h s'' s)else none)=(if s'.leaves then retK g rc fn { s' with nmk:=0 } λ sv s''=>some (sv,y3h s'' s)else none).bind λ p=>K p.1 p.2:=by
      intro rc fn;split
      ·conv=>rhs;rw[yG6]
       rw[yG6 (R:=R),bind_assoc];rfl
      ·rfl
     cases e with
     |normal=>exact key _ _
     |ret=>exact key _ _
     |_=>rfl
  |round info =>
   dsimp only;conv=>rhs;rw[y4k ihd]
   rw[y4k ihd (R:=R),bind_assoc];congr 1
   funext p
   obtain ⟨e,s1⟩:=p;cases e with
   |normal =>
    dsimp only;rw[bind_assoc];congr 1
    funext β
    rw[bind_assoc];congr 1
    funext s2
    conv=>rhs;rw[y4k ihd]
    rw[y4k ihd (R:=R),bind_assoc];congr 1
    funext p
    exact yDv K
   |_=>rfl
def Base.enter(w0:Base)(a:Act)(ms:List Nat)(ro:Option Nat):Base:=
 { w:=w0.w,ext:=a.tmps.toList++w0.ext,infos:=w0.infos,ro:=ro,marks:=ms++w0.marks,rounds:=w0.ro.toList++w0.rounds }
theorem yA7{A0:Nat->Prop}{w0:Base}(h:Rel P A0 w0 ρ s a w){svs:List SV}{vs:List Value}(hv:yD P (Av A0 ρ s.cH) w ρ svs vs)(hn:∀ sv∈svs,sv.inn s.cH.length)(n:Nat)(ro:Option Nat)(hro:∀ l,ro=some l->∃ r:Loop,w.heap[l]?=some (.loop r)) :
  ∃ ms:List Nat,a.defers=ms.map markD/\(s.nmk=0->ms=[])/\(ms++w0.marks).Nodup/\Rel P A0 (w0.enter a ms ro) ρ (y5W s svs n ro.isSome) { tmps:=vs.toArray++Array.replicate (n - vs.toArray.size) undef,defers:=[] } w:=by
 obtain ⟨ms,⟨m1,m2,m3⟩,m4⟩:=h.defers;refine ⟨ms,m1,m2,m3,by simp[y5W,St.slots_of,hv.1],λ i sv hi=>?_,h.cH,h.inj,λ i sv hi=>?_,h.cN,h.below,h.dom,⟨[],⟨rfl,λ _=>rfl,by simpa[Base.enter]using m3⟩,λ r hr=>?_⟩,⟨h.dep.1,rfl⟩,h.lpi,λ l hl=>?_,h.glob,by simp[y5W,Base.enter,h.kZ,h.size],λ i sv hi=>?_,λ i sv hi=>?_,h.subs⟩
 ·simp only[y5W,St.slots_of]at hi;rw[getElem?_append]at hi;split at hi
  ·rename_i hlt;obtain ⟨v,h1,h2⟩:=hv.2 i sv hi;have e1:(vs.toArray++Array.replicate (n - vs.toArray.size) undef).getD i undef=v:=by
    rw[Array.getD_eq_getD_getElem?,Array.getElem?_append_left (by simp[hv.1];omega)]
    simp[h1]
   rw[e1];exact h2
  ·rw[getElem?_replicate]at hi;split at hi
   ·cases hi;trivial
   ·cases hi
 ·simp only[y5W,St.slots_of]at hi;rw[getElem?_append]at hi;split at hi
  ·exact hn sv (mem_of_getElem? hi)
  ·rw[getElem?_replicate]at hi;split at hi
   ·cases hi;trivial
   ·cases hi
 ·rcases hr with hr|hr
  ·cases hr
  ·simp only[Base.enter,mem_append]at hr;exact m4 r hr
 ·rcases hl with hl|hl
  ·exact hro l hl
  ·simp only[Base.enter,mem_append,mem_toList]at hl;exact h.round l hl
 ·simp only[y5W,Base.enter]at hi ⊢;rw[getElem?_append]at hi;rw[getD_eq_getElem?_getD,getElem?_append,Array.length_toList,<- h.size];split at hi
  ·rename_i hlt;rw[if_pos hlt,Array.getElem?_toList,<- Array.getD_eq_getD_getElem?];exact h.slots i sv hi
  ·rename_i hlt;rw[if_neg hlt,<- getD_eq_getElem?_getD];exact h.kS _ sv hi
 ·simp only[y5W,St.slots_of]at hi;rw[getElem?_append]at hi;split at hi
  ·exact h.names i sv hi
  ·exact h.kN _ sv hi
theorem y9e{A0:Nat->Prop}{w0:Base}{s0:St}{a0 a:Act}{ms:List Nat}{ro:Option Nat}(hm:s0.slots.length=a0.tmps.size)(hd:a0.defers=ms.map markD)(hn:s0.nmk=0->ms=[])(hnd:(ms++w0.marks).Nodup)(hrn:s0.rnd=w0.ro.isSome)
  (h:Rel P A0 (w0.enter a0 ms ro) ρ s a w):Rel P A0 w0 ρ (y3h s s0) a0 w:=by
 have hk:=h.kZ;simp only[Base.enter,length_append,Array.length_toList]at hk;obtain ⟨ms',_,m4⟩:=h.defers;refine ⟨by simp[y3h,St.slots_of,hk,hm],λ i sv hi=>?_,h.cH,h.inj,λ i sv hi=>?_,h.cN,h.below,h.dom,⟨ms,⟨hd,hn,hnd⟩,λ r hr=>m4 r (.inr (by simpa[Base.enter]using hr))⟩,⟨h.dep.1,hrn⟩,h.lpi,λ l hl=>h.round l (.inr (by simpa[Base.enter,mem_toList]using hl)),h.glob,by simp[y3h,hk,hm],λ i sv hi=>?_,λ i sv hi=>?_,h.subs⟩
 ·simp only[y3h,St.slots_of,getElem?_take]at hi;split at hi
  ·rename_i hlt;have:=h.kS i sv hi;simp only[Base.enter,getD_eq_getElem?_getD,getElem?_append,Array.length_toList]at this;rw[if_pos (by omega),Array.getElem?_toList,<- Array.getD_eq_getD_getElem?]at this
   exact this
  ·cases hi
 ·simp only[y3h,St.slots_of,getElem?_take]at hi;split at hi
  ·exact h.kN i sv hi
  ·cases hi
 ·simp only[y3h,getElem?_drop]at hi;have:=h.kS _ sv hi;simp only[Base.enter,getD_eq_getElem?_getD,getElem?_append,Array.length_toList]at this;rw[if_neg (by omega),hm,Nat.add_sub_cancel_left,<- getD_eq_getElem?_getD]at this
  exact this
 ·simp only[y3h,getElem?_drop]at hi;exact h.kN _ sv hi
structure Shut (ms:List Nat) (w w':World):Prop where
 os:w'.os=w.os
 tape:w'.tape=w.tape
 output:w'.output=w.output
 size:w'.heap.size=w.heap.size
 other:∀ n,n ∉ ms->w'.heap[n]?=w.heap[n]?
 were:∀ r,r∈ms->w.heap[r]?=some (.deferred (some []))
variable {ms:List Nat}
theorem Shut.same(h:Shut ms w w'){n:Nat}(hn:w.heap[n]?≠some (.deferred (some []))):w'.heap[n]?=w.heap[n]?:=h.other n λ hm=>hn (h.were n hm)
theorem y4A(h:Shut ms w w'){b off:Nat}{l:List Value}(hc:yX w b off l):yX w' b off l:=λ j v hj=>by
 have h1:=hc j v hj;have hne:w.heap[b]?≠some (.deferred (some [])):=by
  intro hd;simp[World.cell?,hd]at h1
 rw[World.cell?_of_block (w:=w) (a:=⟨b,off+j,none⟩) (h.same hne)];exact h1
theorem y6.shut(h:Shut ms w w'){A:Nat->Prop}:∀ {t:Ty} {x:t.den} {l:List Value},t.noFn=true->y6 P t A w x l->y6 P t A w' x l:=by
 have hsz:=h.size;intro t;induction t with
 |pair a b iha ihb =>
  intro x l hn hc;simp only[Ty.noFn,and_eq_true]at hn;simp only[y6]at hc ⊢;obtain ⟨l1,l2,rfl,h1,h2⟩:=hc;exact ⟨l1,l2,rfl,iha hn.1 h1,ihb hn.2 h2⟩
 |slice t ih =>
  intro x l hn hc;simp only[y6]at hc ⊢;obtain ⟨p,c,rfl,h1,h2,h3⟩:=hc;refine ⟨p,c,rfl,h1,h2,λ i y hy=>?_⟩
  obtain ⟨a,l',rfl,hs,hnA,hlt,hcc,hl⟩:=h3 i y hy;exact ⟨a,l',rfl,hs,hnA,by rw[hsz];exact hlt,y4A h hcc,ih hn hl⟩
 |ref t ih =>
  intro x l hn hc;simp only[y6]at hc ⊢;obtain ⟨a,l',rfl,hs,hnA,hlt,hcc,hl⟩:=hc;exact ⟨a,l',rfl,hs,hnA,by rw[hsz];exact hlt,y4A h hcc,ih hn hl⟩
 |arr n t ih =>
  intro x l hn hc;simp only[y6]at hc ⊢;exact ⟨hc.1,hc.2.1,λ i y hy=>ih hn (hc.2.2 i y hy)⟩
 |nS t ih =>
  intro x l hn hc;simp only[y6]at hc ⊢;obtain ⟨p,c,rfl,h0,h4,h1,h2,h3⟩:=hc;refine ⟨p,c,rfl,h0,h4,h1,h2,λ i y hy=>?_⟩
  obtain ⟨a,l',rfl,hs,hnA,hlt,hcc,hl⟩:=h3 i y hy;exact ⟨a,l',rfl,hs,hnA,by rw[hsz];exact hlt,y4A h hcc,ih hn hl⟩
 |map k v ihk ihv =>
  intro x l hn hc;simp only[Ty.noFn,and_eq_true]at hn;simp only[y6]at hc ⊢;rcases hc with hc|⟨r,ms,clock,rfl,hnA,hr,hs,he⟩
  ·exact .inl hc
  refine .inr ⟨r,ms,clock,rfl,hnA,(h.same (by rw[hr];intro hd;cases hd)).trans hr,hs,λ i y hy=>?_⟩
  obtain ⟨e,lv,h1,h2,h3,h4⟩:=he i y hy;exact ⟨e,lv,h1,h2,ihv hn.2 h3,h4⟩
 |func a b =>
  intro x l _ hc;simp only[y6]at hc ⊢;rcases hc with hc|⟨f,first,caps,S,rfl,he,hS,hr⟩
  ·exact .inl hc
  have hb:∀ n,S n->w'.heap[n]?=w.heap[n]?:=λ n hn=>h.same λ hd=>(hS n hn).2.2 _ hd
  refine .inr ⟨f,first,caps,S,rfl,he,λ n hn=>⟨(hS n hn).1,by rw[hsz];exact (hS n hn).2.1,λ d hd=>(hS n hn).2.2 d ((hb n hn).symm.trans hd)⟩,λ A2 w2 hG2 h2 hA2=>?_⟩
  exact hr A2 w2 hG2 (λ n hn=>(h2 n hn).trans (hb n hn)) hA2
 |_=>intro x l _ hc;exact hc
theorem yg.shut(h:Shut ms w w'){A:Nat->Prop}:∀ {cs:List Cap} {vs:List Value},cs.all Cap.noFn=true->yg P A w ρ cs vs->yg P A w' ρ cs vs
 |[],[],_,_=>trivial
 |[],_::_,_,hr=>hr
 |_::_,[],_,hr=>hr
 |c::cs,v::vs,hn,hr=>by
  simp only[List.all_cons,and_eq_true]at hn;refine ⟨?_,yg.shut h hn.2 hr.2⟩;have h1:=hr.1;cases c with
  |box β=>exact h1
  |val t x=>obtain ⟨l,hl,e⟩:=h1;exact ⟨l,hl.shut h hn.1,e⟩
theorem yF.shut(h:Shut ms w w'){A:Nat->Prop}{sv:SV}{v:Value}(hn:sv.noFn=true)(hr:yF P A w ρ sv v):yF P A w' ρ sv v:=by
 cases sv with
 |val t x=>obtain ⟨l,hl,e⟩:=hr;exact ⟨l,hl.shut h hn,e⟩
 |tup t x=>obtain ⟨l,hl,e⟩:=hr;exact ⟨l,hl.shut h hn,e⟩
 |xV t x=>obtain ⟨l,hl,e⟩:=hr;exact ⟨l,hl.shut h hn,e⟩
 |clo f caps=>obtain ⟨vs,e,hc⟩:=hr;exact ⟨vs,e,hc.shut h hn⟩
 |_=>exact hr
theorem yB.shut(h:Shut ms w w'){A:Nat->Prop}{p:Place}{ch:Chunk}(hn:Chunk.noFn (some ch)=true)(hr:yB P A w ρ p ch):yB P A w' ρ p ch:=by
 cases ch with
 |box t cells =>
  obtain ⟨b,vs,e,hb,h1,h2,h3⟩:=hr;exact ⟨b,vs,e,hb,(h.same (by rw[h1];intro hd;cases hd)).trans h1,h2,λ i sv hi=>let ⟨v,hv,hs⟩:=h3 i sv hi;⟨v,hv,hs.shut h (all_eq_true.1 hn sv (mem_of_getElem? hi))⟩⟩
 |arr e t xs nn =>
  obtain ⟨h2,hnn,h1⟩:=hr;refine ⟨h2,hnn,?_⟩;rcases h1 with h1|⟨b,vs,hb,h1,h3,h4,h5,h6⟩
  ·exact .inl h1
  ·exact .inr ⟨b,vs,hb,(h.same (by rw[h1];intro hd;cases hd)).trans h1,h3,h4,h5,λ i x hi=>(h6 i x hi).shut h hn⟩
 |mp k v es =>
  simp only[Chunk.noFn,and_eq_true]at hn;obtain ⟨b,ms,c,hb,h1,h2,h3⟩:=hr;refine ⟨b,ms,c,hb,(h.same (by rw[h1];intro hd;cases hd)).trans h1,h2,λ i x hi=>?_⟩
  obtain ⟨e,lv,h4,h5,h6,h7⟩:=h3 i x hi;exact ⟨e,lv,h4,h5,h6.shut h hn.2,h7⟩
 |it bs q =>
  obtain ⟨b,n,hb,h1,h2⟩:=hr;exact ⟨b,n,hb,(h.same (by rw[h1];intro hd;cases hd)).trans h1,h2⟩
 |lp i info cells st =>
  obtain ⟨b,r,hb,h1,h2,h3,h4⟩:=hr;exact ⟨b,r,hb,(h.same (by rw[h1];intro hd;cases hd)).trans h1,h2,h3,λ i sv hi=>let ⟨v,hv,hs⟩:=h4 i sv hi;⟨v,hv,hs.shut h (all_eq_true.1 hn sv (mem_of_getElem? hi))⟩⟩
 |mps k e u es hole =>
  simp only[Chunk.noFn,and_eq_true]at hn;obtain ⟨b,ms,c,hb,h1,h2,h3,h4⟩:=hr;refine ⟨b,ms,c,hb,(h.same (by rw[h1];intro hd;cases hd)).trans h1,h2,h3,λ i x hi=>?_⟩
  obtain ⟨en,o,h5,h6,h7,h8⟩:=h4 i x hi;refine ⟨en,o,h5,h6,h7,?_⟩;rcases h8 with h8|⟨h8,cap,h9,h10⟩
  ·exact .inl h8
  ·refine .inr ⟨h8,cap,h9,?_⟩;rcases h10 with h10|⟨n,vs,ho,g1,g2,g3,g4,g5⟩
   ·exact .inl h10
   ·exact .inr ⟨n,vs,ho,(h.same (by rw[g1];intro hd;cases hd)).trans g1,g2,g3,g4,λ i x hi=>(g5 i x hi).shut h hn.2⟩
 |rcd t cells =>
  obtain ⟨h1,h2,h3,h4⟩:=hr;exact ⟨h1,h2,h3,λ i sv hi=>let ⟨v,hv,hs⟩:=h4 i sv hi;⟨v,hv,hs.shut h (all_eq_true.1 hn sv (mem_of_getElem? hi))⟩⟩
 |nst e t o e' u xs =>
  simp only[Chunk.noFn,and_eq_true]at hn;obtain ⟨h1,h2,h3⟩:=hr;refine ⟨h1,h2,?_⟩;rcases h3 with h3|⟨b,vs,hb,h4,h5,h6,h7,h8⟩
  ·exact .inl h3
  ·refine .inr ⟨b,vs,hb,(h.same (by rw[h4];intro hd;cases hd)).trans h4,h5,h6,h7,λ i x hi=>?_⟩
   obtain ⟨q,h9,x0,l0,ys,g1,g2,g3,g4,cap,g5,g6⟩:=h8 i x hi;refine ⟨q,h9,x0,l0,ys,g1.shut h hn.1,g2,g3,g4,cap,g5,?_⟩;rcases g6 with g6|⟨n,vs',ho,k1,k2,k3,k4,k5⟩
   ·exact .inl g6
   ·exact .inr ⟨n,vs',ho,(h.same (by rw[k1];intro hd;cases hd)).trans k1,k2,k3,k4,λ i x hi=>(k5 i x hi).shut h hn.2⟩
theorem Rel.taken(h:Rel P A0 w0 ρ s a w)(hl:s.leaves=true){fn:Func}{R':Ending->World->Prop}
  (hR:∀ w',Rel P A0 w0 ρ { s with nmk:=0 } { a with defers:=[] } w'->∃ v,(results fn a.tmps).run P w'=.ok v w'/\R' (.returned v) w') :
  LeavesInM (y3V none) 0 P fn a.tmps R' a.defers .returning w:=by
 obtain ⟨ms,⟨m1,m2,m3⟩,m4⟩:=h.defers;rw[m1];have key:∀ (l gone:List Nat) (w1:World),ms=gone++l->(∀ r,r∈l\/r∈w0.marks->w1.heap[r]?=some (.deferred (some [])))->Shut ms w w1->(gone=[]->w1=w) ->
   LeavesInM (y3V none) 0 P fn a.tmps R' (l.map markD) .returning w1:=by
  intro l;induction l with
  |nil =>
   intro gone w1 hms hmk hs heq;rw[append_nil]at hms;subst hms;have hdef:∃ ms:List Nat,(({ a with defers:=[] }:Act).defers=ms.map markD/\(0=0->ms=[])/\(ms++w0.marks).Nodup)/\∀ r,r∈ms\/r∈w0.marks->w1.heap[r]?=some (.deferred (some []))/\w0.w.heap.size<=r:=
    ⟨[],⟨rfl,λ _=>rfl,by simpa using (List.nodup_append.1 m3).2.1⟩,λ r hr=>⟨hmk r (by simpa using hr),(m4 r (.inr (by simpa using hr))).2⟩⟩
   have hR1:Rel P A0 w0 ρ { s with nmk:=0 } { a with defers:=[] } w1:=by
    rcases (or_eq_true _ _ ▸ hl:(s.nmk == 0)=true\/(s.slots.all SV.noFn && s.kept.all SV.noFn && s.cH.all Chunk.noFn)=true)with h0|h0
    ·have e:=heq (m2 (by simpa using h0))
     subst e;exact ⟨h.size,h.slots,h.cH,h.inj,h.names,h.cN,h.below,h.dom,hdef,h.dep,h.lpi,h.round,h.glob,h.kZ,h.kS,h.kN,h.subs⟩
    ·simp only[and_eq_true]at h0;obtain ⟨⟨n1,n2⟩,n3⟩:=h0;refine ⟨h.size,λ i sv hi=>(h.slots i sv hi).shut hs (all_eq_true.1 n1 sv (mem_of_getElem? hi)),λ β ch hb=>⟨(h.cH β ch hb).1.shut hs (all_eq_true.1 n3 _ (mem_of_getElem? hb)),(h.cH β ch hb).2⟩,h.inj,h.names,h.cN,
      ⟨hs.os.trans h.below.os,hs.tape.trans h.below.tape,hs.output.trans h.below.output,hs.size ▸ h.below.size,λ n hn=>?_⟩,h.dom,hdef,h.dep,h.lpi,λ l hl=>?_,h.glob,h.kZ,λ i sv hi=>(h.kS i sv hi).shut hs (all_eq_true.1 n2 sv (mem_of_getElem? hi)),h.kN,h.subs⟩
     ·exact (hs.other n λ hm=>absurd hn (Nat.not_lt.2 (m4 n (.inl hm)).2)).trans (h.below.block n hn)
     ·obtain ⟨rc,hrc⟩:=h.round l hl;exact ⟨rc,(hs.same (by rw[hrc];intro hd;cases hd)).trans hrc⟩
   obtain ⟨v,h1,h2⟩:=hR w1 hR1;exact ⟨v,h1,h2⟩
  |cons r l ih =>
   intro gone w1 hms hmk hs heq;have hr:=hmk r (.inl (mem_cons_self ..));have hnd:(r::l++w0.marks).Nodup:=by
    rw[hms,append_assoc]at m3;exact (List.nodup_append.1 m3).2.1
   rw[List.cons_append,nodup_cons]at hnd;refine ⟨(by intro hc;cases hc),.inl ⟨r,_,rfl,run_takeDeferred hr,ih (gone++[r]) _ (by rw[hms];simp) (λ q hq=>?_) ?_ (λ hc=>by simp at hc)⟩⟩
   ·have hqr:q≠r:=by
     rintro rfl
     rcases hq with hq|hq
     ·exact hnd.1 (mem_append.2 (.inl hq))
     ·exact hnd.1 (mem_append.2 (.inr hq))
    rw[World.putObj_heap_other hqr];rcases hq with hq|hq
    ·exact hmk q (.inl (mem_cons_of_mem _ hq))
    ·exact hmk q (.inr hq)
   ·refine ⟨hs.os,hs.tape,hs.output,by simp[World.putObj,hs.size],λ n hn=>?_,hs.were⟩
    have hnr:n≠r:=by
     rintro rfl
     exact hn (by rw[hms];simp)
    rw[World.putObj_heap_other hnr];exact hs.other n hn
 exact key ms [] w rfl (λ r hr=>(m4 r hr).1) ⟨rfl,rfl,rfl,rfl,λ _ _=>rfl,λ r hr=>(m4 r (.inl hr)).1⟩ (λ _=>rfl)
theorem y6e{a0:Act}{ms:List Nat}{ro:Option Nat}{l:Nat}{ext:List Value}{m:Nat}(hm:m=a0.tmps.size)(he:w0.ext=.func (.yield l) #[] #[]::ext)(h:Rel P A0 (w0.enter a0 ms ro) ρ s a w){β:Nat}(hh:y7e m s=some β):(ρ β).blk=some l:=by
 unfold y7e at hh;split at hh
 ·rename_i β' kept hk;cases hh;have h0:s.kept[m]?=some (.yld β):=by
   have:=congrArg (·[0]?) hk;simpa[getElem?_drop]using this
  obtain ⟨b,hb,hv⟩:=h.kS m _ h0;subst hm;simp only[Base.enter,he,getD_eq_getElem?_getD,getElem?_append,Array.length_toList,Nat.lt_irrefl,if_false,Nat.sub_self,getElem?_cons_zero,Option.getD_some,Value.func.injEq,Fn.yield.injEq]at hv;rw[hb,hv.1]
 ·cases hh
theorem yDp{β:Nat}{old st:LpSt}{s':St}(h:s.setLp β old st=some s'):∃ i info cells,s.cH[β]?=some (some (.lp i info cells old))/\s'={ s with cH:=s.cH.set β (some (.lp i info cells st)) }:=by
 unfold St.setLp at h;split at h
 ·rename_i i info cells st' hch;split at h
  ·rename_i e;subst e;cases h;exact ⟨i,info,cells,getD_some hch,rfl⟩
  ·cases h
 ·cases h
theorem yRz(hm:P.follows .mixedOrders=true)(hT:yw P g.T)(hE:∀ e∈g.E,FnOK P e){I:List Inl}(hI:∀ i∈I,y4p P i)(fuel:Nat)(d:Nat):y6s P (inl g I fuel d)/\y3M P (inl g I fuel d):=by
 induction d with
 |zero=>exact ⟨λ _ _ _ h=>(by cases h),λ _ _ _ _ _ _ h=>(by cases h)⟩
 |succ d ihd =>
  obtain ⟨ihC,ihR⟩:=ihd;refine ⟨?_,?_⟩
  ·intro A0 w0 ρ s a w R K r n svs vs h hv hn hk;unfold inl at hk;dsimp only at hk;split at hk
   ·cases hk
   ·rename_i i hi;obtain ⟨hmem,rfl⟩:=yC6 hi;obtain ⟨hf,hname,hlib⟩:=hI i hmem;split at hk
    ·rename_i e0 he0;exact yI6 (hlib e0 he0) h hv hk
    split at hk
    ·cases hk
    ·rename_i c hb;obtain ⟨ms,m1,m2,m3,hR⟩:=yA7 h hv hn i.fn.ntmps none (λ l hl=>by cases hl)
     refine ⟨⟨i.fn,hf,hname,by rw[hb];rfl⟩,yFV.1 (callsIn_of_wp_marks (F:=y3V none) (n:=0) hf hb trivial ?_ rfl)⟩
     refine y4X (g:={ g with mU:=i.mU,fz:=i.fz,E:=yMR i.hide g.E,lv:=i.lv }) ihC ihR (yBf I fuel d) hm hT (λ e he=>hE e (yJ2 he)) c i.keep hR hk λ ex ρ s' a' w' he hR' hK=>?_
     have fin:(if s'.leaves then retK g i.rc i.fn { s' with nmk:=0 } λ sv s''=>K sv (y3h s'' s)else none)=some r->LeavesInM (y3V none) 0 P i.fn a'.tmps (Back P A0 w0 a K r) a'.defers .returning w':=by
      intro hr;obtain ⟨hl,hr⟩:=yG hr;refine hR'.taken hl λ w2 hR2=>?_
      obtain ⟨u,s2,sv,ρ',h1,h2,h3,h4,h5⟩:=yHo hT hE hR2 hr;exact ⟨u,h1,u,ρ',_,sv,rfl,y9e h.size m1 m2 m3 h.dep.2 h2,h3,h4,h5⟩
     cases ex with
     |normal=>exact fin hK
     |ret=>exact fin hK
     |exit id=>cases hK
     |_=>cases he
  ·intro A0 w0 ρ s a w R K r info svs vs l β i cells ext kept fnn h hv hn he hkp hc hk;unfold inl at hk;dsimp only at hk;have hbl:(ρ β).blk=some l:=by
    obtain ⟨b,hb,hv0⟩:=h.kS 0 (.yld β) (by rw[hkp];rfl)
    simp only[he,List.getD_cons_zero,Value.func.injEq,Fn.yield.injEq]at hv0;rw[hb,hv0.1]
   have hlo:∃ rc:Loop,w.heap[l]?=some (.loop rc):=by
    obtain ⟨b,rc,hb,g1,_⟩:=(h.cH β _ hc).1;rw[hbl]at hb;cases hb;exact ⟨rc,g1⟩
   obtain ⟨ms,m1,m2,m3,hR⟩:=yA7 h hv hn 0 (some l) (λ l' hl=>by cases hl;exact hlo)
   refine roundIn_of_wpIn (F:=y3V none) trivial ?_
   have e0:(vs.toArray++Array.replicate (0 - vs.toArray.size) undef)=vs.toArray:=by simp
   rw[e0]at hR;show info.assign.wpIn (y3V (some l)) 0 P _ _ _
   refine y4X (w0:=w0.enter a ms (some l)) (g:={ g with mU:=info.mU,fz:=info.fz,lv:=none }) ihC ihR (yBf I fuel d) hm hT hE info.assign info.keep hR hk λ ex ρ1 s1 a1 w1 hpe hR1 hK1=>?_
   cases ex with
   |normal =>
    dsimp only at hK1;obtain ⟨β1,hh1,hK1⟩:=bind_eq_some_iff.1 hK1;obtain ⟨s2,hs2,hK1⟩:=bind_eq_some_iff.1 hK1;have hb1:=y6e h.size he hR1 hh1;obtain ⟨i1,info1,cells1,hc1,rfl⟩:=yDp hs2;obtain ⟨b,rc,hb,g1,⟨_,_,_,g5,g6⟩,_⟩:=(hR1.cH β1 _ hc1).1;rw[hb1]at hb;cases hb;have hW:=hR1.writeLp (st':=.busy) (rc':={ rc with state:=.busy }) hc1 hb1 g1 rfl rfl rfl rfl rfl (.inr (g6.resolve_left (by intro hx;cases hx)))
    refine ⟨_,run_beginRound g1 g5,?_⟩;show info.body.wpIn (y3V (some l)) 0 P _ _ _
    refine y4X (w0:=w0.enter a ms (some l)) (g:={ g with mU:=info.mU,fz:=info.fz,lv:=none }) ihC ihR (yBf I fuel d) hm hT hE info.body (info.keep.drop (loops info.assign)) hW hK1 λ ex ρ2 s3 a3 w3 hpe hR3 hK3=>?_
    unfold endRound at hK3;obtain ⟨β3,hh3,hK3⟩:=bind_eq_some_iff.1 hK3;obtain ⟨st,hst,hK3⟩:=bind_eq_some_iff.1 hK3;obtain ⟨s4,hs4,hK3⟩:=bind_eq_some_iff.1 hK3;have hb3:=y6e h.size he hR3 hh3;obtain ⟨i3,info3,cells3,hc3,rfl⟩:=yDp hs4;obtain ⟨b,rc3,hb,f1,⟨_,_,_,f5,f6⟩,_⟩:=(hR3.cH β3 _ hc3).1;rw[hb3]at hb;cases hb;have fin:∀ jump:Option Code,(if jump.isNone then LoopState.ready else .done)=st.state->jump=st.pending->(jump.isNone=(st == .ready)) ->
      ∃ v w',(Instr.endRound l jump).run P w3=.ok v w'/\Back P A0 w0 a K r (.returned v) w':=by
     intro jump j1 j2 j3;refine ⟨_,_,run_endRound jump f1,?_⟩;have hW3:=hR3.writeLp (st':=st) (rc':={ rc3 with state:=if jump.isNone then .ready else .done,pending:=jump }) hc3 hb3 f1 rfl rfl rfl rfl j1 (.inr j2)
     exact ⟨_,ρ2,_,_,rfl,y9e h.size m1 m2 m3 h.dep.2 hW3,(show yF P _ _ ρ2 (.val .bool (st == .ready)) _ by rw[j3];exact y10 _),trivial,hK3⟩
    cases ex with
    |normal=>cases hst;exact fin none rfl rfl rfl
    |exit id=>cases hst;exact fin (some (.exit id)) rfl rfl rfl
    |ret=>cases hst;exact fin (some .ret) rfl rfl rfl
    |_=>cases hpe
   |_=>cases hK1
theorem yPW(hm:P.follows .mixedOrders=true)(hT:yw P g.T)(hE:∀ e∈g.E,FnOK P e){fn:Func}{e:Entry}(hf:P.funcs[e.f]?=some fn)(hname:(fn.name == "runtime.NumGoroutine")=false)
  (hbody:fn.body.isNone=false)
  (h:∀ x y,e.m x=some y->∃ an:Ann,(∀ i∈an.inl,y4p P i)/\runF g an fn e.args e.rS x=some y) (hown:e.own=none:=by rfl)
  (hex:∀ q,e.ex=some q->ExOK P e.f q:=by intro q h;have h2:(none:Option TV)=some q:=h;cases h2):FnOK P e:=by
 cases hb:fn.body with
 |none=>rw[hb]at hbody;cases hbody
 |some c =>
  refine ⟨⟨fn,hf,hname,by rw[hb];rfl⟩,λ A w x l y hG hA hx hmx=>?_,⟨λ q hq=>(by rw[hown]at hq;cases hq),hex⟩⟩
  obtain ⟨an,hI,hr⟩:=h x y hmx;unfold runF at hr;rw[hb]at hr;dsimp only at hr;refine yFV.1 (callsIn_of_wp_marks (F:=y3V none) (n:=0) hf hb trivial ?_ rfl);have hargs:=y9T (ρ:=λ _=>⟨none,0,0,[],[],[]⟩) hx
  have hlen:(y18 e.args x).length=(e.args.group l).length:=hargs.1.symm;have hR:Rel P A ⟨w,[],[],none,[],[]⟩ (λ _=>⟨none,0,0,[],[],[]⟩) { sl:=.ofList (y18 e.args x++List.replicate (fn.ntmps - (y18 e.args x).length) .undef),cH:=[] } { tmps:=(e.args.group l).toArray++Array.replicate (fn.ntmps - (e.args.group l).toArray.size) undef,defers:=[] } w:=by
   refine ⟨by rw[St.slots_of];simp[hlen],λ i sv hi=>?_,λ β ch hb=>by simp at hb,λ β γ c d hb=>by simp at hb,λ i sv hi=>?_,λ β ch hb=>by simp at hb,Below.refl _ _,hA,⟨[],⟨rfl,λ _=>rfl,nodup_nil⟩,λ r hr=>(by rcases hr with hr|hr<;>cases hr)⟩,⟨rfl,rfl⟩,λ β ch q hb=>(by simp at hb),λ l hl=>(by rcases hl with hl|hl<;>cases hl),hG,rfl,λ i sv hi=>(by simp at hi),λ i sv hi=>(by simp at hi),⟨λ β ch hb=>(by simp at hb),λ β ch n hb=>(by simp at hb),λ β γ c d n hb=>(by simp at hb),λ β γ c d n hb=>(by simp at hb)⟩⟩
   ·rw[St.slots_of,getElem?_append]at hi;split at hi
    ·rename_i hlt;obtain ⟨v,hv,hs⟩:=hargs.2 i sv hi;have e1:((e.args.group l).toArray++Array.replicate (fn.ntmps - (e.args.group l).toArray.size) undef).getD i undef=v:=by
      rw[Array.getD_eq_getD_getElem?,Array.getElem?_append_left (by simp;omega)]
      simp[hv]
     rw[e1];exact hs.mono (λ _ _ _=>rfl) (λ n _ hn=>by
      rcases hn with (hn|⟨β,ch,hc,_⟩)|⟨β,ch,hc,_⟩
      ·exact hn
      ·simp at hc
      ·simp at hc)
    ·rw[getElem?_replicate]at hi;split at hi
     ·cases hi;trivial
     ·cases hi
   ·rw[St.slots_of,getElem?_append]at hi;split at hi
    ·exact yF0 _ sv (mem_of_getElem? hi)
    ·rw[getElem?_replicate]at hi;split at hi
     ·cases hi;trivial
     ·cases hi
  obtain ⟨hC,hRd⟩:=yRz hm hT hE hI an.fuel an.deep;refine y4X (w0:=⟨w,[],[],none,[],[]⟩) hC hRd (yBf an.inl an.fuel an.deep) hm hT hE c an.keep hR hr λ ex ρ s a w' he hR' hK=>?_
  have fin:(if s.leaves then yBs g.E g.T (settleRes fn.results.toList { s with nmk:=0 }) e.rS fn.results.toList else none)=some y ->
    LeavesInM (y3V none) 0 P fn a.tmps (λ ex w'=>∃ ly,ex=.returned (pack (e.rS.group ly))/\y6 P e.rS A w' y ly/\Below w.heap.size w w') a.defers .returning w':=by
   intro hy;obtain ⟨hl,hy⟩:=yG hy;refine hR'.taken hl λ w2 hR2=>?_
   have hS:=Rel.settleRes fn.results.toList hR2;obtain ⟨ly,h1,h2,h3⟩:=yEt hT hE hS hy;exact ⟨_,y2K h2 h3,ly,rfl,h1,hS.below⟩
  cases ex with
  |normal=>exact fin hK
  |ret=>exact fin hK
  |exit id=>cases hK
  |_=>cases he
theorem FnOK.none{f:FuncId}{args rS:Ty}{fn:Func}(hf:P.funcs[f]?=some fn)(hname:(fn.name == "runtime.NumGoroutine")=false)(hbody:fn.body.isNone=false):FnOK P { f:=f,args:=args,rS:=rS,m:=λ _=>Option.none }:=
 ⟨⟨fn,hf,hname,hbody⟩,λ A w x l y hG hA hx hm=>(by cases hm),⟨λ q h=>(by cases h),λ q h=>(by cases h)⟩⟩
end
end Go.Vx
end
section
namespace Go.Vx
open Go.RowKit Go.Deep
variable [GT]
def Ty.wf:(t:Ty)->t.den->Prop
 |.bool,_=>True
 |.int k,n=>(Lit.int k n).wf=true
 |.str,s=>List.length (s:List UInt8)<=maxLen
 |.unit,_=>True
 |.pair a b,x=>a.wf x.1/\b.wf x.2
 |.slice t,xs=>List.length (xs:List t.den)<=maxLen/\∀ y,y∈(xs:List t.den)->t.wf y
 |.arr n t,xs=>List.length (xs:List t.den)=n/\∀ y,y∈(xs:List t.den)->t.wf y
 |_,_=>True
def y1I(P:Program)(rec:TypeId->Ty->Bool):List Field->Nat->Ty->Bool
 |[],_,.unit=>true
 |f::fs,off,.pair a b=>f.offset == off && !(a.size == 0) && P.cellsOf f.type == a.size && rec f.type a && y1I P rec fs (off+a.size) b
 |_,_,_=>false
def y0w(P:Program):Nat->TypeId->Ty->Bool
 |0,_,_=>false
 |d+1,t,u=>match u,P.underlying t with
  |.bool,some .bool=>true
  |.int k,some (.int j)=>decide (k=j)
  |.str,some .string=>true
  |.flt k,some (.float j)=>decide (k=j)
  |.slice v,some (.slice e)=>P.cellsOf e == v.size && !(v.size == 0) && y0w P d e v
  |.arr n v,some (.array m e)=>n == m && P.cellsOf e == v.size && P.cellsOf t == n * v.size && y0w P d e v
  |.pair a b,some (.struct fs)=>P.cellsOf t == (Ty.pair a b).size && y1I P (y0w P d) fs.toList 0 (.pair a b)
  |.unit,some (.struct fs)=>P.cellsOf t == 0 && y1I P (y0w P d) fs.toList 0 .unit
  |_,_=>false
section
variable {H:Type} {enc:TypeId×Value->H} {P:Program} {w:World} {sp:Nat->Bool} {held:Bool}
abbrev noA:Nat->Prop:=λ _=>False
theorem y6j{rec:TypeId->Ty->Bool}{m:Nat}(hrec:∀ (t:TypeId) (u:Ty) (cs:List Value) (x:DataW H×List MemPlace),rec t u=true->DataW.trod enc P w 0 sp held m t cs=some x->∃ y:u.den,y6 P u noA w y cs/\u.wf y) :
  ∀ (fs:List Field) (off:Nat) (u:Ty) (cs:List Value),y1I P rec fs off u=true->off+u.size<=cs.length ->
   (∀ f∈fs,∃ x,DataW.trod enc P w 0 sp held m f.type ((cs.drop f.offset).take (P.cellsOf f.type))=some x) ->
   ∃ y:u.den,y6 P u noA w y ((cs.drop off).take u.size)/\u.wf y
 |[],off,u,cs,h,_,_=>by
  cases u with
  |unit=>exact ⟨(),by simp[y6,Ty.size],trivial⟩
  |_=>simp[y1I]at h
 |f::fs,off,u,cs,h,hl,hx=>by
  cases u with
  |pair a b =>
   simp only[y1I,and_eq_true,beq_iff_eq]at h;obtain ⟨⟨⟨⟨h1,_⟩,h3⟩,h4⟩,h5⟩:=h;simp only[Ty.size]at hl ⊢;obtain ⟨x,hx0⟩:=hx f (by simp)
   rw[h1,h3]at hx0;obtain ⟨y,hy,hw⟩:=hrec _ _ _ _ h4 hx0;obtain ⟨z,hz,hw2⟩:=y6j hrec fs (off+a.size) b cs h5 (by omega) (λ g hg=>hx g (by simp[hg]))
   refine ⟨(y,z),?_,hw,hw2⟩;simp only[y6];refine ⟨_,_,?_,hy,hz⟩;rw[List.take_add,List.drop_drop]
  |_=>simp[y1I]at h
theorem yHc{base fuel:Nat}{t:TypeId}{cs:List Value}{x:DataW H×List MemPlace}{k:FloatKind}(ht:P.underlying t=some (.float k))(h:DataW.trod enc P w base sp held fuel t cs=some x):∃ n,cs=[.float k n]/\x=(.lit (.float k n),[]):=by
 cases fuel with
 |zero=>simp[DataW.trod]at h
 |succ n =>
  unfold DataW.trod at h;rw[ht]at h;split at h<;>simp_all
theorem y4o:∀ (d fuel:Nat) (t:TypeId) (u:Ty) (cs:List Value) (x:DataW H×List MemPlace),y0w P d t u=true->DataW.trod enc P w 0 sp held fuel t cs=some x->∃ y:u.den,y6 P u noA w y cs/\u.wf y
 |0,_,_,_,_,_,h,_=>by simp[y0w]at h
 |d+1,fuel,t,u,cs,x,h,hx=>by
  cases ht:P.underlying t with
  |none=>cases u<;>simp[y0w,ht]at h
  |some D =>
   have struct:∀ (fs:Array Field) (v:Ty),P.underlying t=some (.struct fs)->P.cellsOf t=v.size->y1I P (y0w P d) fs.toList 0 v=true->∃ y:v.den,y6 P v noA w y cs/\v.wf y:=λ fs v hu hs hf=>by
    obtain ⟨xs,m,_,_,hl,hn,hget⟩:=DataW.trod_struct hu hx;obtain ⟨y,h1,h2⟩:=y6j (rec:=y0w P d) (m:=m) (λ t u cs x=>y4o d m t u cs x) fs.toList 0 v cs hf (by omega) (λ f hf=>by
     obtain ⟨i,hi,he⟩:=List.getElem_of_mem hf;have hi':i < xs.length:=by rw[hn];simpa using hi
     refine ⟨xs[i],?_⟩;rw[hget i f (by rw[<- he];simp at hi ⊢),getElem?_eq_getElem hi'])
    refine ⟨y,?_,h2⟩;rw[List.drop_zero,List.take_of_length_le (by omega)]at h1
    exact h1
   cases u with
   |bool =>
    cases D<;>simp[y0w,ht]at h
    obtain ⟨b,rfl,_⟩:=DataW.trod_bool ht hx;exact ⟨b,rfl,trivial⟩
   |int k =>
    cases D<;>simp[y0w,ht]at h
    subst h;obtain ⟨n,rfl,_,hw⟩:=DataW.trod_int ht hx;exact ⟨n,rfl,hw⟩
   |str =>
    cases D<;>simp[y0w,ht]at h
    obtain ⟨s,rfl,_,hw⟩:=DataW.trod_string ht hx;refine ⟨s.data.toList,by simp[y6],?_⟩
    simpa[Ty.wf]using hw
   |flt k =>
    cases D<;>simp[y0w,ht]at h
    subst h;obtain ⟨n,rfl,_⟩:=yHc ht hx;exact ⟨fcan k n,⟨n,rfl,rfl⟩,trivial⟩
   |unit =>
    cases D<;>simp[y0w,ht]at h
    exact struct _ .unit ht h.1 h.2
   |pair a b =>
    cases D<;>simp[y0w,ht]at h
    exact struct _ (.pair a b) ht h.1 h.2
   |slice v =>
    cases D with
    |slice e =>
     simp[y0w,ht]at h;obtain ⟨⟨h1,h2⟩,h3⟩:=h;rcases open_slice ht hx with ⟨rfl,_⟩|⟨a,len,cap,m,n,DD,Pl,rfl,_,hlc,hcm,hm,_,hel⟩
     ·exact ⟨([]:List v.den),y3E v,by simp[Ty.wf]⟩
     ·have hlm:len<=m:=by rw[hm];split<;>omega
      have spot0:0 < len->a.spot=none:=λ h0=>by
       obtain ⟨cs',hc,_⟩:=hel 0 (by omega)
       obtain ⟨_,hlen,hget⟩:=World.cells?_some hc;rw[h1]at hget hlen;have h3:=hget 0 (by omega)
       rw[getElem?_eq_getElem (by omega),Nat.zero_mul]at h3
       have e0:((a.add 0).add 0)=a:=by simp[Addr.add]
       rw[e0]at h3;unfold World.cell? at h3;split at h3
       ·cases hs:a.spot with
        |none=>rfl
        |some q=>rw[hs]at h3;simp at h3
       ·cases h3
      have one:∀ i,i < len->∃ y:v.den,(a.spot=none/\a.block < w.heap.size/\∃ l',yX w a.block (a.off+i * v.size) l'/\y6 P v noA w y l')/\v.wf y:=λ i hi=>by
       obtain ⟨cs',hc,hr⟩:=hel i (by omega)
       obtain ⟨y,hy,hw⟩:=y4o d n e v cs' _ h3 hr;obtain ⟨_,hlen,hget⟩:=World.cells?_some hc;rw[h1]at hget hlen;have hsp:=spot0 (by omega)
       have hat:yX w a.block (a.off+i * v.size) cs'/\a.spot=none:=by
        refine ⟨λ j u hj=>?_,hsp⟩
        have hj':j < v.size:=by rw[<- hlen];exact (List.getElem?_eq_some_iff.1 hj).1
        have:=(hget j hj').trans hj;obtain ⟨ab,ao,asp⟩:=a;simp only at hsp;subst hsp;rw[y0G,y0G]at this;exact this
       have hblk:a.block < w.heap.size:=by
        have h0:0 < cs'.length:=by omega
        exact yFf (hat.1 0 cs'[0] (getElem?_eq_getElem h0))
       exact ⟨y,⟨hat.2,hblk,cs',hat.1,hy⟩,hw⟩
      have hch:∃ f:Fin len->v.den,∀ i:Fin len,(a.spot=none/\a.block < w.heap.size/\∃ l',yX w a.block (a.off+i.val * v.size) l'/\y6 P v noA w (f i) l')/\v.wf (f i):=
       ⟨λ i=>Classical.choose (one i.val i.isLt),λ i=>Classical.choose_spec (one i.val i.isLt)⟩
      obtain ⟨f,hf⟩:=hch;refine ⟨(List.ofFn f:List v.den),?_,?_⟩
      ·simp only[y6];refine ⟨some a,cap,by simp,by simpa using hlc,hcm,λ i y hy=>?_⟩
       obtain ⟨hi,he⟩:=List.getElem?_eq_some_iff.1 hy;simp at hi he;subst he;obtain ⟨⟨g1,g2,l',g3,g4⟩,_⟩:=hf ⟨i,hi⟩;exact ⟨a,l',rfl,g1,λ h=>h,g2,g3,g4⟩
      ·simp only[Ty.wf];refine ⟨by simp;omega,λ y hy=>?_⟩
       obtain ⟨i,rfl⟩:=(List.mem_ofFn).1 hy;exact (hf i).2
    |_=>simp[y0w,ht]at h
   |arr n v =>
    cases D with
    |array m e =>
     simp[y0w,ht]at h;obtain ⟨⟨⟨h0,h1⟩,h2⟩,h3⟩:=h;subst h0;obtain ⟨xs,fu,_,_,hl,hn,hget⟩:=DataW.trod_array ht hx;have one:∀ i,i < n->∃ y:v.den,y6 P v noA w y ((cs.drop (i * v.size)).take v.size)/\v.wf y:=λ i hi=>by
      have:=hget i hi;rw[h1,getElem?_eq_getElem (by omega)]at this
      exact y4o d fu e v _ _ h3 this
     have hch:∃ f:Fin n->v.den,∀ i:Fin n,y6 P v noA w (f i) ((cs.drop (i.val * v.size)).take v.size)/\v.wf (f i):=
      ⟨λ i=>Classical.choose (one i.val i.isLt),λ i=>Classical.choose_spec (one i.val i.isLt)⟩
     obtain ⟨f,hf⟩:=hch;refine ⟨(List.ofFn f:List v.den),?_,?_⟩
     ·simp only[y6];refine ⟨by omega,by simp,λ i y hy=>?_⟩
      obtain ⟨hi,he⟩:=List.getElem?_eq_some_iff.1 hy;simp at hi he;subst he;exact (hf ⟨i,hi⟩).1
     ·simp only[Ty.wf];refine ⟨by simp,λ y hy=>?_⟩
      obtain ⟨i,rfl⟩:=(List.mem_ofFn).1 hy;exact (hf i).2
    |_=>simp[y0w,ht]at h
   |_=>simp[y0w,ht]at h
end
end Go.Vx
end
section
namespace Go.Vx
open Go.RowKit Go.ChangeShapes Go.WideShapes
variable [GT]
def y8S:List (TypeId×Ty)->Ty
 |[]=>.unit
 |q::l=>.pair q.2 (y8S l)
section
variable {H:Type} {enc:TypeId×Value->H} {P:Program}
omit [GT] in
theorem yCC{w:World}{r:Reach}{b:Nat}{t e:TypeId}{v:Value}(ht:P.underlying t=some (.slice e))(h:Value.okWide P w r b t v):∃ p n c,v=.slice p n c:=by
 simp only[Value.okWide,ht,Cell.okWide]at h;cases v<;>simp_all [Cell.ok]
omit [GT] in
theorem yDO{w:World}{r:Reach}{b:Nat}{t:TypeId}{k:FloatKind}{v:Value}(ht:P.underlying t=some (.float k))(h:Value.okWide P w r b t v):∃ n,v=.float k n:=by
 simp only[Value.okWide,ht,Cell.okWide]at h;cases v<;>simp_all [Cell.ok]
omit [GT] in
theorem yJ9{W:World}{r:Reach}{b:Nat}{t:TypeId}{u:Ty}{v:Value}{d:Nat}(h:y0w P d t u=true)(hv:Value.okWide P W r b t v):u.wrap v.cells.toList=v:=by
 cases d with
 |zero=>simp[y0w]at h
 |succ d =>
  cases ht:P.underlying t with
  |none=>cases u<;>simp[y0w,ht]at h
  |some D =>
   have agg:(∃ cs,v=.agg cs)->u.agg=true->u.wrap v.cells.toList=v:=by
    rintro ⟨cs,rfl⟩ hu
    simp[Ty.wrap,hu,Value.cells]
   cases u with
   |bool =>
    cases D<;>simp[y0w,ht]at h
    obtain ⟨x,rfl⟩:=okWide_bool ht hv;rfl
   |int k =>
    cases D<;>simp[y0w,ht]at h
    obtain ⟨x,rfl⟩:=okWide_int ht hv;rfl
   |str =>
    cases D<;>simp[y0w,ht]at h
    obtain ⟨x,rfl⟩:=okWide_string ht hv;rfl
   |slice x =>
    cases D<;>simp[y0w,ht]at h
    obtain ⟨p,n,c,rfl⟩:=yCC ht hv;rfl
   |flt k =>
    cases D<;>simp[y0w,ht]at h
    obtain ⟨x,rfl⟩:=yDO ht hv;rfl
   |unit =>
    cases D<;>simp[y0w,ht]at h
    refine agg ?_ rfl;simp only[Value.okWide,ht]at hv;obtain ⟨cs,rfl,_⟩:=hv;exact ⟨cs,rfl⟩
   |pair x y =>
    cases D<;>simp[y0w,ht]at h
    refine agg ?_ rfl;simp only[Value.okWide,ht]at hv;obtain ⟨cs,rfl,_⟩:=hv;exact ⟨cs,rfl⟩
   |arr n x =>
    cases D<;>simp[y0w,ht]at h
    refine agg ?_ rfl;simp only[Value.okWide,ht]at hv;obtain ⟨cs,rfl,_⟩:=hv;exact ⟨cs,rfl⟩
   |_=>simp[y0w]at h
theorem yCO{W:World}{r:Reach}{b:Nat}{sp:Nat->Bool}{held:Bool}:∀ (ts:List (TypeId×Ty)) (vs:List Value) (ds:List (DataW H)) (p:List MemPlace),(∀ q∈ts,y0w P 30 q.1 q.2=true) ->
  (∀ (j:Nat) t v,(ts.map (·.1))[j]?=some t->vs[j]?=some v->Value.okWide P W r b t v)->DataW.TrodAll enc P W 0 sp held (ts.map (·.1)) vs ds p ->
  ∃ (x:(y8S ts).den) (l:List Value),y6 P (y8S ts) noA W x l/\(y8S ts).group l=vs/\(y8S ts).wf x
 |[],vs,ds,p,_,_,h=>by
  obtain ⟨rfl,rfl,rfl⟩:=trodAll_nil h;exact ⟨(),[],rfl,rfl,trivial⟩
 |q::ts,vs,ds,p,ho,hv,h=>by
  obtain ⟨v,vs',d,ds',p1,p2,rfl,rfl,rfl,h1,h2⟩:=trodAll_cons h;obtain ⟨fuel,hf⟩:=h1;have hoq:=ho q (by simp)
  obtain ⟨y,hy,hw⟩:=y4o 30 fuel q.1 q.2 _ _ hoq hf;obtain ⟨x,l,hx,hg,hw2⟩:=yCO ts vs' ds' p2 (λ q hq=>ho q (by simp[hq])) (λ j t v hj hvj=>hv (j+1) t v (by simpa using hj) (by simpa using hvj)) h2
  have hwr:=yJ9 hoq (hv 0 q.1 v rfl rfl);refine ⟨(y,x),v.cells.toList++l,⟨_,_,rfl,hy,hx⟩,?_,hw,hw2⟩;show q.2.wrap ((v.cells.toList++l).take q.2.size)::(y8S ts).group ((v.cells.toList++l).drop q.2.size)=v::vs'
  rw[<- hy.length,take_left,drop_left,hwr,hg]
omit [GT] in
theorem yBb{f:Func}{s:ChangeSpec}{apart fresh handsOn again:Bool}{W W':World}{args:Array Value}{v:Value}{ds gs:List (DataW H)}{before pa pv:List MemPlace}
  (hW:DataW.Whole enc P f.params.toList s.vars apart W args.toList ds gs before)
  (hres:∀ (b:Nat) (sp:Nat->Bool) (hd:Bool),DataW.TrodAll enc P W' b sp hd f.resultTypes.toList (v.resultList f.resultTypes.size) (s.fn H (ds++gs)).results [])
  (hargs:∀ sp:Nat->Bool,(∀ p∈before,sp p.block=true)->DataW.TrodAll enc P W' 0 sp true f.params.toList args.toList (s.fn H (ds++gs)).args pa)
  (hvars:∀ sp:Nat->Bool,(∀ p∈before,sp p.block=true)->DataW.TrodVars enc P W' sp s.vars (s.fn H (ds++gs)).vars pv)
  (hps:before=pa++pv) (hb:Below W.heap.size W W')
  (hok:∀ (j:Nat) (t:TypeId) (r:Value),f.resultTypes[j]?=some t->(v.resultList f.resultTypes.size)[j]?=some r->Value.okWide P W' .any 0 t r) :
  s.post enc P f apart fresh handsOn again W args v W':=by
 have hold:∀ p∈before,(λ b=>decide (b < W.heap.size)) p.block=true:=λ p hp=>by simpa using hW.lt p hp
 have hlt:∀ p∈before,p.block < W.heap.size:=λ p hp=>hW.lt p hp
 refine ⟨ds,gs,before,[],pa,pv,hW,hres _ _ _,hargs _ hold,hvars _ hold,World.keptBut_mono (λ p hp=>⟨hp,?_⟩) (hb.frame (·∈before)),λ _=>?_⟩
 ·rw[hps,mem_append]at hp;exact Or.inr hp
 ·obtain ⟨_,_,_,_,_,hz,hn⟩:=hW;refine ⟨hok,_,_,([]++pa)++pv,⟨[]++pa,pv,trodAll_append (hargs _ (λ _ _=>rfl)) (hres _ _ _),hvars _ (λ _ _=>rfl),rfl,?_,?_⟩,?_⟩
  ·intro b off hp;have hp':MemPlace.cell b off∈before:=by rw[hps];simpa using hp
   have:b < W.heap.size:=hlt _ hp';rw[hb.frozen (p:=⟨b,off,none⟩) this];exact hz b off hp'
  ·intro ha;have:=hn ha;rw[hps]at this;simpa using this
  ·intro p hp _;rw[hps];simpa using hp
omit [GT] in
theorem y67{W W':World}(hl:laidOutB P=true)(hb:Below W.heap.size W W'){sp':Nat->Bool}:∀ (ts:List TypeId) (vs:List Value) (ds:List (DataW H)) (ps:List MemPlace),
  (∀ t∈ts,P.readableRec t=true/\t < P.types.size)->DataW.TrodAll enc P W 0 (λ _=>true) true ts vs ds ps->(∀ p∈ps,sp' p.block=true)->(∀ p∈ps,p.block < W.heap.size)->DataW.TrodAll enc P W' 0 sp' true ts vs ds ps
 |[],_,_,_,_,h,_,_=>by
  obtain ⟨rfl,rfl,rfl⟩:=trodAll_nil h;exact trodAll_mk0
 |t::ts,_,_,_,hr,h,hs,hlt=>by
  obtain ⟨v,vs,d,ds,p,q,rfl,rfl,rfl,h1,h2⟩:=trodAll_cons h;exact ⟨p,q,Go.WideElems.Trod_stays hl (hr t (by simp)).1 (hr t (by simp)).2 h1 (λ x hx=>hb.same (hlt x (by simp[hx]))) (λ x hx=>hs x (by simp[hx])),
   y67 hl hb ts vs ds q (λ u hu=>hr u (by simp[hu])) h2 (λ x hx=>hs x (by simp[hx])) (λ x hx=>hlt x (by simp[hx])),rfl⟩
theorem yQA{fn:Func}{spec:ChangeSpec}{ts:List (TypeId×Ty)}{f:FuncId}{m:(y8S ts).den->Option (Bool×Unit)}{tb:TypeId}(hOK:FnOK P { f:=f,args:=y8S ts,rS:=.pair .bool .unit,m:=m })
  (hparams:fn.params.toList=ts.map (·.1)) (hres:fn.resultTypes=#[tb]) (htb:P.underlying tb=some .bool) (hopen:∀ q∈ts,y0w P 30 q.1 q.2=true)
  (hl:laidOutB P=true) (hread:∀ q∈ts,P.readableRec q.1=true/\q.1 < P.types.size) (hvars:spec.vars=[])
  (hspec:∀ ds:List (DataW H),ds.length=ts.length->spec.fn H ds={ results:=[.lit (.bool true)],args:=ds })
  (law:∀ x,(y8S ts).wf x->m x=some (true,()))
  (W:World) (base:Nat) (args:Array Value) (ds gs:List (DataW H)) (before:List MemPlace) (hval:∀ (j:Nat) t v,fn.params[j]?=some t->args[j]?=some v->Value.okWide P W .any base t v)
  (hW:DataW.Whole enc P fn.params.toList spec.vars false W args.toList ds gs before) (hG:y4x noA W) :
  Calls P f args W λ e W'=>∃ v,e=.returned v/\spec.post enc P fn false true false false W args v W':=by
 have hW':=hW;have hlt:∀ p∈before,p.block < W.heap.size:=λ p hp=>hW.lt p hp
 obtain ⟨p,q,hA,hV,rfl,hfz,hnd⟩:=hW;rw[hvars]at hV;obtain ⟨rfl,rfl⟩:=trodVars_none hV;have hA':=hA;rw[hparams]at hA';obtain ⟨x,l,hx,hg,hw⟩:=yCO ts args.toList ds p hopen (λ j t v hj hv=>hval j t v (by rw[<- Array.getElem?_toList,hparams];exact hj) (by simpa using hv)) hA'
 have hc:=hOK.2.1 noA W x l (true,()) hG (λ _ h=>h.elim) hx (law x hw)
 have e1:((y8S ts).group l).toArray=args:=by rw[hg]
 have hlen:ds.length=ts.length:=by
  have:∀ (ts:List TypeId) (vs:List Value) (ds:List (DataW H)) (ps:List MemPlace),DataW.TrodAll enc P W 0 (λ _=>true) true ts vs ds ps->ds.length=ts.length:=by
   intro ts;induction ts with
   |nil=>intro vs ds ps h;obtain ⟨_,rfl,_⟩:=trodAll_nil h;rfl
   |cons t ts ih =>
    intro vs ds ps h;obtain ⟨v,vs',d,ds',p1,p2,rfl,rfl,rfl,_,h2⟩:=trodAll_cons h;simp[ih _ _ _ h2]
  rw[this _ _ _ _ hA'];simp
 have hs:=hspec ds hlen;change Calls P f ((y8S ts).group l).toArray W _ at hc
 rw[e1]at hc;refine hc.mono ?_
 rintro e W' ⟨ly,rfl,hly,hb⟩
 refine ⟨_,rfl,?_⟩;have hly':ly=[.bool true]:=by
  obtain ⟨l1,l2,rfl,rfl,rfl⟩:=hly;rfl
 subst hly';have hv:pack ((Ty.pair .bool .unit).group [.bool true])=.bool true:=rfl;show spec.post enc P fn false true false false W args (pack ((Ty.pair .bool .unit).group [.bool true])) W'
 rw[hv];refine yBb (pa:=p) (pv:=[]) hW' ?_ ?_ ?_ rfl hb ?_
 ·intro b sp hd;rw[append_nil,hs,hres];exact trodAll_cons_mk (shut_bool htb true) trodAll_mk0
 ·intro sp hsp;rw[append_nil,hs];exact y67 hl hb _ _ _ _ (λ t ht=>by
   rw[hparams]at ht;obtain ⟨q,hq,rfl⟩:=mem_map.1 ht;exact hread q hq) hA (λ x hx=>hsp x (by simp[hx])) (λ x hx=>hlt x (by simp[hx]))
 ·intro sp hsp;rw[hvars,append_nil,hs];rfl
 ·exact ok_one hres rfl (okWide_bool_mk htb true)
end
end Go.Vx
end
section
namespace Go.Vx
open Go.ChangeShapes Go.WideShapes Go.ChangeAt
def yKa(P:Program)(f:FuncId)(fn:Func)(s:ChangeSpec)(c:OpenClaim):Bool:=c.wf (OpenSpec.ofChange s) && laidOutB P && mapsRowed P
def yJi(P:Program)(f:FuncId)(fn:Func)(s:ChangeSpec)(c:OpenClaim):Bool:=fn.params.all (P.readableRec ·) && namedTie P c.named s.vars && (c.stops == []) && (P.stops == []) && (c.knobs == []) && (P.stopKnobs == [])
def yLA(P:Program)(f:FuncId)(fn:Func)(s:ChangeSpec)(c:OpenClaim):Bool:=(c.inPlace == P.inPlace f) && (c.unfollowed == P.unfollowed f)
def yKz(P:Program)(f:FuncId)(fn:Func)(s:ChangeSpec)(c:OpenClaim):Bool:=(c.recurses == P.recurses f)
def yLQ(P:Program)(f:FuncId)(fn:Func)(s:ChangeSpec)(c:OpenClaim):Bool:=(c.named == P.varsNamed f)
def yM2(P:Program)(f:FuncId)(fn:Func)(s:ChangeSpec)(c:OpenClaim):Bool:=(c.maps == (fn.params.toList++s.plain.varTypes P).any (P.mapsRec ·)) && (c.ifaces == (fn.params.toList++s.plain.varTypes P).any (P.ifacesRec ·)) && (c.mapsOut == P.mapsAmong fn.resultTypes.toList) && (c.loops == (fn.params.toList++s.plain.varTypes P).any (P.loopsFrom ·)) && (c.wideKeys == (fn.params.toList++s.plain.varTypes P++fn.resultTypes.toList).any (P.wideKeysFrom ·))
def yJ8(P:Program)(f:FuncId)(fn:Func)(s:ChangeSpec)(c:OpenClaim):Bool:=s.vars.all (P.varReadable ·) && fn.resultTypes.all (λ t=>P.readableRec t && decide (t < P.types.size)) && (c.ifacesOut == fn.resultTypes.toList.any (P.ifacesRec ·)) && (c.loopsOut == fn.resultTypes.toList.any (P.loopsFrom ·)) && (c.plainKeys == P.plainKeys)
def yKb(P:Program)(f:FuncId)(fn:Func)(s:ChangeSpec)(c:OpenClaim):Bool:=c.shortTexts.isNone && P.stopsHeard && P.mayEnter && (c.lifted == P.liftsFinal) && (P.make == some c.make)
def yJK(P:Program)(f:FuncId)(fn:Func)(s:ChangeSpec)(c:OpenClaim):Bool:=(c.kinds == (if c.domain.isEmpty then []else fn.params.toList.map λ t=>match P.underlying t with|some (.int k)=>some k|_=>none)) && (c.pinned == c.pinnedBy) && (c.veiled == (fn.params.toList++s.plain.varTypes P++fn.resultTypes.toList).any (P.veiledRec ·)) && c.veiledFits P fn.params.toList (fn.params.toList++s.plain.varTypes P++fn.resultTypes.toList)
theorem yLg{P:Program}{f:FuncId}{fn:Func}{s:ChangeSpec}{c:OpenClaim}(h1:yKa P f fn s c=true)(h2:yJi P f fn s c=true)(h3:yLA P f fn s c=true)(h4:yKz P f fn s c=true)(h5:yLQ P f fn s c=true)(h6:yM2 P f fn s c=true)(h7:yJ8 P f fn s c=true)(h8:yKb P f fn s c=true)(h9:yJK P f fn s c=true):joinedFacts P f fn s c=true:=by
 unfold yKa at h1;unfold yJi at h2;unfold yLA at h3;unfold yKz at h4;unfold yLQ at h5;unfold yM2 at h6;unfold yJ8 at h7;unfold yKb at h8;unfold yJK at h9;unfold joinedFacts;simp only[and_eq_true]at *;simp only[h1,h2,h3,h4,h5,h6,h7,h8,h9,and_self];exact ⟨⟨⟨⟨trivial,h9.1.1.1⟩,trivial⟩,trivial⟩,trivial⟩
end Go.Vx
end
