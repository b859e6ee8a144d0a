import Derived.Test.YtpcnkpbpcebokaaGreatDoorP8
set_option linter.all false
set_option maxRecDepth 100000
open Int (dvd_trans mul_neg)
namespace Go.Tw
open Go.Vx Go.Vx.B Go.Proofs
def rot(z:Gau)(n:Int):Gau:=if n=0 then z else if n=1 then (-z.2.1,z.1,())else if n=2 then (-z.1,-z.2.1,())else (z.2.1,-z.1,())
def chrN(c:Con)(t:Int):Int:=c.2.2.1 * (t / c.2.1) % 4
def exV:List Con->List Gau->Int->Int×Int
 |c::l,z::v,t=>((rot z (chrN c t)).1+(exV l v t).1,(rot z (chrN c t)).2.1+(exV l v t).2)
 |_,_,_=>(0,0)
def mulG(d:Int)(z:Gau):Gau:=(d * z.1,d * z.2.1,())
theorem yPr(d:Int)(z:Gau)(n:Int):rot (mulG d z) n=mulG d (rot z n):=by
 unfold rot mulG;split
 ·rfl
 ·split
  ·simp only[mul_neg]
  ·split
   ·simp only[mul_neg]
   ·simp only[mul_neg]
theorem yM9(d:Int):∀ (l:List Con) (v:List Gau) (t:Int),exV l (v.map (mulG d)) t=(d * (exV l v t).1,d * (exV l v t).2)
 |[],v,t=>by unfold exV;simp
 |c::l,[],t=>by simp[exV]
 |c::l,z::v,t=>by
  rw[List.map_cons];unfold exV;rw[yPr,yM9 d l v t];unfold mulG;simp only[Int.mul_add]
theorem yNv(a b:Int):gI a b ∣ a/\gI a b ∣ b:=by
 unfold gI;exact ⟨Int.ofNat_dvd_left.2 (Nat.gcd_dvd_left _ _),Int.ofNat_dvd_left.2 (Nat.gcd_dvd_right _ _)⟩
theorem y7V:∀ (l:List Gau) (d:Int),comG l d ∣ d/\∀ z∈l,comG l d ∣ z.1/\comG l d ∣ z.2.1
 |[],d=>⟨Int.dvd_refl _,λ z hz=>by cases hz⟩
 |z::l,d=>by
  unfold comG;obtain ⟨h1,h2⟩:=y7V l (gI (gI d z.1) z.2.1);obtain ⟨a1,a2⟩:=yNv (gI d z.1) z.2.1;obtain ⟨b1,b2⟩:=yNv d z.1;have h3:=dvd_trans h1 a1;refine ⟨dvd_trans h3 b1,λ y hy=>?_⟩
  rcases List.mem_cons.1 hy with rfl|hy
  ·exact ⟨dvd_trans h3 b2,dvd_trans h1 a2⟩
  ·exact h2 y hy
theorem yOF{n:Int}(h:0<=n)(a b:Int):gI (n * a) (n * b)=n * gI a b:=by
 unfold gI;rw[Int.natAbs_mul,Int.natAbs_mul,Nat.gcd_mul_left,Int.natCast_mul,Int.natAbs_of_nonneg h]
theorem yGV{n:Int}(h:0<=n):∀ (l:List Gau) (d:Int),comG (l.map (mulG n)) (n * d)=n * comG l d
 |[],d=>rfl
 |z::l,d=>by
  rw[List.map_cons];unfold comG mulG;simp only;rw[yOF h,yOF h];exact yGV h l _
theorem y29{x n:Int}(hn:0 < n):(x.tdiv n).natAbs<=x.natAbs:=by
 rw[Int.natAbs_tdiv];exact Nat.div_le_self _ _
theorem yBL{m n:Int}{z:Gau}(hn:0 < n)(h:y0g m z=true)(hm:m<=9223372036854775807):y0g m (qG n z)=true/\qG n z=(z.1.tdiv n,z.2.1.tdiv n,()):=by
 have h1:=of_decide_eq_true h;have h2:=y29 (x:=z.1) hn;have h3:=y29 (x:=z.2.1) hn;have e:qG n z=(z.1.tdiv n,z.2.1.tdiv n,()):=by
  unfold qG;rw[y04 (by omega) (by omega),y04 (by omega) (by omega)]
 exact ⟨by rw[e];exact y7 (by simp only;omega),e⟩
theorem yQl{l:List Con}{x:List Gau}{D:Nat}{m:Int}(hD:0 < D)(hD2:(D:Int)<=268435456)(hc:y1Y l=0)(hl:l.length=x.length)(hx:∀ z∈x,y0g m z=true)(hm0:0<=m)(hm:m<=8796093022208) :
  y2t (lowT l x D)=0/\(∀ z∈(lowT l x D).2.1,y0g m z=true)/\(1<=(lowT l x D).2.2.1/\(lowT l x D).2.2.1<=D)/\comG x D * (lowT l x D).2.2.1=D/\∀ t,comG x D * (exV l (lowT l x D).2.1 t).1=(exV l x t).1/\comG x D * (exV l (lowT l x D).2.1 t).2=(exV l x t).2:=by
 have hp:=y7b x D hD;obtain ⟨d1,d2⟩:=y7V x D;generalize hn:comG x (D:Int)=n at hp d1 d2;have e1:(lowT l x D).2.1=x.map (qG n):=by unfold lowT;rw[hn]
 have e2:(lowT l x D).2.2.1=(D:Int).tdiv n:=by
  unfold lowT;simp only;rw[hn];have:=y29 (x:=(D:Int)) hp;rw[y04 (by omega) (by omega)]
 have e3:n * (D:Int).tdiv n=D:=Int.mul_tdiv_cancel' d1;have e4:(x.map (qG n)).map (mulG n)=x:=by
  rw[List.map_map];conv=>rhs;rw[<- List.map_id x]
  refine List.map_congr_left λ z hz=>?_
  have h1:=d2 z hz;have h2:=(yBL hp (hx z hz) (by omega)).2
  show mulG n (qG n z)=z
  rw[h2];unfold mulG;simp only;rw[Int.mul_tdiv_cancel' h1.1,Int.mul_tdiv_cancel' h1.2]
 have e5:1<=(D:Int).tdiv n/\(D:Int).tdiv n<=D:=by
  have h1:=y29 (x:=(D:Int)) hp;have h2:(0:Int)<=(D:Int).tdiv n:=Int.tdiv_nonneg (by omega) (by omega)
  have h3:(D:Int).tdiv n≠0:=λ h=>by rw[h]at e3;simp at e3;omega
  omega
 have hs:∀ z∈x.map (qG n),y0g m z=true:=λ z hz=>by
  obtain ⟨y,hy,rfl⟩:=List.mem_map.1 hz;exact (yBL hp (hx y hy) (by omega)).1
 have e6:comG (x.map (qG n)) ((D:Int).tdiv n)=1:=by
  have h1:=yGV (n:=n) (by omega) (x.map (qG n)) ((D:Int).tdiv n)
  rw[e4,e3,hn]at h1;have:n * 1=n * comG (x.map (qG n)) ((D:Int).tdiv n):=by rw[<- h1,Int.mul_one]
  exact (Int.eq_of_mul_eq_mul_left (by omega) this).symm
 have hpz:y09 ((x.map (qG n)).map y1t)=0:=by
  unfold y09;rw[List.find?_eq_none.2 λ e he=>by
   obtain ⟨z,hz,rfl⟩:=List.mem_map.1 he;have h1:=of_decide_eq_true (hs z hz);have h2:y1t z=0:=by
    unfold y1t;rw[yM,yM,y0Q,y0B];unfold ckR;rw[if_neg (by omega),if_neg (by omega)]
    rfl
   simp[h2]]
  rfl
 refine ⟨?_,by rw[e1];exact hs,by rw[e2];exact e5,by rw[e2];exact e3,λ t=>?_⟩
 ·unfold y2t;rw[e1,e2,hpz,e6];show yP (y1Y l) _=0
  rw[hc,yQ,if_pos (by simp[lowT,hl]),yQ]
  unfold ckR;rw[if_neg (by omega),yQ,yQ,if_pos rfl]
 ·rw[e1];have h1:=yM9 n l (x.map (qG n)) t;rw[e4]at h1;rw[h1];exact ⟨rfl,rfl⟩
end Go.Tw
