/- The contracts and facts that the laws of this seat need, in one text (KR11, KR12, KR13, KR14, KR15, KR16, KR17, K19, KR18, KR19, KR20, De1, De2, De3, De4, Ck0, Cu1, Cu2, Cu3, Cu4, Cu5, Cu6, Cu7, Cu8). -/
import Derived.Test.YtmcbekbdnddmdaaGreatW8
set_option linter.all false
set_option maxHeartbeats 16000000
namespace Go.Ab
open Go.Proofs
theorem GL (l : List Vc) (ws : List Int) (h8 : l.length≤8) (hle : ws.length=l.length) (hl : l.all (aH 268435456)=true) (hw : WgOk ws) : ab Tryz.prog 121 [.pv (bb l),.pv (zs ws)] [] [] (.pv (aV (dI l ws l.length))):=by
 refine Dp Tryz.func121 ?_
 intro C hP hN
 simp only [Tryz.f121] at hN ⊢
 refine Gz ?_
 refine WP.loopN [] l.length (fun i st=>st.t 0=.pv (bb l)∧st.t 1=.pv (zs ws)∧st.t 4=.ptr 4 0∧st.h 4=some (.box [.pv (Z 0),.pv (Z 0),.pv (Z 0)] true false)∧st.t 5=.ptr 5 0∧st.h 5=some (.box [.pv (Z (dI l ws i).1),.pv (Z (dI l ws i).2.1),.pv (Z (dI l ws i).2.2)] true false)∧st.t 6=.pv (Z i)) (by simp [dI]) ?_
 rintro i st hi ⟨g0,g1,g4,hb4,g5,hb5,g6⟩
 by_cases hlt : i < l.length
 ·have hwr:=ag hlt (by omega)
  have hlt' : (i : Int) < (l.length : Int):=by omega
  have hltw : i < ws.length:=by omega
  generalize hxe : l[i]=p at *
  have hx : l[i]?=some p:=by rw [List.getElem?_eq_getElem hlt,hxe]
  generalize hye : ws[i]=k at *
  have hy : ws[i]?=some k:=by rw [List.getElem?_eq_getElem hltw,hye]
  have r0:=k8 hl hw i (by omega)
  have r1:=k8 hl hw (i+1) (by omega)
  have hk0:=hw.pos k (List.mem_of_getElem? hy)
  have hk1 : k≤65536:=by
   have a1:=pF hy
   have a2:=xM hw.pos i
   have a3:=ir hw.pos (show i+1≤ws.length by omega)
   have a4:=hw.tot
   omega
  have hp:=eP (List.all_eq_true.1 hl p (List.mem_of_getElem? hx))
  have hS : dI l ws (i+1)=((dI l ws i).1+k * p.1,(dI l ws i).2.1+k * p.2.1,(dI l ws i).2.2+k * p.2.2):=by simp only [dI,hx,hy]
  have m1:=bA (a:=k) (b:=p.1) 65536 268435456 (by omega) (by omega) hp.1.1 hp.1.2
  have m2:=bA (a:=k) (b:=p.2.1) 65536 268435456 (by omega) (by omega) hp.2.1.1 hp.2.1.2
  have m3:=bA (a:=k) (b:=p.2.2) 65536 268435456 (by omega) (by omega) hp.2.2.1 hp.2.2.2
  generalize dI l ws i=S at *
  generalize dI l ws (i+1)=S' at *
  subst hS
  obtain ⟨q1,q2,q3⟩:=r1
  simp only at q1 q2 q3
  have u1 : IntKind.i64.wrap (k * p.1)=k * p.1:=aa
  have u2 : IntKind.i64.wrap (k * p.2.1)=k * p.2.1:=aa
  have u3 : IntKind.i64.wrap (k * p.2.2)=k * p.2.2:=aa
  have v1 : IntKind.i64.wrap (S.1+k * p.1)=S.1+k * p.1:=aa
  have v2 : IntKind.i64.wrap (S.2.1+k * p.2.1)=S.2.1+k * p.2.1:=aa
  have v3 : IntKind.i64.wrap (S.2.2+k * p.2.2)=S.2.2+k * p.2.2:=aa
  clear r0 q1 q2 q3 m1 m2 m3 hp
  have hbeg : [AV.pv (Z S.1),AV.pv (Z S.2.1),AV.pv (Z S.2.2)]=pG S p k 0:=rfl
  rw [hbeg] at hb5
  refine Gz ?_
  refine WP.loopN [] 3 (fun j st=>st.t 0=.pv (bb l)∧st.t 1=.pv (zs ws)∧st.t 4=.ptr 4 0∧st.h 4=some (.box [.pv (Z 0),.pv (Z 0),.pv (Z 0)] true false)∧st.t 5=.ptr 5 0∧st.h 5=some (.box (pG S p k j) true false)∧st.t 6=.pv (Z i)∧st.t 7=.pv (Z j)) (by simp [g0,g1,g4,hb4,g5,g6,hb5,pG]) ?_
  clear g0 g1 g4 hb4 g5 g6 hb5
  rintro j st hj ⟨g0,g1,g4,hb4,g5,hb5,g6,g7⟩
  rcases bB hj with rfl|rfl|rfl|rfl
  all_goals (simp [pG] at hb5 g7)
  ·skip
   with_reducible repeat' (first|refine Sp.h ?_|((first|refine Wd ?_|refine Ss.h ?_|(refine Sb.h ?_ ?_ ?_<;>(try intro hgd)<;>try exact Xy))<;>simp -implicitDefEqProofs (maxSteps:=2000000) [hP,hN,g0,g1,g4,hb4,g5,hb5,g6,g7,hx,hxe,hy,hye,hlt,hlt',hltw,u1,v1,pG]<;>try refine Ya ?_)|refine X2 ?_ ?_|(refine Xd ?_ ?_<;>intro hcd<;>try exact Xx))
  ·skip
   with_reducible repeat' (first|refine Sp.h ?_|((first|refine Wd ?_|refine Ss.h ?_|(refine Sb.h ?_ ?_ ?_<;>(try intro hgd)<;>try exact Xy))<;>simp -implicitDefEqProofs (maxSteps:=2000000) [hP,hN,g0,g1,g4,hb4,g5,hb5,g6,g7,hx,hxe,hy,hye,hlt,hlt',hltw,u2,v2,pG]<;>try refine Ya ?_)|refine X2 ?_ ?_|(refine Xd ?_ ?_<;>intro hcd<;>try exact Xx))
  ·skip
   with_reducible repeat' (first|refine Sp.h ?_|((first|refine Wd ?_|refine Ss.h ?_|(refine Sb.h ?_ ?_ ?_<;>(try intro hgd)<;>try exact Xy))<;>simp -implicitDefEqProofs (maxSteps:=2000000) [hP,hN,g0,g1,g4,hb4,g5,hb5,g6,g7,hx,hxe,hy,hye,hlt,hlt',hltw,u3,v3,pG]<;>try refine Ya ?_)|refine X2 ?_ ?_|(refine Xd ?_ ?_<;>intro hcd<;>try exact Xx))
  ·skip
   exact Gy
 ·have hin : i=l.length:=by omega
  have hlt' : ¬ (i : Int) < (l.length : Int):=by omega
  subst hin
  exact Gy
theorem vV (l : List Int) (i : Nat) (y : Int) : (List.map Z l).set i (PV.val (Value.int IntKind.i64 y))=List.map Z (l.set i y):=by simp
theorem GM (w : List Int) (t : Int) (q : Nat) (h8 : w.length≤8) (hw : WgOk w) (hq : q < w.length) (ht : 0≤t) (ht2 : t≤256) : ab Tryz.prog 127 [.pv (zs w),.pv (Z t),.pv (Z q)] [] [] (.pv (zs (jD w q t))):=by
 have hg : jD w q t=(ed w t w.length).set q (((ed w t w.length)[q]?).getD 0+ep w t w.length):=rfl
 have hrng : ∀ k ∈ w,0≤k∧k≤65536:=fun k hk=>by
  obtain ⟨i,hi⟩:=List.getElem?_of_mem hk
  have a1:=pF hi
  have a2:=xM hw.pos i
  have a3:=ir hw.pos (show i+1≤w.length by have:=(List.getElem?_eq_some_iff.1 hi).1;omega)
  have a4:=hw.tot
  exact ⟨hw.pos k hk,by omega⟩
 have hlost:=sT hw.pos ht ht2
 have f1 : w.length * 8≤140737488355328:=by omega
 have f2 : w.length≤9223372036854775807:=by omega
 refine Dp Tryz.func127 ?_
 intro C hP hN
 simp only [Tryz.f127] at hN ⊢
 with_reducible repeat' (first|refine Sp.h ?_|((first|refine Ss.h ?_|(refine Sb.h ?_ ?_ ?_<;>(try intro hgd)<;>try exact Xy))<;>simp -implicitDefEqProofs (maxSteps:=2000000) [hP,hN,f1,f2])|refine X2 ?_ ?_|(refine Xd ?_ ?_<;>intro hcd<;>try exact Xx))
 refine WP.loopN [] w.length (fun i st=>st.t 1=.pv (Z t)∧st.t 2=.pv (Z q)∧st.t 7=.arr 12 w.length∧st.h 12=some (.row 2 1 ((ed w t i).map Z) 0)∧st.t 8=.pv (Z (ep w t i))∧st.t 9=.pv (Z i)) (by simp [uf,ep]) ?_
 rintro i st hi ⟨g1,g2,g7,hb,g8,g9⟩
 have hKl:=lP w t i
 have hl1:=hlost i
 have htw : aK w i≤65536:=by
  have:=ir hw.pos (show i≤w.length by omega)
  have:=hw.tot
  omega
 by_cases hlt : i < w.length
 ·have hwr:=ag hlt (by omega)
  have hlt' : (i : Int) < (w.length : Int):=by omega
  generalize hye : w[i]=k at *
  have hy : w[i]?=some k:=by rw [List.getElem?_eq_getElem hlt,hye]
  have hk:=hrng k (List.mem_of_getElem? hy)
  have hp:=pJ hk.1 ht ht2
  have hKi : (ed w t i)[i]?=some k:=by rw [jf,hy];simp
  have hKs:=ug (t:=t) hy
  have hls : ep w t (i+1)=ep w t i+k * t / 256:=by simp [ep,hy]
  have hl2:=hlost (i+1)
  have htw2 : aK w (i+1)≤65536:=by
   have:=ir hw.pos (show i+1≤w.length by omega)
   have:=hw.tot
   omega
  rw [hKs]
  rw [hls] at hl2 ⊢
  have hm : (List.map Z (ed w t i)).set i (PV.val (Value.int IntKind.i64 (k - k * t / 256)))=List.map Z ((ed w t i).set i (k - k * t / 256)):=vV _ _ _
  generalize ed w t i=K at *
  have hKe : ∀ h,K[i]'h=k:=fun h=>by rw [List.getElem?_eq_getElem h] at hKi;exact Option.some.inj hKi
  have w1 : IntKind.i64.wrap (k * t)=k * t:=aa
  have w2 : (k * t).tdiv 256=k * t / 256:=Int.tdiv_eq_ediv_of_nonneg (by omega)
  have w3 : IntKind.i64.wrap (k * t / 256)=k * t / 256:=aa
  have w4 : IntKind.i64.wrap (k - k * t / 256)=k - k * t / 256:=aa
  have w5 : IntKind.i64.wrap (ep w t i+k * t / 256)=ep w t i+k * t / 256:=aa
  generalize ep w t i=L at *
  with_reducible repeat' (first|refine Sp.h ?_|((first|refine Ss.h ?_|(refine Sb.h ?_ ?_ ?_<;>(try intro hgd)<;>try exact Xy))<;>simp -implicitDefEqProofs (maxSteps:=2000000) [hP,hN,g1,g2,g7,hb,g8,g9,hlt,hlt',hKi,hKe,hKl,w1,w2,w3,w4,w5,hwr,hm,-List.map_set])|refine X2 ?_ ?_|(refine Xd ?_ ?_<;>intro hcd<;>try exact Xx))
 ·have hin : i=w.length:=by omega
  have hlt' : ¬ (i : Int) < (w.length : Int):=by omega
  subst hin
  have hq' : (q : Int) < (w.length : Int):=by omega
  obtain ⟨u,hu⟩ : ∃ u,(ed w t w.length)[q]?=some u:=⟨_,List.getElem?_eq_getElem (by rw [hKl];exact hq)⟩
  have hur : 0≤u∧u≤65536:=by
   rw [jf] at hu
   obtain ⟨k,hk⟩ : ∃ k,w[q]?=some k:=⟨_,List.getElem?_eq_getElem hq⟩
   rw [hk] at hu
   simp only [Option.map_some,Option.some.injEq] at hu
   have hk2:=hrng k (List.mem_of_getElem? hk)
   have hp:=pJ hk2.1 ht ht2
   split at hu<;>omega
  rw [hg,hu]
  have hm : (List.map Z (ed w t w.length)).set q (PV.val (Value.int IntKind.i64 (u+ep w t w.length)))=List.map Z ((ed w t w.length).set q (u+ep w t w.length)):=vV _ _ _
  have w5 : IntKind.i64.wrap (u+ep w t w.length)=u+ep w t w.length:=aa
  generalize ed w t w.length=K at *
  have hKe : ∀ h,K[q]'h=u:=fun h=>by rw [List.getElem?_eq_getElem h] at hu;exact Option.some.inj hu
  generalize ep w t w.length=L at *
  with_reducible repeat' (first|refine Sp.h ?_|((first|refine Ss.h ?_|(refine Sb.h ?_ ?_ ?_<;>(try intro hgd)<;>try exact Xy))<;>simp -implicitDefEqProofs (maxSteps:=2000000) [hP,hN,g1,g2,g7,hb,g8,g9,hlt',hq,hq',hu,hKe,hKl,w5,hm,-List.map_set])|refine X2 ?_ ?_|(refine Xd ?_ ?_<;>intro hcd<;>try exact Xx))
theorem HK (x : Int) (a : Nat) : (x.tdiv (a : Int)).tdiv 2=x.tdiv ((a * 2 : Nat) : Int):=by
 have h : ∀ n : Nat,((n : Int).tdiv (a : Int)).tdiv 2=(n : Int).tdiv ((a * 2 : Nat) : Int):=fun n=>by
  have e : ∀ p q : Nat,(p : Int).tdiv (q : Int)=((p / q : Nat) : Int):=fun p q=>by rw [Int.tdiv_eq_ediv_of_nonneg (by omega),Int.natCast_ediv]
  rw [e n a,show (2 : Int)=((2 : Nat) : Int) from rfl,e,e,Nat.div_div_eq_div_mul]
 rcases Int.le_total 0 x with hx|hx
 ·have:=h x.toNat
  rw [Int.toNat_of_nonneg hx] at this
  exact this
 ·have:=h (-x).toNat
  rw [Int.toNat_of_nonneg (by omega)] at this
  rw [Int.neg_tdiv,Int.neg_tdiv,Int.neg_tdiv] at this
  omega
def gC (i : Nat) (v : Vc) : Vc:=(v.1.tdiv ((2 ^ i : Nat) : Int),v.2.1.tdiv ((2 ^ i : Nat) : Int),v.2.2.tdiv ((2 ^ i : Nat) : Int))
theorem DQ (v : Vc) : gC 0 v=v:=by simp [gC]
theorem DR (i : Nat) (v : Vc) : pV (gC i v)=gC (i+1) v:=by
 simp only [pV,gC,HK,Nat.pow_succ]
theorem ur {v : Vc} : ∀ (i : Nat),i≤64→(∀ j,j < i→aH 16384 (gC j v)=false)→jP 64 v=jP (64 - i) (gC i v)
 |0,_,_=>by rw [DQ]
 |i+1,hi,h=>by
  rw [ur i (by omega) (fun j hj=>h j (by omega)),show 64 - i=(64 - (i+1))+1 by omega,jP,if_neg (by rw [h i (by omega)];simp),DR]
theorem zo {n : Nat} {v : Vc} (h : aH 16384 v=true) : jP n v=v:=by
 cases n with
 |zero=>rfl
 |succ n=>rw [jP,if_pos h]
theorem Cr {v : Vc} {i : Nat} (hi : i≤64) (h : ∀ j,j < i→aH 16384 (gC j v)=false) (hn : aH 16384 (gC i v)=true) : bm v=gC i v:=by
 unfold bm
 rw [ur i hi h,zo hn]
theorem Fh {v : Vc} (h : aH 16384 v=false) : nz (pV v)=true:=by
 have hn : ¬ (aH 16384 v=true):=by rw [h];simp
 rw [dz,bH,bH,bH] at hn
 cases hz : nz (pV v) with
 |true=>rfl
 |false=>
  exfalso
  simp only [nz,pV,Bool.not_eq_false',Bool.and_eq_true,beq_iff_eq] at hz
  obtain ⟨⟨z1,z2⟩,z3⟩:=hz
  have t : ∀ x : Int,x.tdiv 2=0→-2 < x∧x < 2:=fun x hx=>by
   have:=Int.mul_tdiv_add_tmod x 2
   have:=Int.lt_tmod_of_pos x (show (0 : Int) < 2 by decide)
   have:=Int.tmod_lt_of_pos x (show (0 : Int) < 2 by decide)
   omega
  have a:=t _ z1
  have b:=t _ z2
  have c:=t _ z3
  omega
theorem yl : ∀ (n : Nat) (v : Vc),nz v=true→nz (jP n v)=true
 |0,v,h=>h
 |n+1,v,h=>by
  rw [jP]
  split
  ·exact h
  ·rename_i hn
   exact yl n _ (Fh (by simpa using hn))
theorem Fi {v : Vc} (h : eQ 1099511627776 v) : aH 16384 (gC 26 v)=true:=by
 have t : ∀ x : Int,-1099511627776≤x→x≤1099511627776→-16384≤x.tdiv ((2 ^ 26 : Nat) : Int)∧x.tdiv ((2 ^ 26 : Nat) : Int)≤16384:=fun x a b=>by
  have e:=Int.mul_tdiv_add_tmod x ((2 ^ 26 : Nat) : Int)
  have e1:=Int.lt_tmod_of_pos x (show (0 : Int) < ((2 ^ 26 : Nat) : Int) by decide)
  have e2:=Int.tmod_lt_of_pos x (show (0 : Int) < ((2 ^ 26 : Nat) : Int) by decide)
  have hk : ((2 ^ 26 : Nat) : Int)=67108864:=by decide
  rw [hk] at e e1 e2 ⊢
  omega
 have a:=t _ h.1.1 h.1.2
 have b:=t _ h.2.1.1 h.2.1.2
 have c:=t _ h.2.2.1 h.2.2.2
 rw [dz,bH,bH,bH]
 simp only [gC]
 omega
@[simp] theorem K0 {dst : Option Nat} {ty : TypeId} {pos : String} {aft : Array Edge} {g : Option (Nat × Bool)} {ρ : Operand→AV} (x y : Operand) :
 aT Tryz.prog ⟨dst,.binOp .eql 60 x y 60,ty,pos,aft,g⟩ ρ=Bc (ρ x) (ρ y) (fc Tryz.prog ⟨dst,.binOp .eql 60 x y 60,ty,pos,aft,g⟩ ρ):=by
 unfold Bc
 split
 ·rename_i a b e c d f hx hy
  exact po rfl (mB hx) (mB hy) (by kernel_rfl) (EK a b e c d f)
 ·rfl
@[simp] theorem Hk (a b e c d f : Int) (fb : Option bt) : Bc (.pv (.val (.agg #[.int .i64 a,.int .i64 b,.int .i64 e]))) (.pv (.val (.agg #[.int .i64 c,.int .i64 d,.int .i64 f]))) fb=some (.pv (.val (.bool (a==c && b==d && e==f))),[]):=rfl
theorem GN (v : Vc) (h : eQ 1099511627776 v) : ab Tryz.prog 123 [.pv (aV v)] [] [] (.pv (.tup [aV (bm v),B (nz (bm v))])):=by
 cases hz : nz v with
 |false=>
  have hz' : (v.1==0 && v.2.1==0 && v.2.2==0)=true:=by simpa [nz] using hz
  have hv0 : v=(0,0,0):=by
   simp only [Bool.and_eq_true,beq_iff_eq] at hz'
   obtain ⟨⟨a,b⟩,c⟩:=hz'
   exact Prod.ext a (Prod.ext b c)
  subst hv0
  have hn : bm (0,0,0)=(0,0,0):=by decide +kernel
  rw [hn,hz]
  refine Dp Tryz.func123 ?_
  intro C hP hN
  simp only [Tryz.f123] at hN ⊢
  exact Gy
 |true=>
  have hz' : (v.1==0 && v.2.1==0 && v.2.2==0)=false:=by
   have:=hz
   simp only [nz,Bool.not_eq_true'] at this
   exact this
  have hnz : nz (bm v)=true:=yl 64 v hz
  rw [hnz]
  have p2 : ∀ i,i≤26→(2 ^ i : Nat)≤67108864:=fun i hi=>Nat.pow_le_pow_right (by decide) hi
  have p1 : ∀ i,0 < (2 ^ i : Nat):=fun i=>Nat.pow_pos (by decide)
  refine Dp Tryz.func123 ?_
  intro C hP hN
  simp only [Tryz.f123] at hN ⊢
  refine Gz ?_
  refine WP.loopN [5] 26 (fun i st=>st.t 1=.ptr 1 0∧st.h 1=some (.box [.pv (Z v.1),.pv (Z v.2.1),.pv (Z v.2.2)] true false)∧st.t 2=.ptr 2 0∧st.h 2=some (.box [.pv (Z 0),.pv (Z 0),.pv (Z 0)] true false)∧st.t 4=.pv (Z ((2 ^ i : Nat) : Int))∧st.h 5=none∧∀ j,j < i→aH 16384 (gC j v)=false) (by simp) ?_
  rintro i st hi ⟨g1,hb1,g2,hb2,g4,hb5,hq⟩
  have ha:=p2 i hi
  have hb:=p1 i
  have hne : ¬ ((2 ^ i : Nat) : Int)=0:=by omega
  have hne' : ¬ (2 ^ i : Nat)=0:=by omega
  have cn:=qM (gC i v).1 (gC i v).2.1 (gC i v).2.2 16384 (by decide) (by decide)
  have hnp : aH 16384 (gC i v)=eH (gC i v).1 (gC i v).2.1 (gC i v).2.2 16384:=rfl
  rw [← hnp] at cn
  have hx1 : (gC i v).1=v.1.tdiv ((2 ^ i : Nat) : Int):=rfl
  have hx2 : (gC i v).2.1=v.2.1.tdiv ((2 ^ i : Nat) : Int):=rfl
  have hx3 : (gC i v).2.2=v.2.2.tdiv ((2 ^ i : Nat) : Int):=rfl
  have tb : ∀ x : Int,-1099511627776≤x→x≤1099511627776→IntKind.i64.wrap (x.tdiv ((2 ^ i : Nat) : Int))=x.tdiv ((2 ^ i : Nat) : Int):=fun x a b=>by
   have e:=Int.natAbs_tdiv_le_natAbs x ((2 ^ i : Nat) : Int)
   exact aa (by omega) (by omega)
  have t1:=tb _ h.1.1 h.1.2
  have t2:=tb _ h.2.1.1 h.2.1.2
  have t3:=tb _ h.2.2.1 h.2.2.2
  rw [← hx1] at t1
  rw [← hx2] at t2
  rw [← hx3] at t3
  have hpw : (2 ^ (i+1) : Nat)=2 ^ i * 2:=Nat.pow_succ 2 i
  have w4 : IntKind.i64.wrap (((2 ^ i : Nat) : Int) * 2)=((2 ^ (i+1) : Nat) : Int):=(aa (by omega) (by omega)).trans (by omega)
  have hat:=fun hn=>Cr (v:=v) (i:=i) (by omega) hq hn
  have hN26 : aH 16384 (gC i v)=false→i < 26:=fun hf=>by
   by_cases h26 : i < 26
   ·exact h26
   ·have : i=26:=by omega
    subst this
    rw [Fi h] at hf;cases hf
  have hqs : aH 16384 (gC i v)=false→∀ j,j < i+1→aH 16384 (gC j v)=false:=fun hf j hj=>by
   by_cases e : j=i
   ·subst e;exact hf
   ·exact hq j (by omega)
  generalize hH : gC i v=Hv at *
  generalize hPW : (2 ^ (i+1) : Nat)=pw' at *
  generalize (2 ^ i : Nat)=pw at *
  cases hc : aH 16384 Hv with
  |true=>
   rw [hc] at cn
   have he:=hat hc
   rw [he]
   with_reducible repeat' (first|refine Sp.h ?_|((first|refine Wd ?_|refine Ss.h ?_|refine Sc.h (cn) ?_|(refine Sb.h ?_ ?_ ?_<;>(try intro hgd)<;>try exact Xy))<;>simp -implicitDefEqProofs (maxSteps:=2000000) [hP,hN,g1,hb1,g2,hb2,g4,hb5,hne,hne',← hx1,← hx2,← hx3,t1,t2,t3]<;>try refine Ya ?_)|refine X2 ?_ ?_|(refine Xd ?_ ?_<;>intro hcd<;>try exact Xx))
  |false=>
   rw [hc] at cn
   have h26:=hN26 hc
   have hqs':=hqs hc
   with_reducible repeat' (first|refine Sp.h ?_|((first|refine Wd ?_|refine Ss.h ?_|refine Sc.h (cn) ?_|(refine Sb.h ?_ ?_ ?_<;>(try intro hgd)<;>try exact Xy))<;>simp -implicitDefEqProofs (maxSteps:=2000000) [hP,hN,g1,hb1,g2,hb2,g4,hb5,hne,hne',← hx1,← hx2,← hx3,t1,t2,t3,w4]<;>try refine Ya ?_)|refine X2 ?_ ?_|(refine Xd ?_ ?_<;>intro hcd<;>try exact Xx))
   all_goals exact ⟨h26,hqs'⟩
end Go.Ab
namespace Go.Ab
open Go.Proofs
theorem lT {bet : Int→Int→Bool} {n p0 : Vc} {l : List Vc} (h0 : l[0]?=some p0) : ∀ i,∃ p,l[(dU bet n p0 l i).2]?=some p∧(dU bet n p0 l i).1=bP n p
 |0=>⟨p0,h0,rfl⟩
 |i+1=>by
  obtain ⟨p,hp,hv⟩:=lT (bet:=bet) (n:=n) h0 i
  cases hx : l[i]? with
  |none=>simp only [dU,hx];exact ⟨p,hp,hv⟩
  |some v=>
   rw [pH hx]
   split
   ·exact ⟨v,hx,rfl⟩
   ·exact ⟨p,hp,hv⟩
theorem GO (n : Vc) (l : List Vc) (hn : aH 16384 n=true) (h1 : 1≤l.length) (h8 : l.length≤8) (hl : l.all (aH 268435456)=true) : ab Tryz.prog 124 [.pv (aV n),.pv (bb l),.pv (Z 1)] [] [] (.pv (Z (dv fl n l).2)):=by
 obtain ⟨p0,hp0⟩ : ∃ p0,l[0]?=some p0:=⟨_,List.getElem?_eq_getElem (by omega)⟩
 have hb : dv fl n l=dU fl n p0 l l.length:=by simp [dv,hp0]
 have hval:=lT (bet:=fl) (n:=n) hp0
 have hlt0:=pI (bet:=fl) (n:=n) (p0:=p0) (l:=l) (by omega)
 have hsm:=qZ hn
 have hdot : ∀ p ∈ l,ab Tryz.prog 125 [.pv (aV n),.pv (aV p)] [] [] (.pv (Z (bP n p)))∧-13194139533312≤bP n p∧bP n p≤13194139533312:=fun p hp=>by
  have hq:=eP (List.all_eq_true.1 hl p hp)
  exact ⟨vd n p 16384 268435456 hsm hq (by decide),nP hsm hq⟩
 rw [hb]
 refine Dp Tryz.func124 ?_
 intro C hP hN
 simp only [Tryz.f124] at hN ⊢
 refine Gz ?_
 refine WP.loopN [] (l.length - 1) (fun i st=>st.t 3=.ptr 3 0∧st.h 3=some (.box [.pv (Z n.1),.pv (Z n.2.1),.pv (Z n.2.2)] true false)∧st.t 1=.pv (bb l)∧st.t 2=.pv (Z 1)∧st.t 8=.pv (Z ((i+1 : Nat) : Int))∧st.t 7=.pv (Z (dU fl n p0 l (i+1)).2)) (by simp [dU,hp0,fl]) ?_
 rintro i st hi ⟨g3,hb3,g1,g2,g8,g7⟩
 obtain ⟨m,hm⟩ : ∃ m,m=i+1:=⟨_,rfl⟩
 have hm2 : i+1+1=m+1:=by omega
 rw [← hm] at g8 g7
 rw [hm2]
 by_cases hlt : m < l.length
 ·have hw : IntKind.i64.wrap ((m : Int)+1)=((m+1 : Nat) : Int):=(aa (by omega) (by omega)).trans (by omega)
  have hlt' : (m : Int) < (l.length : Int):=by omega
  have hi2 : i < l.length - 1:=by omega
  obtain ⟨p,hp,hpv⟩:=hval m
  have hls:=hlt0 m
  generalize hxe : l[m]=v at *
  have hx : l[m]?=some v:=by rw [List.getElem?_eq_getElem hlt,hxe]
  obtain ⟨d1,d1a,d1b⟩:=hdot v (List.mem_of_getElem? hx)
  obtain ⟨d2,d2a,d2b⟩:=hdot p (List.mem_of_getElem? hp)
  have hs:=pH (bet:=fl) (n:=n) (p0:=p0) hx
  rw [hs,hpv]
  generalize hqq : (dU fl n p0 l m).2=q at *
  have hpe : ∀ h,l[q]'h=p:=fun h=>by rw [List.getElem?_eq_getElem h] at hp;exact Option.some.inj hp
  generalize bP n v=x at *
  generalize bP n p=y at *
  have w1 : IntKind.i64.wrap x=x:=aa
  have w2 : IntKind.i64.wrap y=y:=aa
  have w3 : IntKind.i64.wrap (-x)=-x:=aa
  have w4 : IntKind.i64.wrap (-y)=-y:=aa
  have w5 : IntKind.i64.wrap (-1 * x)=-x:=(aa (by omega) (by omega)).trans (by omega)
  have w6 : IntKind.i64.wrap (-1 * y)=-y:=(aa (by omega) (by omega)).trans (by omega)
  have w7 : IntKind.i64.wrap (1 * x)=x:=(aa (by omega) (by omega)).trans (by omega)
  have w8 : IntKind.i64.wrap (1 * y)=y:=(aa (by omega) (by omega)).trans (by omega)
  by_cases hc : x < y
  ·have hbt : fl x y=true:=by simp only [fl,decide_eq_true_eq];omega
   rw [hbt]
   simp only [if_true]
   with_reducible repeat' (first|refine Sp.h ?_|((first|refine Wd ?_|refine Ss.h ?_|refine Sc.h (d1) ?_|refine Sc.h (d2) ?_|(refine Sb.h ?_ ?_ ?_<;>(try intro hgd)<;>try exact Xy))<;>simp -implicitDefEqProofs (maxSteps:=2000000) [hP,hN,g3,hb3,g1,g2,g8,g7,hlt,hlt',hw,hx,hxe,hp,hpe,hls,hi2,w1,w2,w3,w4,w5,w6,w7,w8,hc]<;>try refine Ya ?_)|refine X2 ?_ ?_|(refine Xd ?_ ?_<;>intro hcd<;>try exact Xx))
  ·have hbt : fl x y=false:=by simp only [fl,decide_eq_false_iff_not];omega
   rw [hbt]
   simp only [Bool.false_eq_true,if_false]
   with_reducible repeat' (first|refine Sp.h ?_|((first|refine Wd ?_|refine Ss.h ?_|refine Sc.h (d1) ?_|refine Sc.h (d2) ?_|(refine Sb.h ?_ ?_ ?_<;>(try intro hgd)<;>try exact Xy))<;>simp -implicitDefEqProofs (maxSteps:=2000000) [hP,hN,g3,hb3,g1,g2,g8,g7,hlt,hlt',hw,hx,hxe,hp,hpe,hls,hi2,w1,w2,w3,w4,w5,w6,w7,w8,hc]<;>try refine Ya ?_)|refine X2 ?_ ?_|(refine Xd ?_ ?_<;>intro hcd<;>try exact Xx))
   all_goals rw [hqq]
 ·have hin : m=l.length:=by omega
  have hlt' : ¬ (m : Int) < (l.length : Int):=by omega
  subst hin
  exact Gy
theorem GP (n : Vc) (l : List Vc) (hn : aH 16384 n=true) (h1 : 1≤l.length) (h8 : l.length≤8) (hl : l.all (aH 268435456)=true) : ab Tryz.prog 124 [.pv (aV n),.pv (bb l),.pv (Z (-1))] [] [] (.pv (Z (dv fo n l).2)):=by
 obtain ⟨p0,hp0⟩ : ∃ p0,l[0]?=some p0:=⟨_,List.getElem?_eq_getElem (by omega)⟩
 have hb : dv fo n l=dU fo n p0 l l.length:=by simp [dv,hp0]
 have hval:=lT (bet:=fo) (n:=n) hp0
 have hlt0:=pI (bet:=fo) (n:=n) (p0:=p0) (l:=l) (by omega)
 have hsm:=qZ hn
 have hdot : ∀ p ∈ l,ab Tryz.prog 125 [.pv (aV n),.pv (aV p)] [] [] (.pv (Z (bP n p)))∧-13194139533312≤bP n p∧bP n p≤13194139533312:=fun p hp=>by
  have hq:=eP (List.all_eq_true.1 hl p hp)
  exact ⟨vd n p 16384 268435456 hsm hq (by decide),nP hsm hq⟩
 rw [hb]
 refine Dp Tryz.func124 ?_
 intro C hP hN
 simp only [Tryz.f124] at hN ⊢
 refine Gz ?_
 refine WP.loopN [] (l.length - 1) (fun i st=>st.t 3=.ptr 3 0∧st.h 3=some (.box [.pv (Z n.1),.pv (Z n.2.1),.pv (Z n.2.2)] true false)∧st.t 1=.pv (bb l)∧st.t 2=.pv (Z (-1))∧st.t 8=.pv (Z ((i+1 : Nat) : Int))∧st.t 7=.pv (Z (dU fo n p0 l (i+1)).2)) (by simp [dU,hp0,fo]) ?_
 rintro i st hi ⟨g3,hb3,g1,g2,g8,g7⟩
 obtain ⟨m,hm⟩ : ∃ m,m=i+1:=⟨_,rfl⟩
 have hm2 : i+1+1=m+1:=by omega
 rw [← hm] at g8 g7
 rw [hm2]
 by_cases hlt : m < l.length
 ·have hw : IntKind.i64.wrap ((m : Int)+1)=((m+1 : Nat) : Int):=(aa (by omega) (by omega)).trans (by omega)
  have hlt' : (m : Int) < (l.length : Int):=by omega
  have hi2 : i < l.length - 1:=by omega
  obtain ⟨p,hp,hpv⟩:=hval m
  have hls:=hlt0 m
  generalize hxe : l[m]=v at *
  have hx : l[m]?=some v:=by rw [List.getElem?_eq_getElem hlt,hxe]
  obtain ⟨d1,d1a,d1b⟩:=hdot v (List.mem_of_getElem? hx)
  obtain ⟨d2,d2a,d2b⟩:=hdot p (List.mem_of_getElem? hp)
  have hs:=pH (bet:=fo) (n:=n) (p0:=p0) hx
  rw [hs,hpv]
  generalize hqq : (dU fo n p0 l m).2=q at *
  have hpe : ∀ h,l[q]'h=p:=fun h=>by rw [List.getElem?_eq_getElem h] at hp;exact Option.some.inj hp
  generalize bP n v=x at *
  generalize bP n p=y at *
  have w1 : IntKind.i64.wrap x=x:=aa
  have w2 : IntKind.i64.wrap y=y:=aa
  have w3 : IntKind.i64.wrap (-x)=-x:=aa
  have w4 : IntKind.i64.wrap (-y)=-y:=aa
  have w5 : IntKind.i64.wrap (-1 * x)=-x:=(aa (by omega) (by omega)).trans (by omega)
  have w6 : IntKind.i64.wrap (-1 * y)=-y:=(aa (by omega) (by omega)).trans (by omega)
  have w7 : IntKind.i64.wrap (1 * x)=x:=(aa (by omega) (by omega)).trans (by omega)
  have w8 : IntKind.i64.wrap (1 * y)=y:=(aa (by omega) (by omega)).trans (by omega)
  by_cases hc : y < x
  ·have hbt : fo x y=true:=by simp only [fo,decide_eq_true_eq];omega
   rw [hbt]
   simp only [if_true]
   with_reducible repeat' (first|refine Sp.h ?_|((first|refine Wd ?_|refine Ss.h ?_|refine Sc.h (d1) ?_|refine Sc.h (d2) ?_|(refine Sb.h ?_ ?_ ?_<;>(try intro hgd)<;>try exact Xy))<;>simp -implicitDefEqProofs (maxSteps:=2000000) [hP,hN,g3,hb3,g1,g2,g8,g7,hlt,hlt',hw,hx,hxe,hp,hpe,hls,hi2,w1,w2,w3,w4,w5,w6,w7,w8,hc]<;>try refine Ya ?_)|refine X2 ?_ ?_|(refine Xd ?_ ?_<;>intro hcd<;>try exact Xx))
  ·have hbt : fo x y=false:=by simp only [fo,decide_eq_false_iff_not];omega
   rw [hbt]
   simp only [Bool.false_eq_true,if_false]
   with_reducible repeat' (first|refine Sp.h ?_|((first|refine Wd ?_|refine Ss.h ?_|refine Sc.h (d1) ?_|refine Sc.h (d2) ?_|(refine Sb.h ?_ ?_ ?_<;>(try intro hgd)<;>try exact Xy))<;>simp -implicitDefEqProofs (maxSteps:=2000000) [hP,hN,g3,hb3,g1,g2,g8,g7,hlt,hlt',hw,hx,hxe,hp,hpe,hls,hi2,w1,w2,w3,w4,w5,w6,w7,w8,hc]<;>try refine Ya ?_)|refine X2 ?_ ?_|(refine Xd ?_ ?_<;>intro hcd<;>try exact Xx))
   all_goals rw [hqq]
 ·have hin : m=l.length:=by omega
  have hlt' : ¬ (m : Int) < (l.length : Int):=by omega
  subst hin
  exact Gy
end Go.Ab
namespace Go.Ab
open Go.Proofs
theorem Fj {ws : List Int} (h : ∀ w ∈ ws,0≤w) : ∀ {i j : Nat},i≤j→aK ws i≤aK ws j:=fun hij=>ir h hij
theorem Cs {w : Int} : wB w=true↔0≤w∧w≤65536:=by
 simp only [wB,Bool.not_eq_true',Bool.or_eq_false_iff,decide_eq_false_iff_not];omega
theorem DS {l : List ar} {ws : List Int} (hp : aw l=true) (hle : ws.length=l.length) : cW l ws=true↔(∀ w ∈ ws,0≤w∧w≤65536)∧1≤aK ws ws.length∧aK ws ws.length≤65536:=by
 simp only [cW,hp,hle,decide_true,Bool.true_and,Bool.and_eq_true,List.all_eq_true,Cs,Bool.not_eq_true',Bool.or_eq_false_iff,decide_eq_false_iff_not]
 rw [← hle]
 constructor
 ·rintro ⟨h1,h2⟩;exact ⟨h1,by omega,by omega⟩
 ·rintro ⟨h1,h2⟩;exact ⟨h1,by omega,by omega⟩
set_option maxRecDepth 4000 in
theorem GQ (l : List ar) (ws : List Int) (hl : l.length≤9223372036854775807) (hws : ws.length≤9223372036854775807) : ab Tryz.prog 157 [.pv (aP l),.pv (zs ws)] [] [] (.pv (dX l ws)):=by
 have cp:=rl l hl
 have z6 : bg aR=V6 0 0 0 0 0 0:=rfl
 have hno : cW l ws=false→dX l ws=.tup [V6 0 0 0 0 0 0,Z 0,B false]:=fun hf=>by unfold dX;rw [hf];rfl
 cases hp : aw l with
 |false=>
  rw [hp] at cp
  rw [hno (by simp [cW,hp])]
  refine Dp Tryz.func157 ?_
  intro C hP hN
  simp only [Tryz.f157] at hN ⊢
  exact Gy
 |true=>
 rw [hp] at cp
 by_cases hle : ws.length=l.length
 case neg=>
  have hle' : ((ws.length : Int) !=(l.length : Int))=true:=by simp;omega
  have hle2 : ¬ (ws.length : Int)=(l.length : Int):=by omega
  rw [hno (by simp [cW,hle])]
  refine Dp Tryz.func157 ?_
  intro C hP hN
  simp only [Tryz.f157] at hN ⊢
  exact Gy
 have hle' : ((ws.length : Int) !=(l.length : Int))=false:=by simp [hle]
 have hcb:=DS hp hle
 have hp':=hp
 simp only [aw,Bool.and_eq_true,decide_eq_true_eq] at hp'
 obtain ⟨⟨hp1,hp2⟩,hp3⟩:=hp'
 have hpv:=List.all_eq_true.1 hp3
 refine Dp Tryz.func157 ?_
 intro C hP hN
 simp only [Tryz.f157] at hN ⊢
 refine Gz ?_
 refine WP.loopN [] ws.length (fun i st=>st.t 0=.pv (aP l)∧st.t 1=.pv (zs ws)∧st.t 4=.ptr 4 0∧st.h 4=some (.box (b6 aR) true false)∧st.t 7=.pv (Z (aK ws i))∧st.t 8=.pv (Z i)∧st.h 9=none∧(∀ k w,k < i→ws[k]?=some w→0≤w∧w≤65536)∧0≤aK ws i∧aK ws i≤65536) (by simp [aK,aR]) ?_
 rintro i st hi ⟨g0,g1,g4,hb4,g7,g8,hb9,hq,t0,t1⟩
 by_cases hlt : i < ws.length
 ·have hw:=ag hlt hws
  have hlt' : (i : Int) < (ws.length : Int):=by omega
  generalize hxe : ws[i]=w at *
  have hx : ws[i]?=some w:=by rw [List.getElem?_eq_getElem hlt,hxe]
  have hT : aK ws (i+1)=aK ws i+w:=by simp only [aK,hx,Option.getD_some]
  have wS : IntKind.i64.wrap (65536 - aK ws i)=65536 - aK ws i:=aa
  have hall:=hcb.1
  have hmono:=Fj (ws:=ws)
  by_cases h9 : w < 0
  ·rw [hno (by
    cases hc : cW l ws with
    |false=>rfl
    |true=>have:=((hcb.1 hc).1 w (List.mem_of_getElem? hx));omega)]
   exact Gy
  ·by_cases h10 : 65536 - aK ws i < w
   ·rw [hno (by
     cases hc : cW l ws with
     |false=>rfl
     |true=>
      obtain ⟨c1,c2,c3⟩:=hcb.1 hc
      have:=hmono (fun w hw=>(c1 w hw).1) (show i+1≤ws.length by omega)
      omega)]
    exact Gy
   ·have wT : IntKind.i64.wrap (aK ws i+w)=aK ws i+w:=aa
    have hst : ∀ k u,k < i+1→ws[k]?=some u→0≤u∧u≤65536:=fun k u hk hu=>by
     by_cases e : k=i
     ·subst e;rw [hx] at hu;injection hu with hu;subst hu;omega
     ·exact hq k u (by omega) hu
    have t2 : 0≤aK ws i+w∧aK ws i+w≤65536:=by omega
    rw [hT]
    generalize aK ws i=T at *
    with_reducible repeat' (first|refine Sp.h ?_|((first|refine Wd ?_|refine Ss.h ?_|(refine Sb.h ?_ ?_ ?_<;>(try intro hgd)<;>try exact Xy))<;>simp -implicitDefEqProofs (maxSteps:=2000000) [hP,hN,g0,g1,g4,hb4,g7,g8,hb9,hlt,hlt',hx,hxe,h9,wS,h10,wT,hw]<;>try refine Ya ?_)|refine X2 ?_ ?_|(refine Xd ?_ ?_<;>intro hcd<;>try exact Xx))
    all_goals exact ⟨hst,t2⟩
 ·have hin : i=ws.length:=by omega
  have hlt' : ¬ (i : Int) < (ws.length : Int):=by omega
  have hall : ∀ w ∈ ws,0≤w∧w≤65536:=fun w hw=>by
   obtain ⟨k,hk⟩:=List.getElem?_of_mem hw
   exact hq k w (by have:=(List.getElem?_eq_some_iff.1 hk).1;omega) hk
  subst hin
  by_cases h1 : aK ws ws.length < 1
  ·rw [hno (by
    cases hc : cW l ws with
    |false=>rfl
    |true=>have:=hcb.1 hc;omega)]
   exact Gy
  ·have hcT : cW l ws=true:=hcb.2 ⟨hall,by omega,by omega⟩
   have hR : dX l ws=.tup [bg (bQ l ws ws.length),Z (aK ws ws.length),B true]:=by unfold dX;rw [hcT];rfl
   rw [hR]
   have hwB : ∀ w ∈ ws,wB w=true:=fun w hw=>Cs.2 (hall w hw)
   have hrng:=sZ hpv hwB
   have hb4' : st.h 4=some (.box [.pv (Z 0),.pv (Z 0),.pv (Z 0),.pv (Z 0),.pv (Z 0),.pv (Z 0)] true false):=hb4
   clear hb4 hcb hno hq z6
   generalize aK ws ws.length=T at *
   refine Gz ?_
   refine WP.loopN [] l.length (fun i st=>st.t 0=.pv (aP l)∧st.t 1=.pv (zs ws)∧st.t 4=.ptr 4 0∧st.h 4=some (.box [.pv (Z 0),.pv (Z 0),.pv (Z 0),.pv (Z 0),.pv (Z 0),.pv (Z 0)] true false)∧st.t 7=.pv (Z T)∧st.t 9=.ptr 9 0∧st.h 9=some (.box (b6 (bQ l ws i)) true false)∧st.t 10=.pv (Z i)) (by simp [bQ,aR,g0,g1,g4,hb4',g7]) ?_
   clear g0 g1 g4 hb4' g7 g8 hb9 hlt' hlt hi
   rintro i st hi ⟨g0,g1,g4,hb4,g7,g9,hb9,g10⟩
   by_cases hlt : i < l.length
   ·have hw:=ag hlt (by omega)
    have hlt' : (i : Int) < (l.length : Int):=by omega
    have hltw : i < ws.length:=by omega
    generalize hxe : ws[i]=w at *
    have hx : ws[i]?=some w:=by rw [List.getElem?_eq_getElem hltw,hxe]
    generalize hye : l[i]=x at *
    have hy : l[i]?=some x:=by rw [List.getElem?_eq_getElem hlt,hye]
    have hwb:=hall w (List.mem_of_getElem? hx)
    have hpx:=hpv x (List.mem_of_getElem? hy)
    rw [eS] at hpx
    have hS : bQ l ws (i+1)=mz w (bQ l ws i) x:=by simp only [bQ,hx,hy]
    obtain ⟨r1,r2,r3⟩:=hrng i
    have a1:=fu (w:=w) (x:=x.1) hwb hpx.1 r1
    have a2:=fu (w:=w) (x:=x.2.1) hwb hpx.2.1 r2
    have a3:=fu (w:=w) (x:=x.2.2) hwb hpx.2.2 r3
    clear hrng hall hwB hpv
    generalize bQ l ws i=S at *
    generalize bQ l ws (i+1)=S' at *
    subst hS
    have d1 : (bL w S.1 x.1).1=S.1.1+w * x.1.1:=rfl
    have d2 : (bL w S.1 x.1).2=S.1.2+w * x.1.2:=rfl
    have d3 : (bL w S.2.1 x.2.1).1=S.2.1.1+w * x.2.1.1:=rfl
    have d4 : (bL w S.2.1 x.2.1).2=S.2.1.2+w * x.2.1.2:=rfl
    have d5 : (bL w S.2.2 x.2.2).1=S.2.2.1+w * x.2.2.1:=rfl
    have d6 : (bL w S.2.2 x.2.2).2=S.2.2.2+w * x.2.2.2:=rfl
    rw [d1,d2] at a1
    rw [d3,d4] at a2
    rw [d5,d6] at a3
    have u1 : IntKind.i64.wrap (w * x.1.1)=w * x.1.1:=aa
    have u2 : IntKind.i64.wrap (w * x.1.2)=w * x.1.2:=aa
    have u3 : IntKind.i64.wrap (w * x.2.1.1)=w * x.2.1.1:=aa
    have u4 : IntKind.i64.wrap (w * x.2.1.2)=w * x.2.1.2:=aa
    have u5 : IntKind.i64.wrap (w * x.2.2.1)=w * x.2.2.1:=aa
    have u6 : IntKind.i64.wrap (w * x.2.2.2)=w * x.2.2.2:=aa
    have v1 : IntKind.i64.wrap (S.1.1+w * x.1.1)=S.1.1+w * x.1.1:=aa
    have v2 : IntKind.i64.wrap (S.1.2+w * x.1.2)=S.1.2+w * x.1.2:=aa
    have v3 : IntKind.i64.wrap (S.2.1.1+w * x.2.1.1)=S.2.1.1+w * x.2.1.1:=aa
    have v4 : IntKind.i64.wrap (S.2.1.2+w * x.2.1.2)=S.2.1.2+w * x.2.1.2:=aa
    have v5 : IntKind.i64.wrap (S.2.2.1+w * x.2.2.1)=S.2.2.1+w * x.2.2.1:=aa
    have v6 : IntKind.i64.wrap (S.2.2.2+w * x.2.2.2)=S.2.2.2+w * x.2.2.2:=aa
    clear a1 a2 a3 r1 r2 r3 d1 d2 d3 d4 d5 d6
    refine Gz ?_
    refine WP.loopN [] 3 (fun k st=>st.t 0=.pv (aP l)∧st.t 1=.pv (zs ws)∧st.t 4=.ptr 4 0∧st.h 4=some (.box [.pv (Z 0),.pv (Z 0),.pv (Z 0),.pv (Z 0),.pv (Z 0),.pv (Z 0)] true false)∧st.t 7=.pv (Z T)∧st.t 9=.ptr 9 0∧st.h 9=some (.box (iS S x w k) true false)∧st.t 10=.pv (Z i)∧st.t 11=.pv (Z k)) (by simp [g0,g1,g4,hb4,g7,g9,hb9,g10,iS]) ?_
    clear g0 g1 g4 hb4 g7 g9 hb9 g10
    rintro k st hk ⟨g0,g1,g4,hb4,g7,g9,hb9,g10,g11⟩
    rcases bB hk with rfl|rfl|rfl|rfl
    all_goals (simp [iS,bL] at hb9 g11)
    ·skip
     with_reducible repeat' (first|refine Sp.h ?_|((first|refine Wd ?_|refine Ss.h ?_|(refine Sb.h ?_ ?_ ?_<;>(try intro hgd)<;>try exact Xy))<;>simp -implicitDefEqProofs (maxSteps:=2000000) [hP,hN,g0,g1,g4,hb4,g7,g9,hb9,g10,g11,hx,hxe,hy,hye,hlt,hltw,u1,u2,v1,v2,iS,bL]<;>try refine Ya ?_)|refine X2 ?_ ?_|(refine Xd ?_ ?_<;>intro hcd<;>try exact Xx))
    ·skip
     with_reducible repeat' (first|refine Sp.h ?_|((first|refine Wd ?_|refine Ss.h ?_|(refine Sb.h ?_ ?_ ?_<;>(try intro hgd)<;>try exact Xy))<;>simp -implicitDefEqProofs (maxSteps:=2000000) [hP,hN,g0,g1,g4,hb4,g7,g9,hb9,g10,g11,hx,hxe,hy,hye,hlt,hltw,u3,u4,v3,v4,iS,bL]<;>try refine Ya ?_)|refine X2 ?_ ?_|(refine Xd ?_ ?_<;>intro hcd<;>try exact Xx))
    ·skip
     with_reducible repeat' (first|refine Sp.h ?_|((first|refine Wd ?_|refine Ss.h ?_|(refine Sb.h ?_ ?_ ?_<;>(try intro hgd)<;>try exact Xy))<;>simp -implicitDefEqProofs (maxSteps:=2000000) [hP,hN,g0,g1,g4,hb4,g7,g9,hb9,g10,g11,hx,hxe,hy,hye,hlt,hltw,u5,u6,v5,v6,iS,bL]<;>try refine Ya ?_)|refine X2 ?_ ?_|(refine Xd ?_ ?_<;>intro hcd<;>try exact Xx))
    ·skip
     with_reducible repeat' (first|refine Sp.h ?_|((first|refine Wd ?_|refine Ss.h ?_|(refine Sb.h ?_ ?_ ?_<;>(try intro hgd)<;>try exact Xy))<;>simp -implicitDefEqProofs (maxSteps:=2000000) [hP,hN,g0,g1,g4,hb4,g7,g9,hb9,g10,g11,hlt,hw,mz,bL]<;>try refine Ya ?_)|refine X2 ?_ ?_|(refine Xd ?_ ?_<;>intro hcd<;>try exact Xx))
   ·have hin : i=l.length:=by omega
    have hlt' : ¬ (i : Int) < (l.length : Int):=by omega
    subst hin
    rw [← hle] at hb9
    exact Gy
end Go.Ab
namespace Go.Ab
open Go.Proofs
theorem ve (x : Int) (h1 : -4611686018427387904≤x) (h2 : x≤4611686018427387904) : ab Tryz.prog 158 [.pv (Z x)] [] [] (.pv (Z (max x (-x)))):=by
 have w1 : IntKind.i64.wrap (-x)=-x:=aa
 have w2 : IntKind.i64.wrap (0 - x)=-x:=(aa (n:=0 - x) (by omega) (by omega)).trans (by omega)
 have fM : ∀ a b : Int,(if a < b then b else a)=max a b:=fun a b=>by omega
 refine Dp Tryz.func158 ?_
 intro C hP hN
 simp only [Tryz.f158] at hN ⊢
 exact Gy
theorem DT (x y z r : Int) : kZ [x,y,z] r=if x≤r∧y≤r∧z≤r then r * r - x * x - y * y - z * z else -1:=by
 unfold kZ
 have : [x,y,z].all (fun x=>decide (x≤r))=decide (x≤r∧y≤r∧z≤r):=by simp [Bool.and_assoc]
 rw [this]
 simp [fW]
theorem DU {u v : Iv} {T : Int} (hT : 1≤T∧T≤65536) (h1 : -281474976710656≤u.1 - v.2∧u.1 - v.2≤281474976710656) (h2 : -281474976710656≤u.2 - v.1∧u.2 - v.1≤281474976710656) :
 ab Tryz.prog 154 [.pv (Z (max (u.1 - v.2) (max (-(u.1 - v.2)) (max (u.2 - v.1) (-(u.2 - v.1)))))),.pv (Z T)] [] [] (.pv (Z (bF u v T)))∧0≤bF u v T:=by
 have hf : max (u.1 - v.2) (max (-(u.1 - v.2)) (max (u.2 - v.1) (-(u.2 - v.1))))=jC (u.1 - v.2) (u.2 - v.1):=by unfold jC;omega
 have hr:=pE h1 h2
 have:=yk (jC (u.1 - v.2) (u.2 - v.1)) T (by omega)
 rw [nq (by omega) (by omega) (by omega),Ag (by omega)] at this
 rw [hf]
 exact ⟨this,(rL hr.1 (by omega) hT.1 hT.2).1⟩
set_option maxRecDepth 4000 in
theorem Kf (left right : List Int) (a : List ar) (ra : Int) (b : List ar) (rb : Int) (h1 : left.length≤9223372036854775807) (h2 : right.length≤9223372036854775807) (h3 : a.length≤9223372036854775807) (h4 : b.length≤9223372036854775807) : ab Tryz.prog 129 [.pv (zs left),.pv (zs right),.pv (aP a),.pv (Z ra),.pv (aP b),.pv (Z rb)] [] [] (.pv (.tup [Z (iM left right a ra b rb),B (jX left right a ra b rb)])):=by
 have ca:=GQ a left h3 h1
 have cb:=GQ b right h4 h2
 have cra:=vg ra
 have crb:=vg rb
 have z6 : bg aR=V6 0 0 0 0 0 0:=rfl
 have hE : jX left right a ra b rb=(cW a left && cW b right && decide (aK left left.length=aK right right.length) && aZ ra 0 1048576 && aZ rb 0 1048576):=rfl
 have hX : iM left right a ra b rb=if jX left right a ra b rb then kZ (dq (bQ a left left.length) (bQ b right right.length) (aK left left.length)) (ra+rb) else 0:=rfl
 rw [hX]
 cases hA : cW a left with
 |false=>
  rw [hA] at hE;simp only [Bool.false_and] at hE
  rw [hE]
  simp only [Bool.false_eq_true,if_false]
  simp only [dX,hA,Bool.false_eq_true,if_false,z6] at ca
  cases hB : cW b right
  all_goals (simp only [dX,hB,Bool.false_eq_true,if_false,if_true,z6] at cb)
  ·skip
   refine Dp Tryz.func129 ?_
   intro C hP hN
   simp only [Tryz.f129] at hN ⊢
   exact Gy
  ·skip
   generalize bQ b right right.length=V at *
   generalize aK right right.length=T2 at *
   refine Dp Tryz.func129 ?_
   intro C hP hN
   simp only [Tryz.f129] at hN ⊢
   exact Gy
 |true=>
 simp only [dX,hA,if_true] at ca
 cases hB : cW b right with
 |false=>
  rw [hB] at hE;simp only [Bool.false_and,Bool.and_false] at hE
  rw [hE]
  simp only [Bool.false_eq_true,if_false]
  simp only [dX,hB,Bool.false_eq_true,if_false,z6] at cb
  generalize bQ a left left.length=U at *
  generalize aK left left.length=T at *
  refine Dp Tryz.func129 ?_
  intro C hP hN
  simp only [Tryz.f129] at hN ⊢
  exact Gy
 |true=>
 simp only [dX,hB,if_true] at cb
 have hUr:=pD hA
 have hVr:=pD hB
 have hTr:=xL hA
 rw [hA,hB] at hE
 simp only [Bool.true_and] at hE
 clear hX hA hB z6
 generalize bQ a left left.length=U at *
 generalize bQ b right right.length=V at *
 generalize aK left left.length=T at *
 generalize aK right right.length=T2 at *
 by_cases hT : T=T2
 case neg=>
  have hT' : (T !=T2)=true:=by simp [hT]
  rw [decide_eq_false hT] at hE;simp only [Bool.false_and] at hE
  rw [hE]
  simp only [Bool.false_eq_true,if_false]
  clear hUr hVr
  refine Dp Tryz.func129 ?_
  intro C hP hN
  simp only [Tryz.f129] at hN ⊢
  exact Gy
 subst hT
 simp only [decide_true,Bool.true_and] at hE
 cases hra : aZ ra 0 1048576 with
 |false=>
  rw [hra] at hE cra;simp only [Bool.false_and] at hE
  rw [hE]
  simp only [Bool.false_eq_true,if_false]
  clear hUr hVr
  refine Dp Tryz.func129 ?_
  intro C hP hN
  simp only [Tryz.f129] at hN ⊢
  exact Gy
 |true=>
 cases hrb : aZ rb 0 1048576 with
 |false=>
  rw [hrb] at hE crb;rw [hra] at cra;simp only [Bool.and_false] at hE
  rw [hE]
  simp only [Bool.false_eq_true,if_false]
  clear hUr hVr
  refine Dp Tryz.func129 ?_
  intro C hP hN
  simp only [Tryz.f129] at hN ⊢
  exact Gy
 |true=>
 rw [hra,hrb] at hE
 rw [hra] at cra
 rw [hrb] at crb
 simp only [Bool.and_self] at hE
 rw [hE]
 simp only [if_true]
 simp only [aZ,Bool.and_eq_true,decide_eq_true_eq] at hra hrb
 obtain ⟨re,hre⟩ : ∃ re,re=ra+rb:=⟨_,rfl⟩
 have wre : IntKind.i64.wrap (ra+rb)=re:=(aa (by omega) (by omega)).trans hre.symm
 rw [← hre]
 have hrr:=kB (x:=re) (m:=2097152) (by omega) (by omega)
 have wrr : IntKind.i64.wrap (re * re)=re * re:=aa
 obtain ⟨⟨⟨a1,a2⟩,a3,a4⟩,⟨⟨b1,b2⟩,b3,b4⟩,⟨c1,c2⟩,c3,c4⟩:=hUr
 obtain ⟨⟨⟨d1,d2⟩,d3,d4⟩,⟨⟨e1,e2⟩,e3,e4⟩,⟨f1,f2⟩,f3,f4⟩:=hVr
 have k0:=DU (u:=U.1) (v:=V.1) hTr (by omega) (by omega)
 have k1:=DU (u:=U.2.1) (v:=V.2.1) hTr (by omega) (by omega)
 have k2:=DU (u:=U.2.2) (v:=V.2.2) hTr (by omega) (by omega)
 have fM : ∀ a b : Int,(if a < b then b else a)=max a b:=fun a b=>by omega
 have w00 : IntKind.i64.wrap (U.1.1 - V.1.2)=U.1.1 - V.1.2:=aa
 have w01 : IntKind.i64.wrap (U.1.2 - V.1.1)=U.1.2 - V.1.1:=aa
 have w10 : IntKind.i64.wrap (U.2.1.1 - V.2.1.2)=U.2.1.1 - V.2.1.2:=aa
 have w11 : IntKind.i64.wrap (U.2.1.2 - V.2.1.1)=U.2.1.2 - V.2.1.1:=aa
 have w20 : IntKind.i64.wrap (U.2.2.1 - V.2.2.2)=U.2.2.1 - V.2.2.2:=aa
 have w21 : IntKind.i64.wrap (U.2.2.2 - V.2.2.1)=U.2.2.2 - V.2.2.1:=aa
 have s00:=ve (U.1.1 - V.1.2) (by omega) (by omega)
 have s01:=ve (U.1.2 - V.1.1) (by omega) (by omega)
 have s10:=ve (U.2.1.1 - V.2.1.2) (by omega) (by omega)
 have s11:=ve (U.2.1.2 - V.2.1.1) (by omega) (by omega)
 have s20:=ve (U.2.2.1 - V.2.2.2) (by omega) (by omega)
 have s21:=ve (U.2.2.2 - V.2.2.1) (by omega) (by omega)
 clear a1 a2 a3 a4 b1 b2 b3 b4 c1 c2 c3 c4 d1 d2 d3 d4 e1 e2 e3 e4 f1 f2 f3 f4
 have hg : dq U V T=[bF U.1 V.1 T,bF U.2.1 V.2.1 T,bF U.2.2 V.2.2 T]:=rfl
 rw [hg,DT]
 generalize bF U.1 V.1 T=x at *
 generalize bF U.2.1 V.2.1 T=y at *
 generalize bF U.2.2 V.2.2 T=z at *
 obtain ⟨k0,x0⟩:=k0
 obtain ⟨k1,y0⟩:=k1
 obtain ⟨k2,z0⟩:=k2
 have qx : x≤re→0≤x * x∧x * x≤4398046511104:=fun h=>by have:=kB (x:=x) (m:=2097152) x0 (by omega);omega
 have qy : y≤re→0≤y * y∧y * y≤4398046511104:=fun h=>by have:=kB (x:=y) (m:=2097152) y0 (by omega);omega
 have qz : z≤re→0≤z * z∧z * z≤4398046511104:=fun h=>by have:=kB (x:=z) (m:=2097152) z0 (by omega);omega
 refine Dp Tryz.func129 ?_
 intro C hP hN
 simp only [Tryz.f129] at hN ⊢
 with_reducible repeat' (first|refine Sp.h ?_|((first|refine Wd ?_|refine Ss.h ?_|refine Sc.h (ca) ?_|refine Sc.h (cb) ?_|refine Sc.h (cra) ?_|refine Sc.h (crb) ?_|(refine Sb.h ?_ ?_ ?_<;>(try intro hgd)<;>try exact Xy))<;>simp -implicitDefEqProofs (maxSteps:=2000000) [hP,hN,wre,wrr]<;>try refine Ya ?_)|refine X2 ?_ ?_|(refine Xd ?_ ?_<;>intro hcd<;>try exact Xx))
 refine WP.loopN [] 3 (fun k st=>st.t 3=.pv (Z ra)∧st.t 5=.pv (Z rb)∧st.t 14=.ptr 14 0∧st.h 14=some (.box [.pv (Z U.1.1),.pv (Z U.1.2),.pv (Z U.2.1.1),.pv (Z U.2.1.2),.pv (Z U.2.2.1),.pv (Z U.2.2.2)] true false)∧st.t 17=.ptr 17 0∧st.h 17=some (.box [.pv (Z V.1.1),.pv (Z V.1.2),.pv (Z V.2.1.1),.pv (Z V.2.1.2),.pv (Z V.2.2.1),.pv (Z V.2.2.2)] true false)∧st.t 15=.pv (Z T)∧st.t 21=.pv (Z k)∧st.t 20=.pv (Z (if k=0 then re * re else if k=1 then re * re - x * x else if k=2 then re * re - x * x - y * y else re * re - x * x - y * y - z * z))∧(0 < k→x≤re)∧(1 < k→y≤re)∧(2 < k→z≤re)) (by simp) ?_
 rintro k st hk ⟨g3,g5,g14,hb14,g17,hb17,g15,g21,g20,p0,p1,p2⟩
 rcases bB hk with rfl|rfl|rfl|rfl
 all_goals (simp at g20 g21)
 ·by_cases hm : re < x
  ·have hres : (if x≤re∧y≤re∧z≤re then re * re - x * x - y * y - z * z else -1)=-1:=if_neg (by omega)
   rw [hres]
   with_reducible repeat' (first|refine Sp.h ?_|((first|refine Wd ?_|refine Ss.h ?_|refine Sc.h (s00) ?_|refine Sc.h (s01) ?_|refine Sc.h (k0) ?_|(refine Sb.h ?_ ?_ ?_<;>(try intro hgd)<;>try exact Xy))<;>simp -implicitDefEqProofs (maxSteps:=2000000) [hP,hN,g3,g5,g14,hb14,g17,hb17,g15,g20,g21,fM,w00,w01,wre,hm]<;>try refine Ya ?_)|refine X2 ?_ ?_|(refine Xd ?_ ?_<;>intro hcd<;>try exact Xx))
  ·have q:=qx (by omega)
   have u1 : IntKind.i64.wrap (x * x)=x * x:=aa
   have u2 : IntKind.i64.wrap (re * re - x * x)=re * re - x * x:=aa
   with_reducible repeat' (first|refine Sp.h ?_|((first|refine Wd ?_|refine Ss.h ?_|refine Sc.h (s00) ?_|refine Sc.h (s01) ?_|refine Sc.h (k0) ?_|(refine Sb.h ?_ ?_ ?_<;>(try intro hgd)<;>try exact Xy))<;>simp -implicitDefEqProofs (maxSteps:=2000000) [hP,hN,g3,g5,g14,hb14,g17,hb17,g15,g20,g21,fM,w00,w01,wre,hm,u1,u2]<;>try refine Ya ?_)|refine X2 ?_ ?_|(refine Xd ?_ ?_<;>intro hcd<;>try exact Xx))
   all_goals omega
 ·have p0':=p0 (by omega)
  have q':=qx p0'
  by_cases hm : re < y
  ·have hres : (if x≤re∧y≤re∧z≤re then re * re - x * x - y * y - z * z else -1)=-1:=if_neg (by omega)
   rw [hres]
   exact Gy
  ·have q:=qy (by omega)
   have u1 : IntKind.i64.wrap (y * y)=y * y:=aa
   have u2 : IntKind.i64.wrap (re * re - x * x - y * y)=re * re - x * x - y * y:=aa
   with_reducible repeat' (first|refine Sp.h ?_|((first|refine Wd ?_|refine Ss.h ?_|refine Sc.h (s10) ?_|refine Sc.h (s11) ?_|refine Sc.h (k1) ?_|(refine Sb.h ?_ ?_ ?_<;>(try intro hgd)<;>try exact Xy))<;>simp -implicitDefEqProofs (maxSteps:=2000000) [hP,hN,g3,g5,g14,hb14,g17,hb17,g15,g20,g21,fM,w10,w11,wre,hm,u1,u2]<;>try refine Ya ?_)|refine X2 ?_ ?_|(refine Xd ?_ ?_<;>intro hcd<;>try exact Xx))
   all_goals omega
 ·have p0':=p0 (by omega)
  have p1':=p1 (by omega)
  have q':=qx p0'
  have q'':=qy p1'
  by_cases hm : re < z
  ·have hres : (if x≤re∧y≤re∧z≤re then re * re - x * x - y * y - z * z else -1)=-1:=if_neg (by omega)
   rw [hres]
   exact Gy
  ·have q:=qz (by omega)
   have u1 : IntKind.i64.wrap (z * z)=z * z:=aa
   have u2 : IntKind.i64.wrap (re * re - x * x - y * y - z * z)=re * re - x * x - y * y - z * z:=aa
   with_reducible repeat' (first|refine Sp.h ?_|((first|refine Wd ?_|refine Ss.h ?_|refine Sc.h (s20) ?_|refine Sc.h (s21) ?_|refine Sc.h (k2) ?_|(refine Sb.h ?_ ?_ ?_<;>(try intro hgd)<;>try exact Xy))<;>simp -implicitDefEqProofs (maxSteps:=2000000) [hP,hN,g3,g5,g14,hb14,g17,hb17,g15,g20,g21,fM,w20,w21,wre,hm,u1,u2]<;>try refine Ya ?_)|refine X2 ?_ ?_|(refine Xd ?_ ?_<;>intro hcd<;>try exact Xx))
   all_goals omega
 ·have hres : (if x≤re∧y≤re∧z≤re then re * re - x * x - y * y - z * z else -1)=re * re - x * x - y * y - z * z:=if_pos ⟨p0 (by omega),p1 (by omega),p2 (by omega)⟩
  rw [hres]
  exact Gy
theorem Il (left right : List Int) (a : List ar) (ra : Int) (b : List ar) (rb : Int) (h1 : left.length≤9223372036854775807) (h2 : right.length≤9223372036854775807) (h3 : a.length≤9223372036854775807) (h4 : b.length≤9223372036854775807) : ab Tryz.prog 86 [.pv (zs left),.pv (zs right),.pv (aP a),.pv (Z ra),.pv (aP b),.pv (Z rb)] [] [] (.pv (B (jX left right a ra b rb && decide (0≤iM left right a ra b rb)))):=by
 have ce:=Kf left right a ra b rb h1 h2 h3 h4
 generalize iM left right a ra b rb=e at *
 cases hb : jX left right a ra b rb<;>rw [hb] at ce
 all_goals
  refine Dp Tryz.func86 ?_
  intro C hP hN
  simp only [Tryz.f86] at hN ⊢
  exact Gy
end Go.Ab
namespace Go.Ab
open Go.Proofs
theorem Im (a b : List Vc) (rho steps : Int) (ha : a.length≤9223372036854775807) (hb : b.length≤9223372036854775807) : ab Tryz.prog 84 [.pv (bb a),.pv (bb b),.pv (Z rho),.pv (Z steps)] [] [] (.pv (HC (ju a b rho steps))):=by
 have ca:=GK a ha
 have cb:=GK b hb
 have hno : pK a b rho steps=false→ju a b rho steps=(0,⟨[],[],(0,0,0),0⟩):=fun h=>by simp [ju,h]
 have hd : pK a b rho steps=(gi a && gi b && aZ rho 0 2097152 && aZ steps 0 64):=rfl
 cases hA : gi a with
 |false=>
  rw [hA] at ca
  rw [hno (by rw [hd,hA];rfl)]
  refine Dp Tryz.func84 ?_
  intro C hP hN
  simp only [Tryz.f84] at hN ⊢
  with_reducible repeat' (first|refine Sp.h ?_|((first|refine Wd ?_|refine Ss.h ?_|refine Sc.h (ca) ?_|(refine Sb.h ?_ ?_ ?_<;>(try intro hgd)<;>try exact Xy))<;>simp -implicitDefEqProofs (maxSteps:=2000000) [hP,hN]<;>try refine Ya ?_)|refine X2 ?_ ?_|(refine Xd ?_ ?_<;>intro hcd<;>try exact Xx))
 |true=>
 rw [hA] at ca
 cases hB : gi b with
 |false=>
  rw [hB] at cb
  rw [hno (by rw [hd,hB,Bool.and_false];rfl)]
  refine Dp Tryz.func84 ?_
  intro C hP hN
  simp only [Tryz.f84] at hN ⊢
  with_reducible repeat' (first|refine Sp.h ?_|((first|refine Wd ?_|refine Ss.h ?_|refine Sc.h (ca) ?_|refine Sc.h (cb) ?_|(refine Sb.h ?_ ?_ ?_<;>(try intro hgd)<;>try exact Xy))<;>simp -implicitDefEqProofs (maxSteps:=2000000) [hP,hN]<;>try refine Ya ?_)|refine X2 ?_ ?_|(refine Xd ?_ ?_<;>intro hcd<;>try exact Xx))
 |true=>
 rw [hB] at cb
 by_cases hbad : rho < 0∨2097152 < rho∨steps < 0∨64 < steps
 ·have hf : pK a b rho steps=false:=by
   cases h : pK a b rho steps with
   |false=>rfl
   |true=>
    rw [hd] at h
    simp only [aZ,Bool.and_eq_true,decide_eq_true_eq] at h
    omega
  rw [hno hf]
  rcases hbad with h|h|h|h
  all_goals
   refine Dp Tryz.func84 ?_
   intro C hP hN
   simp only [Tryz.f84] at hN ⊢
   with_reducible repeat' (first|refine Sp.h ?_|((first|refine Wd ?_|refine Ss.h ?_|refine Sc.h (ca) ?_|refine Sc.h (cb) ?_|(refine Sb.h ?_ ?_ ?_<;>(try intro hgd)<;>try exact Xy))<;>simp -implicitDefEqProofs (maxSteps:=2000000) [hP,hN,h]<;>try refine Ya ?_)|refine X2 ?_ ?_|(refine Xd ?_ ?_<;>intro hcd<;>try exact Xx))
 have q1 : ¬ rho < 0:=by omega
 have q2 : ¬ 2097152 < rho:=by omega
 have q3 : ¬ steps < 0:=by omega
 have q4 : ¬ 64 < steps:=by omega
 have ia:=k9.1 hA
 have ib:=k9.1 hB
 obtain ⟨sn,hsn⟩ : ∃ sn : Nat,steps=sn:=⟨steps.toNat,by omega⟩
 subst hsn
 have hr : ju a b rho sn=nN a b rho sn (sn+1) (um a b):=by
  have : pK a b rho sn=true:=by
   rw [hd,hA,hB]
   simp [aZ]
   omega
  simp [ju,this]
 rw [hr]
 obtain ⟨R,hR⟩ : ∃ R,R=nN a b rho sn (sn+1) (um a b):=⟨_,rfl⟩
 rw [← hR]
 have f1 : (8 : Int) * (a.length : Int)≤281474976710656:=by omega
 have f2 : (8 : Int) * (b.length : Int)≤281474976710656:=by omega
 have f3 : (a.length : Int)≤9223372036854775807:=by omega
 have f4 : (b.length : Int)≤9223372036854775807:=by omega
 have f5 : 0 < a.length:=by omega
 have f6 : 0 < b.length:=by omega
 refine Dp Tryz.func84 ?_
 intro C hP hN
 simp only [Tryz.f84] at hN ⊢
 with_reducible repeat' (first|refine Sp.h ?_|((first|refine Wd ?_|refine Ss.h ?_|refine Sc.h (ca) ?_|refine Sc.h (cb) ?_|(refine Sb.h ?_ ?_ ?_<;>(try intro hgd)<;>try exact Xy))<;>simp -implicitDefEqProofs (maxSteps:=2000000) [hP,hN,q1,q2,q3,q4,f1,f2,f3,f4,f5,f6]<;>try refine Ya ?_)|refine X2 ?_ ?_|(refine Xd ?_ ?_<;>intro hcd<;>try exact Xx))
 refine WP.loopN [10,11,12,16] sn (fun i st=>∃ (s : NSt) (X Y : AV),NsOk a b s∧s.r=i∧nN a b rho sn (sn+1 - i) s=R∧st.t 0=.pv (bb a)∧st.t 1=.pv (bb b)∧st.t 2=.pv (Z rho)∧st.t 3=.pv (Z sn)∧st.t 8=.ptr 8 0∧st.h 8=some (.box [.pv (Z 0),.pv (Z 0),.pv (Z 0),.pv (Z 0),.pv (.val (.slice none 0 0)),.pv (.val (.slice none 0 0)),.pv (Z 0)] true false)∧st.t 9=.ptr 9 0∧st.h 10=none∧st.h 11=none∧st.h 12=none∧st.h 16=none∧st.h 9=some (.box [.pv (Z 0),.pv (Z s.n.1),.pv (Z s.n.2.1),.pv (Z s.n.2.2),X,Y,.pv (Z s.r)] true false)∧((X=.arr 47 a.length∧Y=.arr 50 b.length∧st.h 47=some (.row 2 1 (s.w.map Z) 0)∧st.h 50=some (.row 2 1 (s.v.map Z) 0))∨(X=.pv (zs s.w)∧Y=.pv (zs s.v)))) ?_ ?_
 ·refine ⟨um a b,.arr 47 a.length,.arr 50 b.length,Cd ia.1 ib.1,rfl,hR.symm,?_⟩
  simp [um]
 rintro i st hi ⟨s,X,Y,hs,hsr,hrun,g0,g1,g2,g3,g8,hb8,g9,h10,h11,h12,h16,hb9,hor⟩
 have hfu : sn+1 - i=(sn - i)+1:=by omega
 rw [hfu,nN] at hrun
 obtain ⟨sw,sv,n0,r⟩:=s
 have hsw:=hs.w
 have hsv:=hs.v
 have hwl:=hs.wl
 have hvl:=hs.vl
 simp only at hsw hsv hwl hvl hsr hb9 hor
 subst hsr
 have hrok:=uj (rho:=rho) (steps:=sn) hA hB hs
 have htm:=Dz hA hB hs
 have cS1:=GL a sw ia.2.1 hwl ia.2.2 hsw
 have cS2:=GL b sv ib.2.1 hvl ib.2.2 hsv
 have sm1:=k8 ia.2.2 hsw a.length (by omega)
 have sm2:=k8 ib.2.2 hsv b.length (by omega)
 have cM:=DP (dI a sw a.length) (dI b sv b.length) (lC sm1 (by decide)) (lC sm2 (by decide))
 have hT : aY (dI a sw a.length) (dI b sv b.length)=dr a sw b sv:=rfl
 rw [hT] at cM
 have cN:=Ke (dr a sw b sv) rho htm ⟨by omega,by omega⟩
 have hX29:=Gp htm
 have cNo:=GN (iu (dr a sw b sv)) (lC hX29 (by decide))
 have hnn:=Cc (iu (dr a sw b sv)) (lC hX29 (by decide))
 have hxd : iu (dr a sw b sv)=((dr a sw b sv).1.tdiv 65536,(dr a sw b sv).2.1.tdiv 65536,(dr a sw b sv).2.2.tdiv 65536):=rfl
 rw [oJ] at hrun hrok
 simp only at hrun hrok
 have xw : ∀ y : Int,-35184372088832≤y→y≤35184372088832→IntKind.i64.wrap (y.tdiv 65536)=y.tdiv 65536:=fun y p q=>by
  have e:=Int.natAbs_tdiv_le_natAbs y 65536
  exact aa (by omega) (by omega)
 have x1:=xw _ htm.1.1 htm.1.2
 have x2:=xw _ htm.2.1.1 htm.2.1.2
 have x3:=xw _ htm.2.2.1 htm.2.2.2
 clear xw hs
 generalize dI a sw a.length=S1 at *
 generalize dI b sv b.length=S2 at *
 generalize dr a sw b sv=tt at *
 cases hc : rM tt rho with
 |true=>
  rw [hc] at cN hrun
  simp only [if_true] at hrun
  rw [← hrun]
  rcases hor with ⟨rfl,rfl,h47,h50⟩|⟨rfl,rfl⟩
  ·skip
   with_reducible repeat' (first|refine Sp.h ?_|((first|refine Wd ?_|refine Ss.h ?_|refine Sc.h (cS1) ?_|refine Sc.h (cS2) ?_|refine Sc.h (cM) ?_|refine Sc.h (cN) ?_|(refine Sb.h ?_ ?_ ?_<;>(try intro hgd)<;>try exact Xy))<;>simp -implicitDefEqProofs (maxSteps:=2000000) [hP,hN,g0,g1,g2,g3,g8,hb8,g9,h10,h11,h12,h16,hb9,h47,h50,hwl,hvl]<;>try refine Ya ?_)|refine X2 ?_ ?_|(refine Xd ?_ ?_<;>intro hcd<;>try exact Xx))
  ·skip
   with_reducible repeat' (first|refine Sp.h ?_|((first|refine Wd ?_|refine Ss.h ?_|refine Sc.h (cS1) ?_|refine Sc.h (cS2) ?_|refine Sc.h (cM) ?_|refine Sc.h (cN) ?_|(refine Sb.h ?_ ?_ ?_<;>(try intro hgd)<;>try exact Xy))<;>simp -implicitDefEqProofs (maxSteps:=2000000) [hP,hN,g0,g1,g2,g3,g8,hb8,g9,h10,h11,h12,h16,hb9,hwl,hvl]<;>try refine Ya ?_)|refine X2 ?_ ?_|(refine Xd ?_ ?_<;>intro hcd<;>try exact Xx))
 |false=>
 rw [hc] at cN hrun hrok
 simp only [Bool.false_eq_true,if_false] at hrun hrok
 have hno0 : bm (iu tt)=bm ((tt.1.tdiv 65536,tt.2.1.tdiv 65536,tt.2.2.tdiv 65536)):=by rw [← hxd]
 generalize hxx : iu tt=x at *
 subst hxd
 generalize hne : bm (tt.1.tdiv 65536,tt.2.1.tdiv 65536,tt.2.2.tdiv 65536)=n at *
 clear hno0
 cases hnz : nz n with
 |false=>
  rw [hnz] at cNo hrun
  simp only [if_true] at hrun
  rw [← hrun]
  rcases hor with ⟨rfl,rfl,h47,h50⟩|⟨rfl,rfl⟩
  ·skip
   with_reducible repeat' (first|refine Sp.h ?_|((first|refine Wd ?_|refine Ss.h ?_|refine Sc.h (cS1) ?_|refine Sc.h (cS2) ?_|refine Sc.h (cM) ?_|refine Sc.h (cN) ?_|refine Sc.h (cNo) ?_|(refine Sb.h ?_ ?_ ?_<;>(try intro hgd)<;>try exact Xy))<;>simp -implicitDefEqProofs (maxSteps:=2000000) [hP,hN,g0,g1,g2,g3,g8,hb8,g9,h10,h11,h12,h16,hb9,h47,h50,hwl,hvl,x1,x2,x3]<;>try refine Ya ?_)|refine X2 ?_ ?_|(refine Xd ?_ ?_<;>intro hcd<;>try exact Xx))
  ·skip
   with_reducible repeat' (first|refine Sp.h ?_|((first|refine Wd ?_|refine Ss.h ?_|refine Sc.h (cS1) ?_|refine Sc.h (cS2) ?_|refine Sc.h (cM) ?_|refine Sc.h (cN) ?_|refine Sc.h (cNo) ?_|(refine Sb.h ?_ ?_ ?_<;>(try intro hgd)<;>try exact Xy))<;>simp -implicitDefEqProofs (maxSteps:=2000000) [hP,hN,g0,g1,g2,g3,g8,hb8,g9,h10,h11,h12,h16,hb9,hwl,hvl,x1,x2,x3]<;>try refine Ya ?_)|refine X2 ?_ ?_|(refine Xd ?_ ?_<;>intro hcd<;>try exact Xx))
 |true=>
 rw [hnz] at cNo hrun hrok
 simp only [Bool.true_eq_false,if_false] at hrun hrok
 have cE1:=GO n a hnn ia.1 ia.2.1 ia.2.2
 have cE2:=GP n b hnn ib.1 ib.2.1 ib.2.2
 have cQ:=G4 n
 have hq:=yj n
 have l1:=uk (bet:=fl) hnn ia.2.2
 have l2:=uk (bet:=fo) hnn ib.2.2
 have i1:=nO (bet:=fl) (n:=n) ia.1
 have i2:=nO (bet:=fo) (n:=n) ib.1
 obtain ⟨p0,hp0⟩ : ∃ p0,a[0]?=some p0:=⟨_,List.getElem?_eq_getElem (by omega)⟩
 obtain ⟨p1,hp1⟩ : ∃ p1,b[0]?=some p1:=⟨_,List.getElem?_eq_getElem (by omega)⟩
 obtain ⟨pa,hpa,hva⟩:=lT (bet:=fl) (n:=n) hp0 a.length
 obtain ⟨pb,hpb,hvb⟩:=lT (bet:=fo) (n:=n) hp1 b.length
 have hba : dv fl n a=dU fl n p0 a a.length:=by simp [dv,hp0]
 have hbb : dv fo n b=dU fo n p1 b b.length:=by simp [dv,hp1]
 rw [← hba] at hpa hva
 rw [← hbb] at hpb hvb
 clear hba hbb
 generalize dv fl n a=lo at *
 generalize dv fo n b=hi' at *
 generalize gb n=q at *
 have hqr:=bA (a:=q) (b:=rho) 32768 2097152 (by omega) (by omega) (by omega) (by omega)
 have e4 : IntKind.i64.wrap (lo.1 - hi'.1)=lo.1 - hi'.1:=aa
 have e5 : IntKind.i64.wrap (q * rho)=q * rho:=aa
 generalize hpp : q * rho=qr at *
 have hxa : ∀ h,a[lo.2]'h=pa:=fun h=>by rw [List.getElem?_eq_getElem h] at hpa;exact Option.some.inj hpa
 have hxb : ∀ h,b[hi'.2]'h=pb:=fun h=>by rw [List.getElem?_eq_getElem h] at hpb;exact Option.some.inj hpb
 have sa:=eP (List.all_eq_true.1 ia.2.2 pa (List.mem_of_getElem? hpa))
 have sb:=eP (List.all_eq_true.1 ib.2.2 pb (List.mem_of_getElem? hpb))
 have cD1:=vd n pa 16384 268435456 (qZ hnn) sa (by decide)
 have cD2:=vd n pb 16384 268435456 (qZ hnn) sb (by decide)
 rw [← hva] at cD1
 rw [← hvb] at cD2
 have cA:=DP pa pb (lC sa (by decide)) (lC sb (by decide))
 have sab:=sQ sa sb
 have hXs : eQ 536870912 (tt.1.tdiv 65536,tt.2.1.tdiv 65536,tt.2.2.tdiv 65536):=hX29
 have htr:=kC (tt.1.tdiv 65536,tt.2.1.tdiv 65536,tt.2.2.tdiv 65536) (aY pa pb)
 rw [hpa,hpb] at hrun hrok
 simp only [Option.getD_some] at hrun hrok
 have w1 : IntKind.i64.wrap lo.1=lo.1:=aa
 have w2 : IntKind.i64.wrap hi'.1=hi'.1:=aa
 by_cases hsep : qr < lo.1 - hi'.1
 ·rw [if_pos hsep] at hrun
  simp only at hrun
  rw [← hrun]
  rcases hor with ⟨rfl,rfl,h47,h50⟩|⟨rfl,rfl⟩
  ·skip
   with_reducible repeat' (first|refine Sp.h ?_|((first|refine Wd ?_|refine Ss.h ?_|refine Sc.h (cS1) ?_|refine Sc.h (cS2) ?_|refine Sc.h (cM) ?_|refine Sc.h (cN) ?_|refine Sc.h (cNo) ?_|refine Sc.h (cE1) ?_|refine Sc.h (cE2) ?_|refine Sc.h (cD1) ?_|refine Sc.h (cD2) ?_|refine Sc.h (cQ) ?_|(refine Sb.h ?_ ?_ ?_<;>(try intro hgd)<;>try exact Xy))<;>simp -implicitDefEqProofs (maxSteps:=2000000) [hP,hN,g0,g1,g2,g3,g8,hb8,g9,h10,h11,h12,h16,hb9,h47,h50,hwl,hvl,x1,x2,x3,hpa,hpb,hxa,hxb,i1,i2,e4,e5,hpp,hsep]<;>try refine Ya ?_)|refine X2 ?_ ?_|(refine Xd ?_ ?_<;>intro hcd<;>try exact Xx))
  ·skip
   with_reducible repeat' (first|refine Sp.h ?_|((first|refine Wd ?_|refine Ss.h ?_|refine Sc.h (cS1) ?_|refine Sc.h (cS2) ?_|refine Sc.h (cM) ?_|refine Sc.h (cN) ?_|refine Sc.h (cNo) ?_|refine Sc.h (cE1) ?_|refine Sc.h (cE2) ?_|refine Sc.h (cD1) ?_|refine Sc.h (cD2) ?_|refine Sc.h (cQ) ?_|(refine Sb.h ?_ ?_ ?_<;>(try intro hgd)<;>try exact Xy))<;>simp -implicitDefEqProofs (maxSteps:=2000000) [hP,hN,g0,g1,g2,g3,g8,hb8,g9,h10,h11,h12,h16,hb9,hwl,hvl,x1,x2,x3,hpa,hpb,hxa,hxb,i1,i2,e4,e5,hpp,hsep]<;>try refine Ya ?_)|refine X2 ?_ ?_|(refine Xd ?_ ?_<;>intro hcd<;>try exact Xx))
 rw [if_neg hsep] at hrun hrok
 have cB:=DP (tt.1.tdiv 65536,tt.2.1.tdiv 65536,tt.2.2.tdiv 65536) (aY pa pb) (lC hXs (by decide)) (lC sab (by decide))
 have he:=sQ hXs sab
 have cU:=vd (tt.1.tdiv 65536,tt.2.1.tdiv 65536,tt.2.2.tdiv 65536) (aY (tt.1.tdiv 65536,tt.2.1.tdiv 65536,tt.2.2.tdiv 65536) (aY pa pb)) 536870912 1073741824 hXs he (by decide)
 have cV:=vd (aY (tt.1.tdiv 65536,tt.2.1.tdiv 65536,tt.2.2.tdiv 65536) (aY pa pb)) (aY (tt.1.tdiv 65536,tt.2.1.tdiv 65536,tt.2.2.tdiv 65536) (aY pa pb)) 1073741824 1073741824 he he (by decide)
 obtain ⟨r1,r2,r3⟩:=nM (m:=536870912) (n:=1073741824) hXs he
 obtain ⟨t1,t2,t3⟩:=nM (m:=1073741824) (n:=1073741824) he he
 have hu : -1729382256910270464≤bP (tt.1.tdiv 65536,tt.2.1.tdiv 65536,tt.2.2.tdiv 65536) (aY (tt.1.tdiv 65536,tt.2.1.tdiv 65536,tt.2.2.tdiv 65536) (aY pa pb))∧bP (tt.1.tdiv 65536,tt.2.1.tdiv 65536,tt.2.2.tdiv 65536) (aY (tt.1.tdiv 65536,tt.2.1.tdiv 65536,tt.2.2.tdiv 65536) (aY pa pb))≤1729382256910270464:=by unfold bP;omega
 have hv : bP (aY (tt.1.tdiv 65536,tt.2.1.tdiv 65536,tt.2.2.tdiv 65536) (aY pa pb)) (aY (tt.1.tdiv 65536,tt.2.1.tdiv 65536,tt.2.2.tdiv 65536) (aY pa pb))≤3458764513820540928:=by unfold bP;omega
 have hv0:=AS (aY (tt.1.tdiv 65536,tt.2.1.tdiv 65536,tt.2.2.tdiv 65536) (aY pa pb))
 have hpd : lO (tt.1.tdiv 65536,tt.2.1.tdiv 65536,tt.2.2.tdiv 65536) (aY pa pb)=if bP (tt.1.tdiv 65536,tt.2.1.tdiv 65536,tt.2.2.tdiv 65536) (aY (tt.1.tdiv 65536,tt.2.1.tdiv 65536,tt.2.2.tdiv 65536) (aY pa pb))≤0 then 0 else min 256 (bP (tt.1.tdiv 65536,tt.2.1.tdiv 65536,tt.2.2.tdiv 65536) (aY (tt.1.tdiv 65536,tt.2.1.tdiv 65536,tt.2.2.tdiv 65536) (aY pa pb)) / max 1 (bP (aY (tt.1.tdiv 65536,tt.2.1.tdiv 65536,tt.2.2.tdiv 65536) (aY pa pb)) (aY (tt.1.tdiv 65536,tt.2.1.tdiv 65536,tt.2.2.tdiv 65536) (aY pa pb)) / 256)):=rfl
 clear r1 r2 r3 t1 t2 t3 he
 generalize lO (tt.1.tdiv 65536,tt.2.1.tdiv 65536,tt.2.2.tdiv 65536) (aY pa pb)=t at *
 generalize bP (tt.1.tdiv 65536,tt.2.1.tdiv 65536,tt.2.2.tdiv 65536) (aY (tt.1.tdiv 65536,tt.2.1.tdiv 65536,tt.2.2.tdiv 65536) (aY pa pb))=u at *
 generalize bP (aY (tt.1.tdiv 65536,tt.2.1.tdiv 65536,tt.2.2.tdiv 65536) (aY pa pb)) (aY (tt.1.tdiv 65536,tt.2.1.tdiv 65536,tt.2.2.tdiv 65536) (aY pa pb))=v at *
 generalize aY (tt.1.tdiv 65536,tt.2.1.tdiv 65536,tt.2.2.tdiv 65536) (aY pa pb)=e at *
 generalize aY pa pb=pab at *
 by_cases hstp : r=sn
 ·rw [if_pos hstp] at hrun
  simp only at hrun
  rw [← hrun]
  subst hstp
  rcases hor with ⟨rfl,rfl,h47,h50⟩|⟨rfl,rfl⟩
  ·skip
   with_reducible repeat' (first|refine Sp.h ?_|((first|refine Wd ?_|refine Ss.h ?_|refine Sc.h (cS1) ?_|refine Sc.h (cS2) ?_|refine Sc.h (cM) ?_|refine Sc.h (cN) ?_|refine Sc.h (cNo) ?_|refine Sc.h (cE1) ?_|refine Sc.h (cE2) ?_|refine Sc.h (cD1) ?_|refine Sc.h (cD2) ?_|refine Sc.h (cQ) ?_|refine Sc.h (cA) ?_|refine Sc.h (cB) ?_|refine Sc.h (cU) ?_|refine Sc.h (cV) ?_|(refine Sb.h ?_ ?_ ?_<;>(try intro hgd)<;>try exact Xy))<;>simp -implicitDefEqProofs (maxSteps:=2000000) [hP,hN,g0,g1,g2,g3,g8,hb8,g9,h10,h11,h12,h16,hb9,h47,h50,hwl,hvl,x1,x2,x3,hpa,hpb,hxa,hxb,i1,i2,e4,e5,hpp,hsep]<;>try refine Ya ?_)|refine X2 ?_ ?_|(refine Xd ?_ ?_<;>intro hcd<;>try exact Xx))
  ·skip
   with_reducible repeat' (first|refine Sp.h ?_|((first|refine Wd ?_|refine Ss.h ?_|refine Sc.h (cS1) ?_|refine Sc.h (cS2) ?_|refine Sc.h (cM) ?_|refine Sc.h (cN) ?_|refine Sc.h (cNo) ?_|refine Sc.h (cE1) ?_|refine Sc.h (cE2) ?_|refine Sc.h (cD1) ?_|refine Sc.h (cD2) ?_|refine Sc.h (cQ) ?_|refine Sc.h (cA) ?_|refine Sc.h (cB) ?_|refine Sc.h (cU) ?_|refine Sc.h (cV) ?_|(refine Sb.h ?_ ?_ ?_<;>(try intro hgd)<;>try exact Xy))<;>simp -implicitDefEqProofs (maxSteps:=2000000) [hP,hN,g0,g1,g2,g3,g8,hb8,g9,h10,h11,h12,h16,hb9,hwl,hvl,x1,x2,x3,hpa,hpb,hxa,hxb,i1,i2,e4,e5,hpp,hsep]<;>try refine Ya ?_)|refine X2 ?_ ?_|(refine Xd ?_ ?_<;>intro hcd<;>try exact Xx))
 rw [if_neg hstp] at hrun hrok
 have hst : ¬ (sn : Int)≤(r : Int):=by omega
 have hst3 : ¬ sn≤r:=by omega
 by_cases hu0 : u≤0
 ·rw [if_pos hu0] at hpd
  rw [if_pos hpd] at hrun
  simp only at hrun
  rw [← hrun]
  rcases hor with ⟨rfl,rfl,h47,h50⟩|⟨rfl,rfl⟩
  ·skip
   with_reducible repeat' (first|refine Sp.h ?_|((first|refine Wd ?_|refine Ss.h ?_|refine Sc.h (cS1) ?_|refine Sc.h (cS2) ?_|refine Sc.h (cM) ?_|refine Sc.h (cN) ?_|refine Sc.h (cNo) ?_|refine Sc.h (cE1) ?_|refine Sc.h (cE2) ?_|refine Sc.h (cD1) ?_|refine Sc.h (cD2) ?_|refine Sc.h (cQ) ?_|refine Sc.h (cA) ?_|refine Sc.h (cB) ?_|refine Sc.h (cU) ?_|refine Sc.h (cV) ?_|(refine Sb.h ?_ ?_ ?_<;>(try intro hgd)<;>try exact Xy))<;>simp -implicitDefEqProofs (maxSteps:=2000000) [hP,hN,g0,g1,g2,g3,g8,hb8,g9,h10,h11,h12,h16,hb9,h47,h50,hwl,hvl,x1,x2,x3,hpa,hpb,hxa,hxb,i1,i2,e4,e5,hpp,hsep,hst,hst3,hu0]<;>try refine Ya ?_)|refine X2 ?_ ?_|(refine Xd ?_ ?_<;>intro hcd<;>try exact Xx))
  ·skip
   with_reducible repeat' (first|refine Sp.h ?_|((first|refine Wd ?_|refine Ss.h ?_|refine Sc.h (cS1) ?_|refine Sc.h (cS2) ?_|refine Sc.h (cM) ?_|refine Sc.h (cN) ?_|refine Sc.h (cNo) ?_|refine Sc.h (cE1) ?_|refine Sc.h (cE2) ?_|refine Sc.h (cD1) ?_|refine Sc.h (cD2) ?_|refine Sc.h (cQ) ?_|refine Sc.h (cA) ?_|refine Sc.h (cB) ?_|refine Sc.h (cU) ?_|refine Sc.h (cV) ?_|(refine Sb.h ?_ ?_ ?_<;>(try intro hgd)<;>try exact Xy))<;>simp -implicitDefEqProofs (maxSteps:=2000000) [hP,hN,g0,g1,g2,g3,g8,hb8,g9,h10,h11,h12,h16,hb9,hwl,hvl,x1,x2,x3,hpa,hpb,hxa,hxb,i1,i2,e4,e5,hpp,hsep,hst,hst3,hu0]<;>try refine Ya ?_)|refine X2 ?_ ?_|(refine Xd ?_ ?_<;>intro hcd<;>try exact Xx))
 rw [if_neg hu0] at hpd
 have a1 : v.tdiv 256=v / 256:=Int.tdiv_eq_ediv_of_nonneg hv0
 have a2 : IntKind.i64.wrap (v / 256)=v / 256:=aa
 have hm : 1≤max 1 (v / 256):=by omega
 generalize hmm : max 1 (v / 256)=m at *
 have a3 : u.tdiv m=u / m:=Int.tdiv_eq_ediv_of_nonneg (by omega)
 have h4 : u / m≤u:=Int.ediv_le_self m (by omega)
 have h5 : 0≤u / m:=Int.ediv_nonneg (by omega) (by omega)
 have a4 : IntKind.i64.wrap (u / m)=u / m:=aa
 have a5 : ¬ m=0:=by omega
 have a6 : (m==0)=false:=by simp;omega
 have hpt:=hpd.symm
 by_cases ht0 : t=0
 ·rw [if_pos ht0] at hrun
  simp only at hrun
  rw [← hrun]
  rw [ht0] at hpt
  rcases hor with ⟨rfl,rfl,h47,h50⟩|⟨rfl,rfl⟩
  ·skip
   with_reducible repeat' (first|refine Sp.h ?_|((first|refine Wd ?_|refine Ss.h ?_|refine Sc.h (cS1) ?_|refine Sc.h (cS2) ?_|refine Sc.h (cM) ?_|refine Sc.h (cN) ?_|refine Sc.h (cNo) ?_|refine Sc.h (cE1) ?_|refine Sc.h (cE2) ?_|refine Sc.h (cD1) ?_|refine Sc.h (cD2) ?_|refine Sc.h (cQ) ?_|refine Sc.h (cA) ?_|refine Sc.h (cB) ?_|refine Sc.h (cU) ?_|refine Sc.h (cV) ?_|(refine Sb.h ?_ ?_ ?_<;>(try intro hgd)<;>try exact Xy))<;>simp -implicitDefEqProofs (maxSteps:=2000000) [hP,hN,g0,g1,g2,g3,g8,hb8,g9,h10,h11,h12,h16,hb9,h47,h50,hwl,hvl,x1,x2,x3,hpa,hpb,hxa,hxb,i1,i2,e4,e5,hpp,hsep,hst,hst3,hu0,a1,a2,hmm,a3,a4,a5,a6,hpt]<;>try refine Ya ?_)|refine X2 ?_ ?_|(refine Xd ?_ ?_<;>intro hcd<;>try exact Xx))
  ·skip
   with_reducible repeat' (first|refine Sp.h ?_|((first|refine Wd ?_|refine Ss.h ?_|refine Sc.h (cS1) ?_|refine Sc.h (cS2) ?_|refine Sc.h (cM) ?_|refine Sc.h (cN) ?_|refine Sc.h (cNo) ?_|refine Sc.h (cE1) ?_|refine Sc.h (cE2) ?_|refine Sc.h (cD1) ?_|refine Sc.h (cD2) ?_|refine Sc.h (cQ) ?_|refine Sc.h (cA) ?_|refine Sc.h (cB) ?_|refine Sc.h (cU) ?_|refine Sc.h (cV) ?_|(refine Sb.h ?_ ?_ ?_<;>(try intro hgd)<;>try exact Xy))<;>simp -implicitDefEqProofs (maxSteps:=2000000) [hP,hN,g0,g1,g2,g3,g8,hb8,g9,h10,h11,h12,h16,hb9,hwl,hvl,x1,x2,x3,hpa,hpb,hxa,hxb,i1,i2,e4,e5,hpp,hsep,hst,hst3,hu0,a1,a2,hmm,a3,a4,a5,a6,hpt]<;>try refine Ya ?_)|refine X2 ?_ ?_|(refine Xd ?_ ?_<;>intro hcd<;>try exact Xx))
 rw [if_neg ht0] at hrun hrok
 have hok:=hrok.2 _ rfl
 simp only at hrun
 have ht2 : (t==0)=false:=by simp;omega
 have cG1:=GM sw t lo.2 (by omega) hsw (by omega) htr.1 htr.2
 have cG2:=GM sv t hi'.2 (by omega) hsv (by omega) htr.1 htr.2
 have hwr : IntKind.i64.wrap ((r : Int)+1)=(r : Int)+1:=aa
 rcases hor with ⟨rfl,rfl,h47,h50⟩|⟨rfl,rfl⟩
 ·skip
  with_reducible repeat' (first|refine Sp.h ?_|((first|refine Wd ?_|refine Ss.h ?_|refine Sc.h (cS1) ?_|refine Sc.h (cS2) ?_|refine Sc.h (cM) ?_|refine Sc.h (cN) ?_|refine Sc.h (cNo) ?_|refine Sc.h (cE1) ?_|refine Sc.h (cE2) ?_|refine Sc.h (cD1) ?_|refine Sc.h (cD2) ?_|refine Sc.h (cQ) ?_|refine Sc.h (cA) ?_|refine Sc.h (cB) ?_|refine Sc.h (cU) ?_|refine Sc.h (cV) ?_|refine Sc.h (cG1) ?_|refine Sc.h (cG2) ?_|(refine Sb.h ?_ ?_ ?_<;>(try intro hgd)<;>try exact Xy))<;>simp -implicitDefEqProofs (maxSteps:=2000000) [hP,hN,g0,g1,g2,g3,g8,hb8,g9,h10,h11,h12,h16,hb9,h47,h50,hwl,hvl,x1,x2,x3,hpa,hpb,hxa,hxb,i1,i2,e4,e5,hpp,hsep,hst,hst3,hu0,a1,a2,hmm,a3,a4,a5,a6,hpt,ht0,ht2,hwr]<;>try refine Ya ?_)|refine X2 ?_ ?_|(refine Xd ?_ ?_<;>intro hcd<;>try exact Xx))
  refine ⟨by omega,⟨jD sw lo.2 t,jD sv hi'.2 t,n,r+1⟩,hok,by simp only,hrun,?_⟩
  simp
  exact ⟨_,_,⟨rfl,rfl⟩,Or.inr ⟨rfl,rfl⟩⟩
 ·skip
  with_reducible repeat' (first|refine Sp.h ?_|((first|refine Wd ?_|refine Ss.h ?_|refine Sc.h (cS1) ?_|refine Sc.h (cS2) ?_|refine Sc.h (cM) ?_|refine Sc.h (cN) ?_|refine Sc.h (cNo) ?_|refine Sc.h (cE1) ?_|refine Sc.h (cE2) ?_|refine Sc.h (cD1) ?_|refine Sc.h (cD2) ?_|refine Sc.h (cQ) ?_|refine Sc.h (cA) ?_|refine Sc.h (cB) ?_|refine Sc.h (cU) ?_|refine Sc.h (cV) ?_|refine Sc.h (cG1) ?_|refine Sc.h (cG2) ?_|(refine Sb.h ?_ ?_ ?_<;>(try intro hgd)<;>try exact Xy))<;>simp -implicitDefEqProofs (maxSteps:=2000000) [hP,hN,g0,g1,g2,g3,g8,hb8,g9,h10,h11,h12,h16,hb9,hwl,hvl,x1,x2,x3,hpa,hpb,hxa,hxb,i1,i2,e4,e5,hpp,hsep,hst,hst3,hu0,a1,a2,hmm,a3,a4,a5,a6,hpt,ht0,ht2,hwr]<;>try refine Ya ?_)|refine X2 ?_ ?_|(refine Xd ?_ ?_<;>intro hcd<;>try exact Xx))
  refine ⟨by omega,⟨jD sw lo.2 t,jD sv hi'.2 t,n,r+1⟩,hok,by simp only,hrun,?_⟩
  simp
  exact ⟨_,_,⟨rfl,rfl⟩,Or.inr ⟨rfl,rfl⟩⟩
end Go.Ab
namespace Go.Ab
open Go.Proofs
def vf (v : Vc) (j : Nat) : List AV:=[.pv (Z (if 0 < j then v.1 else 0)),.pv (Z (if 1 < j then v.2.1 else 0)),.pv (Z (if 2 < j then v.2.2 else 0))]
theorem Kg (a b : List ar) (ha : a.length≤9223372036854775807) (hb : b.length≤9223372036854775807) : ab Tryz.prog 151 [.pv (aP a),.pv (aP b)] [] [] (.pv (.tup [aV (nR a b),B (pL a b)])):=by
 have ca:=rl a ha
 have cb:=rl b hb
 have hN : nR a b=if aw a && aw b then bm (mw a b) else (0,0,0):=rfl
 have hM : pL a b=(aw a && aw b && nz (bm (mw a b))):=rfl
 rw [hN,hM]
 cases hpa : aw a with
 |false=>
  rw [hpa] at ca
  refine Dp Tryz.func151 ?_
  intro C hP hN
  simp only [Tryz.f151] at hN ⊢
  exact Gy
 |true=>
 rw [hpa] at ca
 cases hpb : aw b with
 |false=>
  rw [hpb] at cb
  refine Dp Tryz.func151 ?_
  intro C hP hN
  simp only [Tryz.f151] at hN ⊢
  exact Gy
 |true=>
 rw [hpb] at cb
 have c1:=Ah a ha
 have c2:=Ah b hb
 have hms:=E9 hpa hpb
 have c5:=GN (mw a b) hms
 have h2:=(dM hpa).2.1
 have h3:=(dM hpb).2.1
 have hmv : mw a b=((az (aQ a) a.length).1 * b.length - (az (aQ b) b.length).1 * a.length,(az (aQ a) a.length).2.1 * b.length - (az (aQ b) b.length).2.1 * a.length,(az (aQ a) a.length).2.2 * b.length - (az (aQ b) b.length).2.2 * a.length):=rfl
 simp only [Bool.and_self,if_true,Bool.true_and]
 have l1:=lD hpa
 have l2:=lD hpb
 have n1:=nc (l:=a)
 have n2:=nc (l:=b)
 generalize aQ a=xa at *
 generalize aQ b=xb at *
 generalize mw a b=V at *
 generalize bm V=n at *
 have wa : IntKind.i64.wrap (a.length : Int)=(a.length : Int):=aa
 have wb : IntKind.i64.wrap (b.length : Int)=(b.length : Int):=aa
 refine Dp Tryz.func151 ?_
 intro C hP hN
 simp only [Tryz.f151] at hN ⊢
 refine Gz ?_
 refine WP.loopN [] 3 (fun k st=>st.t 0=.pv (aP a)∧st.t 1=.pv (aP b)∧st.t 4=.ptr 4 0∧st.h 4=some (.box [.pv (Z 0),.pv (Z 0),.pv (Z 0)] true false)∧st.t 5=.pv (B false)∧st.t 6=.ptr 6 0∧st.h 6=some (.box (vf V k) true false)∧st.t 7=.pv (bb xa)∧st.t 8=.pv (bb xb)∧st.t 9=.pv (Z k)) ?_ ?_
 ·simp [vf]
 rintro k st hk ⟨g0,g1,g4,hb4,g5,g6,hb6,g7,g8,g9⟩
 have e : ∀ x : Int,-2147483648≤x∧x≤2147483648→∀ n : Nat,n≤8→-17179869184≤x * n∧x * n≤17179869184:=fun x hx n hn=>by
  have:=bA (a:=x) (b:=(n : Int)) 2147483648 8 (by omega) (by omega) (by omega) (by omega)
  omega
 rcases bB hk with rfl|rfl|rfl|rfl
 all_goals (simp [vf] at hb6 g9)
 ·skip
  have hs1 : ∀ i : Nat,i≤8→-17179869184≤(az xa i).1 * b.length∧(az xa i).1 * b.length≤17179869184:=fun i hi=>by
   have h:=iw n1 i
   obtain ⟨q1,q2,q3⟩:=h
   exact e (az xa i).1 (by omega) _ h3
  have hs2 : ∀ i : Nat,i≤8→-17179869184≤(az xb i).1 * a.length∧(az xb i).1 * a.length≤17179869184:=fun i hi=>by
   have h:=iw n2 i
   obtain ⟨q1,q2,q3⟩:=h
   exact e (az xb i).1 (by omega) _ h2
  skip
  with_reducible repeat' (first|refine Sp.h ?_|((first|refine Wd ?_|refine Ss.h ?_|(refine Sb.h ?_ ?_ ?_<;>(try intro hgd)<;>try exact Xy))<;>simp -implicitDefEqProofs (maxSteps:=2000000) [hP,hN,g0,g1,g4,g5,hb4,hb6,g6,g7,g8,g9]<;>try refine Ya ?_)|refine X2 ?_ ?_|(refine Xd ?_ ?_<;>intro hcd<;>try exact Xx))
  refine WP.loopN [] a.length (fun i st=>st.t 0=.pv (aP a)∧st.t 1=.pv (aP b)∧st.t 4=.ptr 4 0∧st.h 4=some (.box [.pv (Z 0),.pv (Z 0),.pv (Z 0)] true false)∧st.t 5=.pv (B false)∧st.t 6=.ptr 6 0∧st.h 6=some (.box [.pv (Z ((az xa i).1 * b.length)),.pv (Z 0),.pv (Z 0)] true false)∧st.t 7=.pv (bb xa)∧st.t 8=.pv (bb xb)∧st.t 9=.pv (Z 0)∧st.t 10=.pv (Z i)) ?_ ?_
  ·simp [az,g0,g1,g4,hb4,g5,g6,hb6,g7,g8,g9]
  clear g0 g1 g4 hb4 g5 g6 hb6 g7 g8 g9
  rintro i st hi ⟨g0,g1,g4,hb4,g5,g6,hb6,g7,g8,g9,g10⟩
  by_cases hlt : i < a.length
  ·have hlx : i < xa.length:=by omega
   have hwr:=ag hlt (by omega)
   obtain ⟨p,hx⟩ : ∃ p,xa[i]?=some p:=⟨_,List.getElem?_eq_getElem hlx⟩
   have hxe : ∀ h,xa[i]'h=p:=fun h=>by rw [List.getElem?_eq_getElem h] at hx;exact Option.some.inj hx
   have hnx:=hs1 (i+1) (by omega)
   have hcu:=hs1 i (by omega)
   have hp:=eP (List.all_eq_true.1 n1 p (List.mem_of_getElem? hx))
   obtain ⟨p1,p2,p3⟩:=hp
   have hpm:=e p.1 (by omega) _ h3
   have hS : (az xa (i+1)).1 * (b.length : Int)=(az xa i).1 * b.length+p.1 * b.length:=by
    rw [← Int.add_mul];simp only [az,hx]
   rw [hS] at hnx ⊢
   have v1 : IntKind.i64.wrap (p.1 * b.length)=p.1 * b.length:=aa
   generalize (az xa i).1 * (b.length : Int)=y at *
   have v2 : IntKind.i64.wrap (y+p.1 * b.length)=y+p.1 * b.length:=aa
   with_reducible repeat' (first|refine Sp.h ?_|((first|refine Wd ?_|refine Ss.h ?_|(refine Sb.h ?_ ?_ ?_<;>(try intro hgd)<;>try exact Xy))<;>simp -implicitDefEqProofs (maxSteps:=2000000) [hP,hN,g0,g1,g4,hb4,g5,g6,hb6,g7,g8,g9,g10,hlt,hlx,hwr,hx,hxe,v1,v2,wb,l1,l2]<;>try refine Ya ?_)|refine X2 ?_ ?_|(refine Xd ?_ ?_<;>intro hcd<;>try exact Xx))
  have hin : i=a.length:=by omega
  subst hin
  have hT1:=hs1 a.length (by omega)
  generalize hy : (az xa a.length).1 * (b.length : Int)=Y at *
  skip
  with_reducible repeat' (first|refine Sp.h ?_|((first|refine Wd ?_|refine Ss.h ?_|(refine Sb.h ?_ ?_ ?_<;>(try intro hgd)<;>try exact Xy))<;>simp -implicitDefEqProofs (maxSteps:=2000000) [hP,hN,g0,g1,g4,g5,hb4,hb6,g6,g7,g8,g9,g10,l1,l2]<;>try refine Ya ?_)|refine X2 ?_ ?_|(refine Xd ?_ ?_<;>intro hcd<;>try exact Xx))
  refine WP.loopN [] b.length (fun i st=>st.t 0=.pv (aP a)∧st.t 1=.pv (aP b)∧st.t 4=.ptr 4 0∧st.h 4=some (.box [.pv (Z 0),.pv (Z 0),.pv (Z 0)] true false)∧st.t 5=.pv (B false)∧st.t 6=.ptr 6 0∧st.h 6=some (.box [.pv (Z (Y - (az xb i).1 * a.length)),.pv (Z 0),.pv (Z 0)] true false)∧st.t 7=.pv (bb xa)∧st.t 8=.pv (bb xb)∧st.t 9=.pv (Z 0)∧st.t 11=.pv (Z i)) ?_ ?_
  ·simp [az,g0,g1,g4,hb4,g5,g6,hb6,g7,g8,g9]
  clear g0 g1 g4 hb4 g5 g6 hb6 g7 g8 g9 g10
  rintro i st hi ⟨g0,g1,g4,hb4,g5,g6,hb6,g7,g8,g9,g11⟩
  by_cases hlt : i < b.length
  ·have hlx : i < xb.length:=by omega
   have hwr:=ag hlt (by omega)
   obtain ⟨p,hx⟩ : ∃ p,xb[i]?=some p:=⟨_,List.getElem?_eq_getElem hlx⟩
   have hxe : ∀ h,xb[i]'h=p:=fun h=>by rw [List.getElem?_eq_getElem h] at hx;exact Option.some.inj hx
   have hnx:=hs2 (i+1) (by omega)
   have hcu:=hs2 i (by omega)
   have hp:=eP (List.all_eq_true.1 n2 p (List.mem_of_getElem? hx))
   obtain ⟨p1,p2,p3⟩:=hp
   have hpm:=e p.1 (by omega) _ h2
   have hS : (az xb (i+1)).1 * (a.length : Int)=(az xb i).1 * a.length+p.1 * a.length:=by
    rw [← Int.add_mul];simp only [az,hx]
   rw [hS] at hnx ⊢
   have v1 : IntKind.i64.wrap (p.1 * a.length)=p.1 * a.length:=aa
   generalize (az xb i).1 * (a.length : Int)=y at *
   have v2 : IntKind.i64.wrap (Y - y - p.1 * a.length)=Y - (y+p.1 * a.length):=(aa (by omega) (by omega)).trans (by omega)
   exact Gy
  have hin : i=b.length:=by omega
  subst hin
  have hVk : Y - (az xb b.length).1 * (a.length : Int)=V.1:=by rw [hmv,← hy]
  rw [hVk] at hb6
  skip
  with_reducible repeat' (first|refine Sp.h ?_|((first|refine Wd ?_|refine Ss.h ?_|(refine Sb.h ?_ ?_ ?_<;>(try intro hgd)<;>try exact Xy))<;>simp -implicitDefEqProofs (maxSteps:=2000000) [hP,hN,g0,g1,g4,g5,hb4,hb6,g6,g7,g8,g9,g11,l1,l2,vf]<;>try refine Ya ?_)|refine X2 ?_ ?_|(refine Xd ?_ ?_<;>intro hcd<;>try exact Xx))
 ·skip
  have hs1 : ∀ i : Nat,i≤8→-17179869184≤(az xa i).2.1 * b.length∧(az xa i).2.1 * b.length≤17179869184:=fun i hi=>by
   have h:=iw n1 i
   obtain ⟨q1,q2,q3⟩:=h
   exact e (az xa i).2.1 (by omega) _ h3
  have hs2 : ∀ i : Nat,i≤8→-17179869184≤(az xb i).2.1 * a.length∧(az xb i).2.1 * a.length≤17179869184:=fun i hi=>by
   have h:=iw n2 i
   obtain ⟨q1,q2,q3⟩:=h
   exact e (az xb i).2.1 (by omega) _ h2
  skip
  with_reducible repeat' (first|refine Sp.h ?_|((first|refine Wd ?_|refine Ss.h ?_|(refine Sb.h ?_ ?_ ?_<;>(try intro hgd)<;>try exact Xy))<;>simp -implicitDefEqProofs (maxSteps:=2000000) [hP,hN,g0,g1,g4,g5,hb4,hb6,g6,g7,g8,g9]<;>try refine Ya ?_)|refine X2 ?_ ?_|(refine Xd ?_ ?_<;>intro hcd<;>try exact Xx))
  refine WP.loopN [] a.length (fun i st=>st.t 0=.pv (aP a)∧st.t 1=.pv (aP b)∧st.t 4=.ptr 4 0∧st.h 4=some (.box [.pv (Z 0),.pv (Z 0),.pv (Z 0)] true false)∧st.t 5=.pv (B false)∧st.t 6=.ptr 6 0∧st.h 6=some (.box [.pv (Z V.1),.pv (Z ((az xa i).2.1 * b.length)),.pv (Z 0)] true false)∧st.t 7=.pv (bb xa)∧st.t 8=.pv (bb xb)∧st.t 9=.pv (Z 1)∧st.t 10=.pv (Z i)) ?_ ?_
  ·simp [az,g0,g1,g4,hb4,g5,g6,hb6,g7,g8,g9]
  clear g0 g1 g4 hb4 g5 g6 hb6 g7 g8 g9
  rintro i st hi ⟨g0,g1,g4,hb4,g5,g6,hb6,g7,g8,g9,g10⟩
  by_cases hlt : i < a.length
  ·have hlx : i < xa.length:=by omega
   have hwr:=ag hlt (by omega)
   obtain ⟨p,hx⟩ : ∃ p,xa[i]?=some p:=⟨_,List.getElem?_eq_getElem hlx⟩
   have hxe : ∀ h,xa[i]'h=p:=fun h=>by rw [List.getElem?_eq_getElem h] at hx;exact Option.some.inj hx
   have hnx:=hs1 (i+1) (by omega)
   have hcu:=hs1 i (by omega)
   have hp:=eP (List.all_eq_true.1 n1 p (List.mem_of_getElem? hx))
   obtain ⟨p1,p2,p3⟩:=hp
   have hpm:=e p.2.1 (by omega) _ h3
   have hS : (az xa (i+1)).2.1 * (b.length : Int)=(az xa i).2.1 * b.length+p.2.1 * b.length:=by
    rw [← Int.add_mul];simp only [az,hx]
   rw [hS] at hnx ⊢
   have v1 : IntKind.i64.wrap (p.2.1 * b.length)=p.2.1 * b.length:=aa
   generalize (az xa i).2.1 * (b.length : Int)=y at *
   have v2 : IntKind.i64.wrap (y+p.2.1 * b.length)=y+p.2.1 * b.length:=aa
   with_reducible repeat' (first|refine Sp.h ?_|((first|refine Wd ?_|refine Ss.h ?_|(refine Sb.h ?_ ?_ ?_<;>(try intro hgd)<;>try exact Xy))<;>simp -implicitDefEqProofs (maxSteps:=2000000) [hP,hN,g0,g1,g4,hb4,g5,g6,hb6,g7,g8,g9,g10,hlt,hlx,hwr,hx,hxe,v1,v2,wb,l1,l2]<;>try refine Ya ?_)|refine X2 ?_ ?_|(refine Xd ?_ ?_<;>intro hcd<;>try exact Xx))
  have hin : i=a.length:=by omega
  subst hin
  have hT1:=hs1 a.length (by omega)
  generalize hy : (az xa a.length).2.1 * (b.length : Int)=Y at *
  skip
  with_reducible repeat' (first|refine Sp.h ?_|((first|refine Wd ?_|refine Ss.h ?_|(refine Sb.h ?_ ?_ ?_<;>(try intro hgd)<;>try exact Xy))<;>simp -implicitDefEqProofs (maxSteps:=2000000) [hP,hN,g0,g1,g4,g5,hb4,hb6,g6,g7,g8,g9,g10,l1,l2]<;>try refine Ya ?_)|refine X2 ?_ ?_|(refine Xd ?_ ?_<;>intro hcd<;>try exact Xx))
  refine WP.loopN [] b.length (fun i st=>st.t 0=.pv (aP a)∧st.t 1=.pv (aP b)∧st.t 4=.ptr 4 0∧st.h 4=some (.box [.pv (Z 0),.pv (Z 0),.pv (Z 0)] true false)∧st.t 5=.pv (B false)∧st.t 6=.ptr 6 0∧st.h 6=some (.box [.pv (Z V.1),.pv (Z (Y - (az xb i).2.1 * a.length)),.pv (Z 0)] true false)∧st.t 7=.pv (bb xa)∧st.t 8=.pv (bb xb)∧st.t 9=.pv (Z 1)∧st.t 11=.pv (Z i)) ?_ ?_
  ·simp [az,g0,g1,g4,hb4,g5,g6,hb6,g7,g8,g9]
  clear g0 g1 g4 hb4 g5 g6 hb6 g7 g8 g9 g10
  rintro i st hi ⟨g0,g1,g4,hb4,g5,g6,hb6,g7,g8,g9,g11⟩
  by_cases hlt : i < b.length
  ·have hlx : i < xb.length:=by omega
   have hwr:=ag hlt (by omega)
   obtain ⟨p,hx⟩ : ∃ p,xb[i]?=some p:=⟨_,List.getElem?_eq_getElem hlx⟩
   have hxe : ∀ h,xb[i]'h=p:=fun h=>by rw [List.getElem?_eq_getElem h] at hx;exact Option.some.inj hx
   have hnx:=hs2 (i+1) (by omega)
   have hcu:=hs2 i (by omega)
   have hp:=eP (List.all_eq_true.1 n2 p (List.mem_of_getElem? hx))
   obtain ⟨p1,p2,p3⟩:=hp
   have hpm:=e p.2.1 (by omega) _ h2
   have hS : (az xb (i+1)).2.1 * (a.length : Int)=(az xb i).2.1 * a.length+p.2.1 * a.length:=by
    rw [← Int.add_mul];simp only [az,hx]
   rw [hS] at hnx ⊢
   have v1 : IntKind.i64.wrap (p.2.1 * a.length)=p.2.1 * a.length:=aa
   generalize (az xb i).2.1 * (a.length : Int)=y at *
   have v2 : IntKind.i64.wrap (Y - y - p.2.1 * a.length)=Y - (y+p.2.1 * a.length):=(aa (by omega) (by omega)).trans (by omega)
   exact Gy
  have hin : i=b.length:=by omega
  subst hin
  have hVk : Y - (az xb b.length).2.1 * (a.length : Int)=V.2.1:=by rw [hmv,← hy]
  rw [hVk] at hb6
  skip
  with_reducible repeat' (first|refine Sp.h ?_|((first|refine Wd ?_|refine Ss.h ?_|(refine Sb.h ?_ ?_ ?_<;>(try intro hgd)<;>try exact Xy))<;>simp -implicitDefEqProofs (maxSteps:=2000000) [hP,hN,g0,g1,g4,g5,hb4,hb6,g6,g7,g8,g9,g11,l1,l2,vf]<;>try refine Ya ?_)|refine X2 ?_ ?_|(refine Xd ?_ ?_<;>intro hcd<;>try exact Xx))
 ·skip
  have hs1 : ∀ i : Nat,i≤8→-17179869184≤(az xa i).2.2 * b.length∧(az xa i).2.2 * b.length≤17179869184:=fun i hi=>by
   have h:=iw n1 i
   obtain ⟨q1,q2,q3⟩:=h
   exact e (az xa i).2.2 (by omega) _ h3
  have hs2 : ∀ i : Nat,i≤8→-17179869184≤(az xb i).2.2 * a.length∧(az xb i).2.2 * a.length≤17179869184:=fun i hi=>by
   have h:=iw n2 i
   obtain ⟨q1,q2,q3⟩:=h
   exact e (az xb i).2.2 (by omega) _ h2
  skip
  with_reducible repeat' (first|refine Sp.h ?_|((first|refine Wd ?_|refine Ss.h ?_|(refine Sb.h ?_ ?_ ?_<;>(try intro hgd)<;>try exact Xy))<;>simp -implicitDefEqProofs (maxSteps:=2000000) [hP,hN,g0,g1,g4,g5,hb4,hb6,g6,g7,g8,g9]<;>try refine Ya ?_)|refine X2 ?_ ?_|(refine Xd ?_ ?_<;>intro hcd<;>try exact Xx))
  refine WP.loopN [] a.length (fun i st=>st.t 0=.pv (aP a)∧st.t 1=.pv (aP b)∧st.t 4=.ptr 4 0∧st.h 4=some (.box [.pv (Z 0),.pv (Z 0),.pv (Z 0)] true false)∧st.t 5=.pv (B false)∧st.t 6=.ptr 6 0∧st.h 6=some (.box [.pv (Z V.1),.pv (Z V.2.1),.pv (Z ((az xa i).2.2 * b.length))] true false)∧st.t 7=.pv (bb xa)∧st.t 8=.pv (bb xb)∧st.t 9=.pv (Z 2)∧st.t 10=.pv (Z i)) ?_ ?_
  ·simp [az,g0,g1,g4,hb4,g5,g6,hb6,g7,g8,g9]
  clear g0 g1 g4 hb4 g5 g6 hb6 g7 g8 g9
  rintro i st hi ⟨g0,g1,g4,hb4,g5,g6,hb6,g7,g8,g9,g10⟩
  by_cases hlt : i < a.length
  ·have hlx : i < xa.length:=by omega
   have hwr:=ag hlt (by omega)
   obtain ⟨p,hx⟩ : ∃ p,xa[i]?=some p:=⟨_,List.getElem?_eq_getElem hlx⟩
   have hxe : ∀ h,xa[i]'h=p:=fun h=>by rw [List.getElem?_eq_getElem h] at hx;exact Option.some.inj hx
   have hnx:=hs1 (i+1) (by omega)
   have hcu:=hs1 i (by omega)
   have hp:=eP (List.all_eq_true.1 n1 p (List.mem_of_getElem? hx))
   obtain ⟨p1,p2,p3⟩:=hp
   have hpm:=e p.2.2 (by omega) _ h3
   have hS : (az xa (i+1)).2.2 * (b.length : Int)=(az xa i).2.2 * b.length+p.2.2 * b.length:=by
    rw [← Int.add_mul];simp only [az,hx]
   rw [hS] at hnx ⊢
   have v1 : IntKind.i64.wrap (p.2.2 * b.length)=p.2.2 * b.length:=aa
   generalize (az xa i).2.2 * (b.length : Int)=y at *
   have v2 : IntKind.i64.wrap (y+p.2.2 * b.length)=y+p.2.2 * b.length:=aa
   with_reducible repeat' (first|refine Sp.h ?_|((first|refine Wd ?_|refine Ss.h ?_|(refine Sb.h ?_ ?_ ?_<;>(try intro hgd)<;>try exact Xy))<;>simp -implicitDefEqProofs (maxSteps:=2000000) [hP,hN,g0,g1,g4,hb4,g5,g6,hb6,g7,g8,g9,g10,hlt,hlx,hwr,hx,hxe,v1,v2,wb,l1,l2]<;>try refine Ya ?_)|refine X2 ?_ ?_|(refine Xd ?_ ?_<;>intro hcd<;>try exact Xx))
  have hin : i=a.length:=by omega
  subst hin
  have hT1:=hs1 a.length (by omega)
  generalize hy : (az xa a.length).2.2 * (b.length : Int)=Y at *
  skip
  with_reducible repeat' (first|refine Sp.h ?_|((first|refine Wd ?_|refine Ss.h ?_|(refine Sb.h ?_ ?_ ?_<;>(try intro hgd)<;>try exact Xy))<;>simp -implicitDefEqProofs (maxSteps:=2000000) [hP,hN,g0,g1,g4,g5,hb4,hb6,g6,g7,g8,g9,g10,l1,l2]<;>try refine Ya ?_)|refine X2 ?_ ?_|(refine Xd ?_ ?_<;>intro hcd<;>try exact Xx))
  refine WP.loopN [] b.length (fun i st=>st.t 0=.pv (aP a)∧st.t 1=.pv (aP b)∧st.t 4=.ptr 4 0∧st.h 4=some (.box [.pv (Z 0),.pv (Z 0),.pv (Z 0)] true false)∧st.t 5=.pv (B false)∧st.t 6=.ptr 6 0∧st.h 6=some (.box [.pv (Z V.1),.pv (Z V.2.1),.pv (Z (Y - (az xb i).2.2 * a.length))] true false)∧st.t 7=.pv (bb xa)∧st.t 8=.pv (bb xb)∧st.t 9=.pv (Z 2)∧st.t 11=.pv (Z i)) ?_ ?_
  ·simp [az,g0,g1,g4,hb4,g5,g6,hb6,g7,g8,g9]
  clear g0 g1 g4 hb4 g5 g6 hb6 g7 g8 g9 g10
  rintro i st hi ⟨g0,g1,g4,hb4,g5,g6,hb6,g7,g8,g9,g11⟩
  by_cases hlt : i < b.length
  ·have hlx : i < xb.length:=by omega
   have hwr:=ag hlt (by omega)
   obtain ⟨p,hx⟩ : ∃ p,xb[i]?=some p:=⟨_,List.getElem?_eq_getElem hlx⟩
   have hxe : ∀ h,xb[i]'h=p:=fun h=>by rw [List.getElem?_eq_getElem h] at hx;exact Option.some.inj hx
   have hnx:=hs2 (i+1) (by omega)
   have hcu:=hs2 i (by omega)
   have hp:=eP (List.all_eq_true.1 n2 p (List.mem_of_getElem? hx))
   obtain ⟨p1,p2,p3⟩:=hp
   have hpm:=e p.2.2 (by omega) _ h2
   have hS : (az xb (i+1)).2.2 * (a.length : Int)=(az xb i).2.2 * a.length+p.2.2 * a.length:=by
    rw [← Int.add_mul];simp only [az,hx]
   rw [hS] at hnx ⊢
   have v1 : IntKind.i64.wrap (p.2.2 * a.length)=p.2.2 * a.length:=aa
   generalize (az xb i).2.2 * (a.length : Int)=y at *
   have v2 : IntKind.i64.wrap (Y - y - p.2.2 * a.length)=Y - (y+p.2.2 * a.length):=(aa (by omega) (by omega)).trans (by omega)
   exact Gy
  have hin : i=b.length:=by omega
  subst hin
  have hVk : Y - (az xb b.length).2.2 * (a.length : Int)=V.2.2:=by rw [hmv,← hy]
  rw [hVk] at hb6
  skip
  with_reducible repeat' (first|refine Sp.h ?_|((first|refine Wd ?_|refine Ss.h ?_|(refine Sb.h ?_ ?_ ?_<;>(try intro hgd)<;>try exact Xy))<;>simp -implicitDefEqProofs (maxSteps:=2000000) [hP,hN,g0,g1,g4,g5,hb4,hb6,g6,g7,g8,g9,g11,l1,l2,vf]<;>try refine Ya ?_)|refine X2 ?_ ?_|(refine Xd ?_ ?_<;>intro hcd<;>try exact Xx))
 ·skip
  with_reducible repeat' (first|refine Sp.h ?_|((first|refine Wd ?_|refine Ss.h ?_|refine Sc.h (c5) ?_|(refine Sb.h ?_ ?_ ?_<;>(try intro hgd)<;>try exact Xy))<;>simp -implicitDefEqProofs (maxSteps:=2000000) [hP,hN,g0,g1,g4,hb4,g5,g6,hb6,g7,g8,g9]<;>try refine Ya ?_)|refine X2 ?_ ?_|(refine Xd ?_ ?_<;>intro hcd<;>try exact Xx))
end Go.Ab
namespace Go.Ab
open Go.Proofs
theorem ut {n : Nat} (h : n≤100000000000) (m : Nat) (hm : m≤10) : (n+m) * 24≤140737488355328:=by omega
theorem Fk {α : Type} {p : α→Bool} {l : List α} {k : Nat} {v : α} (h : l[k]?=some v) : (l.take (k+1)).filter p=(l.take k).filter p++(if p v=true then [v] else []):=by
 rw [List.take_add_one,h,List.filter_append]
 simp only [Option.toList_some,List.filter_cons,List.filter_nil]
theorem Kh (a : List ar) (ra : Int) (b : List ar) (rb : Int) (hints : List Vc) (ha : a.length≤9223372036854775807) (hb : b.length≤9223372036854775807) (hl : hints.length≤100000000000) : ab Tryz.prog 117 [.pv (aP a),.pv (Z ra),.pv (aP b),.pv (Z rb),.pv (bb hints)] [] [] (.pv (bb (nT a ra b rb hints))):=by
 have ca:=rl a ha
 have cb:=rl b hb
 have cra:=vg ra
 have crb:=vg rb
 have hcl : nT a ra b rb hints=if wx a ra b rb then hints.filter bk++((if pL a b then [nR a b] else [])++(nQ++(if bk (my a ra b rb) then [my a ra b rb] else []))) else []:=rfl
 have hcb : wx a ra b rb=(aw a && aw b && aZ ra 0 1048576 && aZ rb 0 1048576):=rfl
 rw [hcl,hcb]
 cases hpa : aw a with
 |false=>
  rw [hpa] at ca
  refine Dp Tryz.func117 ?_
  intro C hP hN
  simp only [Tryz.f117] at hN ⊢
  exact Gy
 |true=>
 rw [hpa] at ca
 cases hpb : aw b with
 |false=>
  rw [hpb] at cb
  refine Dp Tryz.func117 ?_
  intro C hP hN
  simp only [Tryz.f117] at hN ⊢
  exact Gy
 |true=>
 rw [hpb] at cb
 cases hra : aZ ra 0 1048576 with
 |false=>
  rw [hra] at cra
  refine Dp Tryz.func117 ?_
  intro C hP hN
  simp only [Tryz.f117] at hN ⊢
  exact Gy
 |true=>
 rw [hra] at cra
 cases hrb : aZ rb 0 1048576 with
 |false=>
  rw [hrb] at crb
  refine Dp Tryz.func117 ?_
  intro C hP hN
  simp only [Tryz.f117] at hN ⊢
  exact Gy
 |true=>
 rw [hrb] at crb
 simp only [Bool.and_self,if_true]
 have c1:=Ah a ha
 have c2:=Ah b hb
 have hla:=(dM hpa).2.1
 have hlb:=(dM hpb).2.1
 have hca:=lD hpa
 have hcb:=lD hpb
 simp only [aZ,Bool.and_eq_true,decide_eq_true_eq] at hra hrb
 have hw : IntKind.i64.wrap (ra+rb)=ra+rb:=aa
 have c3:=Im (aQ a) (aQ b) (ra+rb) 64 (by omega) (by omega)
 have hnn : (ju (aQ a) (aQ b) (ra+rb) 64).2.n=my a ra b rb:=rfl
 rw [← hnn]
 generalize ju (aQ a) (aQ b) (ra+rb) 64=R at *
 have cm:=Kg a b ha hb
 have cax:=KB
 have hax : nQ.length=6:=rfl
 have hok:=zX nQ
 generalize nQ=AX at *
 generalize aQ a=xa at *
 generalize aQ b=xb at *
 have cu:=uY R.2.n
 rw [oK] at cu
 have hfl : ∀ i : Nat,((hints.take i).filter bk).length≤100000000000:=fun i=>Nat.le_trans (List.length_filter_le _ _) (by rw [List.length_take];omega)
 refine Dp Tryz.func117 ?_
 intro C hP hN
 simp only [Tryz.f117] at hN ⊢
 with_reducible repeat' (first|refine Sp.h ?_|((first|refine Wh [11] ?_|refine Ss.h ?_|refine Sc.h (ca) ?_|refine Sc.h (cb) ?_|refine Sc.h (cra) ?_|refine Sc.h (crb) ?_|(refine Sb.h ?_ ?_ ?_<;>(try intro hgd)<;>try exact Xy))<;>simp -implicitDefEqProofs (maxSteps:=2000000) [hP,hN])|refine X2 ?_ ?_|(refine Xd ?_ ?_<;>intro hcd<;>try exact Xx))
 refine WP.loopN [] hints.length (fun i st=>st.t 0=.pv (aP a)∧st.t 1=.pv (Z ra)∧st.t 2=.pv (aP b)∧st.t 3=.pv (Z rb)∧st.t 4=.pv (bb hints)∧st.t 12=.pv (Z i)∧st.t 11=.arr 11 ((hints.take i).filter bk).length∧st.h 11=some (.row 60 3 (((hints.take i).filter bk).map aV) 0)∧st.h 13=none∧st.h 15=none) (by simp) ?_
 rintro i st hi ⟨g0,g1,g2,g3,g4,g12,g11,hb11,hb13,hb15⟩
 by_cases hlt : i < hints.length
 ·have hwr:=ag hlt (by omega)
  generalize hxe : hints[i]=v at *
  have hx : hints[i]?=some v:=by rw [List.getElem?_eq_getElem hlt,hxe]
  have cv:=uY v
  rw [oK] at cv
  have hs:=Fk (p:=bk) hx
  rw [hs]
  have hPl:=hfl i
  generalize (hints.take i).filter bk=P at *
  cases hu : bk v with
  |true=>
   rw [hu] at cv
   simp only [if_true]
   have k1 : (P.length+1) * 24≤140737488355328:=by omega
   have k2 : P.length≤9223372036854775806:=by omega
   skip
   exact Gy
  |false=>
   rw [hu] at cv
   simp only [Bool.false_eq_true,if_false,List.append_nil]
   exact Gy
 ·have hin : i=hints.length:=by omega
  subst hin
  rw [List.take_length] at g11 hb11
  have hPl:=hfl hints.length
  rw [List.take_length] at hPl
  generalize hints.filter bk=P at *
  have k1 : (P.length+1) * 24≤140737488355328:=by omega
  have k2 : P.length≤9223372036854775806:=by omega
  have z0 : P.length≤9223372036854775799:=Nat.le_trans hPl (by decide)
  have z1 : P.length≤9223372036854775800:=Nat.le_trans hPl (by decide)
  have z2 : P.length≤9223372036854775801:=Nat.le_trans hPl (by decide)
  have k3 : (P.length+1+1) * 24≤140737488355328:=ut hPl 2 (by decide)
  have k4 : (P.length+6) * 24≤140737488355328:=ut hPl 6 (by decide)
  have k5 : (P.length+6+1) * 24≤140737488355328:=ut hPl 7 (by decide)
  have k6 : (P.length+1+6) * 24≤140737488355328:=ut hPl 7 (by decide)
  have k7 : (P.length+1+6+1) * 24≤140737488355328:=ut hPl 8 (by decide)
  cases hmb : pL a b with
  |true=>
   rw [hmb] at cm
   generalize nR a b=m at *
   simp only [if_true]
   cases hu : bk R.2.n with
   |true=>
    rw [hu] at cu
    simp only [if_true]
    skip
    with_reducible repeat' (first|refine Sp.h ?_|((first|refine Ss.h ?_|refine Sc.h (cm) ?_|refine Sc.h (cax) ?_|refine Sc.h (c1) ?_|refine Sc.h (c2) ?_|refine Sc.h (c3) ?_|refine Sc.h (cu) ?_|(refine Sb.h ?_ ?_ ?_<;>(try intro hgd)<;>try exact Xy))<;>simp -implicitDefEqProofs (maxSteps:=2000000) [hP,hN,g0,g1,g2,g3,g4,g12,g11,hb11,hb13,hb15,k1,k2,k6,k7,hw,hax,hok,z0,z1,z2])|refine X2 ?_ ?_|(refine Xd ?_ ?_<;>intro hcd<;>try exact Xx))
   |false=>
    rw [hu] at cu
    simp only [Bool.false_eq_true,if_false]
    with_reducible repeat' (first|refine Sp.h ?_|((first|refine Ss.h ?_|refine Sc.h (cm) ?_|refine Sc.h (cax) ?_|refine Sc.h (c1) ?_|refine Sc.h (c2) ?_|refine Sc.h (c3) ?_|refine Sc.h (cu) ?_|(refine Sb.h ?_ ?_ ?_<;>(try intro hgd)<;>try exact Xy))<;>simp -implicitDefEqProofs (maxSteps:=2000000) [hP,hN,g0,g1,g2,g3,g4,g12,g11,hb11,hb13,hb15,k1,k2,k6,k7,hw,hax,hok,z0,z1,z2])|refine X2 ?_ ?_|(refine Xd ?_ ?_<;>intro hcd<;>try exact Xx))
  |false=>
   rw [hmb] at cm
   generalize nR a b=m at *
   simp only [Bool.false_eq_true,if_false]
   cases hu : bk R.2.n with
   |true=>
    rw [hu] at cu
    simp only [if_true]
    skip
    with_reducible repeat' (first|refine Sp.h ?_|((first|refine Ss.h ?_|refine Sc.h (cm) ?_|refine Sc.h (cax) ?_|refine Sc.h (c1) ?_|refine Sc.h (c2) ?_|refine Sc.h (c3) ?_|refine Sc.h (cu) ?_|(refine Sb.h ?_ ?_ ?_<;>(try intro hgd)<;>try exact Xy))<;>simp -implicitDefEqProofs (maxSteps:=2000000) [hP,hN,g0,g1,g2,g3,g4,g12,g11,hb11,hb13,hb15,k1,k2,k4,k5,hw,hax,hok,z0,z1,z2])|refine X2 ?_ ?_|(refine Xd ?_ ?_<;>intro hcd<;>try exact Xx))
   |false=>
    rw [hu] at cu
    simp only [Bool.false_eq_true,if_false]
    with_reducible repeat' (first|refine Sp.h ?_|((first|refine Ss.h ?_|refine Sc.h (cm) ?_|refine Sc.h (cax) ?_|refine Sc.h (c1) ?_|refine Sc.h (c2) ?_|refine Sc.h (c3) ?_|refine Sc.h (cu) ?_|(refine Sb.h ?_ ?_ ?_<;>(try intro hgd)<;>try exact Xy))<;>simp -implicitDefEqProofs (maxSteps:=2000000) [hP,hN,g0,g1,g2,g3,g4,g12,g11,hb11,hb13,hb15,k1,k2,k4,k5,hw,hax,hok,z0,z1,z2])|refine X2 ?_ ?_|(refine Xd ?_ ?_<;>intro hcd<;>try exact Xx))
end Go.Ab
namespace Go.Ab
open Go.Proofs
theorem Ch {js : List J} {i : Nat} {j : J} (h : bp js i j=0) : j.lo≤j.hi:=by
 unfold bp at h
 repeat' split at h
 all_goals (try (cases h;done))
 all_goals omega
theorem zl {js : List J} {ms : List Ms} (h : aC js ms=0) : ∀ (i : Nat) j,js[i]?=some j→j.lo≤j.hi:=by
 unfold aC at h
 split at h
 ·cases h
 ·split at h
  ·rename_i hne;exact absurd h hne
  ·rename_i he
   intro i j hij
   have he' : gy js=0:=by simpa using he
   rw [lL] at he'
   by_cases hz : bp js i j=0
   ·exact Ch hz
   ·exfalso
    cases hf : (js.mapIdx (bp js)).find? (fun e=>e !=0) with
    |none=>
     rw [List.find?_eq_none] at hf
     have hm : bp js i j ∈ js.mapIdx (bp js):=by
      rw [List.mem_mapIdx]
      obtain ⟨h1,h2⟩:=List.getElem?_eq_some_iff.1 hij
      exact ⟨i,h1,by rw [h2]⟩
     exact hf _ hm (by simpa using hz)
    |some e=>
     rw [hf] at he'
     have:=List.find?_some hf
     simp only at he'
     rw [he'] at this
     simp at this
def oL (js : List J) (n : Nat) : Int:=((iH js)[n]?).getD 0
theorem DD (js : List J) : oL js 0=-1:=by
 have h:=nm (js:=js) (k:=0) js.length (Nat.zero_le _) (Nat.le_refl _) 0 (Nat.le_refl _)
 have : (iH js)[0]?=some (-1):=by rw [iH,h];rfl
 simp [oL,this]
theorem DE {js : List J} (hj : nj js) {n : Nat} {j : J} (h : js[n]?=some j) : oL js (n+1)=if j.lo=j.hi then oL js (j.parent+1).toNat else (n : Int):=by
 have:=z9 h (hj n j h)
 simp [oL,this]
def la (js : List J) (l : Int) (k : Nat) : Prop:=iF (em js 11 l) k=true∧lR js k=true
theorem sV {xs : List Int} {x : Int} : iF xs x=true↔x ∈ xs:=by
 simp [iF]
theorem Ci (js : List J) : em js 11 (-1)=[]:=by simp [em]
theorem vT {js : List J} (hj : nj js) (hl : js.length≤10) {n : Nat} {j : J} (h : js[n]?=some j) (k : Nat) : la js n k↔la js j.parent k∨(k=n∧lR js n=true):=by
 have hlt : n < js.length:=(List.getElem?_eq_some_iff.1 h).1
 have hst:=xX hj hl (k:=n) (by omega) (by omega)
 have hp : ol js n=j.parent:=by simp [ol,h]
 rw [hp] at hst
 simp only [la,hst,sV,List.mem_append,List.mem_singleton]
 constructor
 ·rintro ⟨h1|h1,h2⟩
  ·exact .inl ⟨h1,h2⟩
  ·have : k=n:=by omega
   subst this;exact .inr ⟨rfl,h2⟩
 ·rintro (⟨h1,h2⟩|⟨rfl,h2⟩)
  ·exact ⟨.inl h1,h2⟩
  ·exact ⟨.inr rfl,h2⟩
theorem Gt {js : List J} {n : Nat} {j : J} (h : js[n]?=some j) (hle : j.lo≤j.hi) : lR js n=!decide (j.lo=j.hi):=by
 simp only [lR,h]
 by_cases he : j.lo=j.hi
 ·simp [he]
 ·simp [he];omega
theorem xY {js : List J} (hj : nj js) (hl : js.length≤10) (hle : ∀ (i : Nat) j,js[i]?=some j→j.lo≤j.hi) : ∀ (m n : Nat),n≤m→n≤js.length→(oL js n=-1∧∀ k,¬ la js ((n : Int) - 1) k)∨(∃ c : Nat,oL js n=c∧c < js.length∧la js ((n : Int) - 1) c∧∀ k,la js ((n : Int) - 1) k↔la js c k)
 |m,0,_,_=>by
  left
  refine ⟨DD js,fun k h=>?_⟩
  have:=h.1
  rw [show ((0 : Nat) : Int) - 1=-1 by omega,Ci] at this
  cases this
 |0,n+1,h,_=>by omega
 |m+1,n+1,hm,hn=>by
  have hx : js[n]?=some (js[n]'(by omega)):=List.getElem?_eq_getElem _
  generalize js[n]'(by omega)=j at hx
  have hok:=hj n j hx
  unfold u0 at hok
  have hs:=DE hj hx
  have hmv:=Gt hx (hle n j hx)
  rw [show ((n+1 : Nat) : Int) - 1=(n : Int) by omega]
  by_cases he : j.lo=j.hi
  ·rw [if_pos he] at hs
   simp only [he,decide_true,Bool.not_true] at hmv
   have hiff : ∀ k,la js n k↔la js j.parent k:=fun k=>by
    rw [vT hj hl hx k,hmv];simp
   have ih:=xY hj hl hle m (j.parent+1).toNat (by omega) (by omega)
   rw [show (((j.parent+1).toNat : Nat) : Int) - 1=j.parent by omega,← hs] at ih
   rcases ih with ⟨h1,h2⟩|⟨c,h1,h2,h3,h4⟩
   ·exact .inl ⟨h1,fun k hk=>h2 k ((hiff k).1 hk)⟩
   ·exact .inr ⟨c,h1,h2,(hiff c).2 h3,fun k=>(hiff k).trans (h4 k)⟩
  ·rw [if_neg he] at hs
   simp only [he,decide_false,Bool.not_false] at hmv
   exact .inr ⟨n,hs,by omega,(vT hj hl hx n).2 (.inr ⟨rfl,hmv⟩),fun k=>Iff.rfl⟩
theorem xZ {js : List J} (hj : nj js) : ∀ (f : Nat) (l : Int),-1≤l→l < js.length→∀ x ∈ em js f l,0≤x∧x≤l
 |0,l,_,_,x,hx=>by cases hx
 |f+1,l,h0,h1,x,hx=>by
  rw [em] at hx
  split at hx
  ·cases hx
  ·obtain ⟨j,_,hp,a,b⟩:=rP hj (k:=l) (by omega) h1
   rcases List.mem_append.1 hx with hx|hx
   ·have:=xZ hj f (ol js l) (by omega) (by omega) x hx;omega
   ·rw [List.mem_singleton] at hx;omega
theorem z7 {js : List J} {a b : Int} : qm js a b=true↔∀ k,k < js.length→lR js k=true→(iF (em js 11 a) k=iF (em js 11 b) k):=by
 simp only [qm,mn,List.all_eq_true,List.mem_map,List.mem_filter,List.mem_range]
 constructor
 ·intro h k hk hm
  cases hc : (iF (em js 11 a) k !=iF (em js 11 b) k) with
  |false=>simpa using hc
  |true=>
   have:=h (k : Int) ⟨k,⟨hk,hc⟩,rfl⟩
   rw [Int.toNat_natCast,hm] at this
   cases this
 ·rintro h x ⟨k,⟨hk,hc⟩,rfl⟩
  cases hm : lR js k with
  |false=>rw [show (Int.ofNat k).toNat=k from rfl,hm];rfl
  |true=>
   have:=h k hk hm
   simp only [Cg,this,bne_self_eq_false] at hc
   cases hc
theorem EE {js : List J} {k : Nat} (h : lR js k=true) : k < js.length:=by
 unfold lR at h
 split at h
 ·rename_i j hj;exact (List.getElem?_eq_some_iff.1 hj).1
 ·cases h
theorem DF {js : List J} {ms : List Ms} (h0 : aC js ms=0) {a b : Int} (ha : da js.length a=true) (hb : da js.length b=true) : (oL js (a+1).toNat==oL js (b+1).toNat)=qm js a b:=by
 obtain ⟨hj,hl,_⟩:=nV h0
 have hle:=zl h0
 simp only [da,Bool.and_eq_true,decide_eq_true_eq] at ha hb
 have ca:=xY hj hl hle _ (a+1).toNat (Nat.le_refl _) (by omega)
 have cb:=xY hj hl hle _ (b+1).toNat (Nat.le_refl _) (by omega)
 rw [show (((a+1).toNat : Nat) : Int) - 1=a by omega] at ca
 rw [show (((b+1).toNat : Nat) : Int) - 1=b by omega] at cb
 have e : (oL js (a+1).toNat==oL js (b+1).toNat)=true↔qm js a b=true:=by
  rw [z7,beq_iff_eq]
  have hR : (∀ k,k < js.length→lR js k=true→(iF (em js 11 a) k=iF (em js 11 b) k))↔∀ k,la js a k↔la js b k:=by
   constructor
   ·intro h k
    simp only [la]
    constructor
    ·rintro ⟨h1,h2⟩;rw [h k (EE h2) h2] at h1;exact ⟨h1,h2⟩
    ·rintro ⟨h1,h2⟩;rw [← h k (EE h2) h2] at h1;exact ⟨h1,h2⟩
   ·intro h k hk hm
    have:=h k
    simp only [la,hm,and_true] at this
    cases h1 : iF (em js 11 a) k<;>cases h2 : iF (em js 11 b) k<;>simp_all
  rw [hR]
  rcases ca with ⟨a1,a2⟩|⟨c,a1,a2,a3,a4⟩<;>rcases cb with ⟨b1,b2⟩|⟨d,b1,b2,b3,b4⟩<;>rw [a1,b1]
  ·exact ⟨fun _ k=>⟨fun h=>absurd h (a2 k),fun h=>absurd h (b2 k)⟩,fun _=>rfl⟩
  ·exact ⟨fun h=>by omega,fun h=>absurd ((h d).2 b3) (a2 d)⟩
  ·exact ⟨fun h=>by omega,fun h=>absurd ((h c).1 a3) (b2 c)⟩
  ·constructor
   ·intro h k
    have : c=d:=by omega
    subst this
    rw [a4,b4]
   ·intro h
    have h1:=(h c).1 a3
    have h2:=(h d).2 b3
    rw [b4] at h1
    rw [a4] at h2
    have k1:=xZ hj 11 d (by omega) (by omega) c (sV.1 h1.1)
    have k2:=xZ hj 11 c (by omega) (by omega) d (sV.1 h2.1)
    omega
 cases h1 : (oL js (a+1).toNat==oL js (b+1).toNat)<;>cases h2 : qm js a b<;>simp_all
theorem DG {s : Sce} (h0 : aJ s=0) {a b : Sh} (ha : da s.js.length a.link=true) (hb : da s.js.length b.link=true) : wF s a b=(!(a.link==b.link) && !qm s.js a.link b.link && !ic s a.link b.link):=by
 have hr : aC s.js s.ms=0:=by
  unfold aJ at h0
  split at h0
  ·rename_i h;exact absurd h0 h
  ·rename_i h;simpa using h
 have e:=DF hr ha hb
 have hrig : u7 (iH s.js) a b=qm s.js a.link b.link:=e
 unfold wF
 rw [hrig]
 by_cases he : a.link=b.link
 ·have : qm s.js a.link b.link=true:=by
   rw [z7,he];exact fun _ _ _=>rfl
  rw [this]
  simp
 ·have : (a.link==b.link)=false:=by simp [he]
  rw [this]
  simp
theorem Jz (s : Sce) (hs : ScL s) : ab Tryz.prog 116 [.pv (dV s)] [] [] (.pv (.sl ((bC s).map nW))):=by
 have cc:=zZ s hs
 have csk:=fun a b=>Jy s a b hs.sks
 by_cases h0 : aJ s=0
 case neg=>
  have h0' : (aJ s !=0)=true:=by simp [h0]
  have hf : bC s=[]:=by simp [bC,h0]
  rw [hf]
  generalize aJ s=r at *
  refine Dp Tryz.func116 ?_
  intro C hP hN
  simp only [Tryz.f116] at hN ⊢
  exact Gy
 have hr : aC s.js s.ms=0:=by
  unfold aJ at h0
  split at h0
  ·rename_i h;exact absurd h0 h
  ·rename_i h;simpa using h
 obtain ⟨v1,v2,v3,v4,v5,v6,v7⟩:=kh h0
 have crg:=fun a b=>Jx s.js s.ms a b v2 hs.ms hr
 have hpb:=fun a b=>DG h0 (a:=a) (b:=b)
 have hf : bC s=gB s s.shs.length:=by simp [bC,h0]
 rw [hf]
 rw [h0] at cc
 have nL:=rS s
 have iL:=rR s
 refine Dp Tryz.func116 ?_
 intro C hP hN
 simp only [Tryz.f116] at hN ⊢
 with_reducible repeat' (first|refine Sp.h ?_|((first|refine Wh [3] ?_|refine Wi [3] ?_|refine Ss.h ?_|refine Sc.h (cc) ?_|(refine Sb.h ?_ ?_ ?_<;>(try intro hgd)<;>try exact Xy))<;>simp -implicitDefEqProofs (maxSteps:=2000000) [hP,hN]<;>try refine Ya ?_)|refine X2 ?_ ?_|(refine Xd ?_ ?_<;>intro hcd<;>try exact Xx))
 refine WP.loopN [] s.shs.length (fun i st=>st.t 1=.ptr 1 0∧st.h 1=some (.box [.pv (.sl (s.js.map bq)),.pv (.sl (s.ms.map bX)),.pv (.sl (s.shs.map bV)),.pv (.sl (s.sks.map av))] true false)∧st.t 4=.pv (Z i)∧st.t 3=.arr 3 (gB s i).length∧st.h 3=some (.row 178 2 ((gB s i).map nW) 0)) (by simp [gB]) ?_
 rintro i st hi ⟨g1,hb1,g4,g3,hb3⟩
 by_cases hlt : i < s.shs.length
 ·have hw:=ag hlt (by omega)
  have hlt' : (i : Int) < (s.shs.length : Int):=by omega
  generalize hxe : s.shs[i]=a at *
  have hx : s.shs[i]?=some a:=by rw [List.getElem?_eq_getElem hlt,hxe]
  have hla:=(v6 a (List.mem_of_getElem? hx)).1
  have hsucc : gB s (i+1)=gB s i++iR s i s.shs.length:=rfl
  have nLi:=nL i
  have hnn : i * s.shs.length≤24 * 24:=Nat.mul_le_mul (by omega) (by omega)
  have hI0:=u9 s i (i+1) (Nat.le_refl _)
  refine Gz ?_
  refine WP.loopN [] (s.shs.length - (i+1)) (fun q st=>st.t 1=.ptr 1 0∧st.h 1=some (.box [.pv (.sl (s.js.map bq)),.pv (.sl (s.ms.map bX)),.pv (.sl (s.shs.map bV)),.pv (.sl (s.sks.map av))] true false)∧st.t 4=.pv (Z i)∧st.t 5=.pv (Z ((i+1+q : Nat) : Int))∧st.t 3=.arr 3 (gB s i++iR s i (i+1+q)).length∧st.h 3=some (.row 178 2 ((gB s i++iR s i (i+1+q)).map nW) 0)) (by simp [g1,hb1,g4,g3,hb3,hI0]) ?_
  clear g1 hb1 g4 g3 hb3
  rintro q st hq ⟨g1,hb1,g4,g5,g3,hb3⟩
  obtain ⟨k,hk⟩ : ∃ k,k=i+1+q:=⟨_,rfl⟩
  have hk2 : i+1+(q+1)=k+1:=by omega
  rw [← hk] at g5 g3 hb3
  rw [hk2]
  have hIk : iR s i (k+1)=iR s i k++(if i < k∧eD s i k=true then [(i,k)] else []):=rfl
  have hlk:=iL i k
  by_cases hkl : k < s.shs.length
  ·have hkl' : (k : Int) < (s.shs.length : Int):=by omega
   have hwk : IntKind.i64.wrap ((k : Int)+1)=(k : Int)+1:=aa
   generalize hye : s.shs[k]=b at *
   have hy : s.shs[k]?=some b:=by rw [List.getElem?_eq_getElem hkl,hye]
   have hlb:=(v6 b (List.mem_of_getElem? hy)).1
   have hpa : eD s i k=(!(a.link==b.link) && !qm s.js a.link b.link && !ic s a.link b.link):=by
    simp only [eD,hx,hy];exact hpb a b hla hlb
   have cs:=csk a.link b.link
   have cg:=crg a.link b.link hla hlb
   have hik : i < k:=by omega
   have hlen : (gB s i++iR s i k).length≤1000:=by simp only [List.length_append];omega
   generalize hPdef : gB s i++iR s i k=P at *
   have hq2 : q < s.shs.length - (i+1):=by omega
   have hPs : gB s i++iR s i (k+1)=P++(if eD s i k=true then [(i,k)] else []):=by
    rw [hIk,← List.append_assoc,hPdef]
    simp [hik]
   rw [hPs]
   generalize ic s a.link b.link=sk at *
   generalize qm s.js a.link b.link=rg at *
   by_cases hab : a.link=b.link
   ·have hpa' : eD s i k=false:=by rw [hpa,hab];simp
    rw [hpa']
    with_reducible repeat' (first|refine Sp.h ?_|((first|refine Wd ?_|refine Ss.h ?_|(refine Sb.h ?_ ?_ ?_<;>(try intro hgd)<;>try exact Xy))<;>simp -implicitDefEqProofs (maxSteps:=2000000) [hP,hN,g1,hb1,g4,g5,g3,hb3,hkl,hkl',hwk,hx,hxe,hy,hye,hab,hlt,hlt',hq2]<;>try refine Ya ?_)|refine X2 ?_ ?_|(refine Xd ?_ ?_<;>intro hcd<;>try exact Xx))
   ·have hab' : (a.link !=b.link)=true:=by simp [hab]
    have hab2 : (a.link==b.link)=false:=by simp [hab]
    rw [hab2] at hpa
    cases rg with
    |true=>
     have hpa' : eD s i k=false:=by rw [hpa];rfl
     rw [hpa']
     with_reducible repeat' (first|refine Sp.h ?_|((first|refine Wd ?_|refine Ss.h ?_|refine Sc.h (cs) ?_|refine Sc.h (cg) ?_|(refine Sb.h ?_ ?_ ?_<;>(try intro hgd)<;>try exact Xy))<;>simp -implicitDefEqProofs (maxSteps:=2000000) [hP,hN,g1,hb1,g4,g5,g3,hb3,hkl,hkl',hwk,hx,hxe,hy,hye,hab,hab',hlt,hlt',hq2]<;>try refine Ya ?_)|refine X2 ?_ ?_|(refine Xd ?_ ?_<;>intro hcd<;>try exact Xx))
    |false=>
     cases sk with
     |true=>
      have hpa' : eD s i k=false:=by rw [hpa];rfl
      rw [hpa']
      with_reducible repeat' (first|refine Sp.h ?_|((first|refine Wd ?_|refine Ss.h ?_|refine Sc.h (cs) ?_|refine Sc.h (cg) ?_|(refine Sb.h ?_ ?_ ?_<;>(try intro hgd)<;>try exact Xy))<;>simp -implicitDefEqProofs (maxSteps:=2000000) [hP,hN,g1,hb1,g4,g5,g3,hb3,hkl,hkl',hwk,hx,hxe,hy,hye,hab,hab',hlt,hlt',hq2]<;>try refine Ya ?_)|refine X2 ?_ ?_|(refine Xd ?_ ?_<;>intro hcd<;>try exact Xx))
     |false=>
      have hpa' : eD s i k=true:=by rw [hpa];rfl
      rw [hpa']
      with_reducible repeat' (first|refine Sp.h ?_|((first|refine Wd ?_|refine Ss.h ?_|refine Sc.h (cs) ?_|refine Sc.h (cg) ?_|(refine Sb.h ?_ ?_ ?_<;>(try intro hgd)<;>try exact Xy))<;>simp -implicitDefEqProofs (maxSteps:=2000000) [hP,hN,g1,hb1,g4,g5,g3,hb3,hkl,hkl',hwk,hx,hxe,hy,hye,hab,hab',hlt,hlt',hq2,show (P.length+1) * 16≤140737488355328 by omega,show P.length≤9223372036854775806 by omega]<;>try refine Ya ?_)|refine X2 ?_ ?_|(refine Xd ?_ ?_<;>intro hcd<;>try exact Xx))
  ·have hkn : k=s.shs.length:=by omega
   have hkl' : ¬ (k : Int) < (s.shs.length : Int):=by omega
   rw [hkn,← hsucc] at g3 hb3
   exact Gy
 ·have hin : i=s.shs.length:=by omega
  subst hin
  exact Gy
end Go.Ab
namespace Go.Ab
open Go.Proofs
theorem DV {α : Type} {p : α→Bool} {l : List α} {i : Nat} (h : l.findIdx? p=some i) : ∃ v,l[i]?=some v∧i < l.length∧l.find? p=some v:=by
 rw [List.findIdx?_eq_some_iff_getElem] at h
 obtain ⟨hi,h1,h2⟩:=h
 refine ⟨l[i],List.getElem?_eq_getElem hi,hi,rc (List.getElem?_eq_getElem hi) h1 fun j x hj hx=>?_⟩
 obtain ⟨hjl,rfl⟩:=List.getElem?_eq_some_iff.1 hx
 have:=h2 j hj
 simpa using this
theorem A5 {α : Type} {p : α→Bool} {l : List α} (h : l.findIdx? p=none) : l.find? p=none:=by
 rw [List.findIdx?_eq_none_iff] at h
 rw [List.find?_eq_none]
 intro x hx
 rw [h x hx];simp
theorem Ct (a : List ar) (ra : Int) (b : List ar) (rb : Int) (hints : List Vc) : (nT a ra b rb hints).length≤hints.length+8:=by
 have hcl : nT a ra b rb hints=if wx a ra b rb then hints.filter bk++((if pL a b then [nR a b] else [])++(nQ++(if bk (my a ra b rb) then [my a ra b rb] else []))) else []:=rfl
 have hf:=List.length_filter_le bk hints
 have hax : nQ.length=6:=rfl
 rw [hcl]
 split
 ·rw [List.length_append,List.length_append,List.length_append,hax]
  have h1 : (if pL a b then [nR a b] else ([] : List Vc)).length≤1:=by split<;>simp
  have h2 : (if bk (my a ra b rb) then [my a ra b rb] else ([] : List Vc)).length≤1:=by split<;>simp
  omega
 ·simp
theorem LY (a : List ar) (ra : Int) (b : List ar) (rb : Int) (hints : List Vc) (ha : a.length≤9223372036854775807) (hb : b.length≤9223372036854775807) (hl : hints.length≤100000000000) : ab Tryz.prog 83 [.pv (aP a),.pv (Z ra),.pv (aP b),.pv (Z rb),.pv (bb hints)] [] [] (.pv (.tup [aV (nU a ra b rb hints).1,B (nU a ra b rb hints).2])):=by
 have c1:=Kh a ra b rb hints ha hb hl
 have hlen:=Ct a ra b rb hints
 have hfr : nU a ra b rb hints=match (nT a ra b rb hints).find? (fun n=>lj n a ra b rb) with
  |some n=>(n,true)
  |none=>((0,0,0),false):=rfl
 have c2:=KA (nT a ra b rb hints) a ra b rb (by omega) ha hb
 generalize nT a ra b rb hints=CL at *
 cases hfi : CL.findIdx? (fun n=>lj n a ra b rb) with
 |none=>
  rw [A5 hfi] at hfr
  rw [hfi] at c2
  simp only at hfr c2
  rw [hfr]
  refine Dp Tryz.func83 ?_
  intro C hP hN
  simp only [Tryz.f83] at hN ⊢
  exact Gy
 |some i=>
  obtain ⟨v,hx,hlt,hf⟩:=DV hfi
  rw [hf] at hfr
  rw [hfi] at c2
  simp only at hfr c2
  have hxe : ∀ h,CL[i]'h=v:=fun h=>by rw [List.getElem?_eq_getElem h] at hx;exact Option.some.inj hx
  rw [hfr]
  refine Dp Tryz.func83 ?_
  intro C hP hN
  simp only [Tryz.f83] at hN ⊢
  exact Gy
abbrev EG (p : List ar) (r : Int) : PV:=.agg [aP p,Z r]
def qo (SH : List Sh) (PT : List (List ar)) (p : Nat × Nat) : PV:=EG (bY PT p.1) (bU SH p.1)
def qp (SH : List Sh) (PT : List (List ar)) (p : Nat × Nat) : PV:=EG (bY PT p.2) (bU SH p.2)
abbrev uv (s : Sce) (bx : List Iv) : PV:=.sl ((bC s).map (qo s.shs (dm s bx)))
abbrev uw (s : Sce) (bx : List Iv) : PV:=.sl ((bC s).map (qp s.shs (dm s bx)))
theorem Af {α β : Type} (f : α→β) {l : List α} {k : Nat} {v : α} (h : l[k]?=some v) : (l.take (k+1)).map f=(l.take k).map f++[f v]:=by
 rw [List.take_add_one,h,List.map_append];rfl
theorem Cu {α β : Type} (f : α→β) {l : List α} {k : Nat} (h : k≤l.length) : ((l.take k).map f).length=k:=by
 rw [List.length_map,List.length_take];omega
theorem Io (s : Sce) (bx : List Iv) (hs : ScL s) (hbl : bx.length≤9223372036854775807) : ab Tryz.prog 82 [.pv (dV s),.pv (iv bx)] [] [] (.pv (.tup (if dP s bx then [uv s bx,uw s bx,B true] else [.sl [],.sl [],B false]))):=by
 have cc:=zZ s hs
 have ci:=G3 s.js s.ms bx hs.js hbl
 have hd : dP s bx=(decide (aJ s=0) && ie s.js bx):=rfl
 by_cases h0 : aJ s=0
 case neg=>
  have h0' : (aJ s !=0)=true:=by simp [h0]
  rw [decide_eq_false h0,Bool.false_and] at hd
  rw [hd]
  refine Dp Tryz.func82 ?_
  intro C hP hN
  simp only [Tryz.f82] at hN ⊢
  exact Gy
 have h0' : (aJ s !=0)=false:=by simp [h0]
 rw [decide_eq_true h0,Bool.true_and] at hd
 cases hbx : ie s.js bx with
 |false=>
  rw [hbx] at hd ci
  rw [hd]
  refine Dp Tryz.func82 ?_
  intro C hP hN
  simp only [Tryz.f82] at hN ⊢
  exact Gy
 |true=>
 have cp:=Kt s bx hs h0 hbx
 have cr:=Jz s hs
 rw [hbx] at hd ci
 have hb:=xR hd
 rw [hd]
 simp only [uv,uw,if_true]
 have hfew:=hb.few
 generalize bC s=PR at *
 generalize dm s bx=PT at *
 obtain ⟨js,ms,SH,sks⟩:=s
 simp only at *
 refine Dp Tryz.func82 ?_
 intro C hP hN
 simp only [Tryz.f82] at hN ⊢
 with_reducible repeat' (first|refine Sp.h ?_|((first|refine Wh [8,9] ?_|refine Wi [8,9] ?_|refine Ss.h ?_|refine Sc.h (cc) ?_|refine Sc.h (ci) ?_|refine Sc.h (cp) ?_|refine Sc.h (cr) ?_|(refine Sb.h ?_ ?_ ?_<;>(try intro hgd)<;>try exact Xy))<;>simp -implicitDefEqProofs (maxSteps:=2000000) [hP,hN,h0,h0']<;>try refine Ya ?_)|refine X2 ?_ ?_|(refine Xd ?_ ?_<;>intro hcd<;>try exact Xx))
 refine WP.loopN [] PR.length (fun i st=>st.t 2=.ptr 2 0∧st.h 2=some (.box [.pv (.sl (js.map bq)),.pv (.sl (ms.map bX)),.pv (.sl (SH.map bV)),.pv (.sl (sks.map av))] true false)∧st.t 7=.pv (.sl (PT.map aP))∧st.t 8=.arr 8 i∧st.h 8=some (.row 152 2 ((PR.take i).map (qo SH PT)) 0)∧st.t 9=.arr 9 i∧st.h 9=some (.row 152 2 ((PR.take i).map (qp SH PT)) 0)∧st.t 10=.pv (.sl (PR.map nW))∧st.t 11=.pv (Z i)) (by simp) ?_
 rintro k st hi ⟨g2,hb2,g7,g8,hb8,g9,hb9,g10,g11⟩
 by_cases hlt : k < PR.length
 ·have hwr:=ag hlt (by omega)
  obtain ⟨p,hp⟩ : ∃ p,PR[k]?=some p:=⟨_,List.getElem?_eq_getElem hlt⟩
  have eA:=Af (qo SH PT) hp
  have eB:=Af (qp SH PT) hp
  have zA:=Cu (qo SH PT) (Nat.le_of_lt hlt)
  have zB:=Cu (qp SH PT) (Nat.le_of_lt hlt)
  rw [eA,eB]
  generalize (PR.take k).map (qo SH PT)=RA at *
  generalize (PR.take k).map (qp SH PT)=RB at *
  clear eA eB
  obtain ⟨hlt',hpe⟩:=List.getElem?_eq_some_iff.1 hp
  obtain ⟨i,j⟩:=p
  have hpr:=hb.prs _ (List.mem_of_getElem? hp)
  simp only at hpr
  have hl:=hb.len
  have hxk : ∀ h,PR[k]'h=(i,j):=fun _=>hpe
  have i1 : i < PT.length:=by omega
  have j1 : j < PT.length:=by omega
  obtain ⟨a,ha⟩ : ∃ x,PT[i]?=some x:=⟨_,List.getElem?_eq_getElem i1⟩
  obtain ⟨b,hb'⟩ : ∃ x,PT[j]?=some x:=⟨_,List.getElem?_eq_getElem j1⟩
  obtain ⟨u,hu⟩ : ∃ x,SH[i]?=some x:=⟨_,List.getElem?_eq_getElem hpr.1⟩
  obtain ⟨v,hv⟩ : ∃ x,SH[j]?=some x:=⟨_,List.getElem?_eq_getElem hpr.2⟩
  have hxa : ∀ h,PT[i]'h=a:=fun h=>by rw [List.getElem?_eq_getElem h] at ha;exact Option.some.inj ha
  have hxb : ∀ h,PT[j]'h=b:=fun h=>by rw [List.getElem?_eq_getElem h] at hb';exact Option.some.inj hb'
  have hxu : ∀ h,SH[i]'h=u:=fun h=>by rw [List.getElem?_eq_getElem h] at hu;exact Option.some.inj hu
  have hxv : ∀ h,SH[j]'h=v:=fun h=>by rw [List.getElem?_eq_getElem h] at hv;exact Option.some.inj hv
  have e1 : qo SH PT (i,j)=.agg [aP a,Z u.rad]:=by simp [qo,bY,bU,ha,hu]
  have e2 : qp SH PT (i,j)=.agg [aP b,Z v.rad]:=by simp [qp,bY,bU,hb',hv]
  rw [e1,e2]
  obtain ⟨h1,h2⟩:=hpr
  have k1 : (k+1) * 32≤140737488355328:=by omega
  have k2 : k≤9223372036854775806:=by omega
  skip
  exact Gy
 ·have hin : k=PR.length:=by omega
  subst hin
  rw [List.take_length] at hb8 hb9
  exact Gy
end Go.Ab
namespace Go.Ab
open Go.Proofs
theorem Fl (hints : List Vc) (i : Nat) (hi : i < hints.length) (z : Option Value) (e n : Nat) (y : Option Value) : mE { size:=n,zero:=z,kind:=TK.slice e 3 24 y } (.pv (bb hints)) (some (.pv (.val (.int .i64 (i : Int))))) (some (.pv (.val (.int .i64 ((i : Int)+1)))))=some (.pv (bb (lQ hints i))):=by
 have h1 : (0 : Int)≤(i : Int):=by omega
 have h2 : (0 : Int)≤(i : Int)+1:=by omega
 have h3 : ((i : Int)).toNat=i:=by omega
 have h4 : ((i : Int)+1).toNat=i+1:=by omega
 simp only [mE,if_pos h1,if_pos h2,h3,h4,List.length_map]
 rw [if_pos ⟨by omega,by omega,by decide,zX hints⟩]
 congr 3
 rw [← List.map_take,← List.map_drop]
 congr 1
 unfold lQ
 rw [List.drop_take,show i+1 - i=1 by omega]
theorem A6 {hints : List Vc} {i : Nat} (h : ¬ i < hints.length) : lQ hints i=[]:=by
 unfold lQ
 rw [List.drop_eq_nil_of_le (by omega)];rfl
theorem Cv {SH : List Sh} {PR : List (Nat × Nat)} {PT : List (List ar)} {i : Nat} {p : Nat × Nat} (h : PR[i]?=some p) : (PR.map (qo SH PT))[i]?=some (.agg [aP (bY PT p.1),Z (bU SH p.1)]):=by
 rw [List.getElem?_map,h];rfl
theorem Cw {SH : List Sh} {PR : List (Nat × Nat)} {PT : List (List ar)} {i : Nat} {p : Nat × Nat} (h : PR[i]?=some p) : (PR.map (qp SH PT))[i]?=some (.agg [aP (bY PT p.2),Z (bU SH p.2)]):=by
 rw [List.getElem?_map,h];rfl
def rj (ap : Bool) : Int:=if ap then 1 else 0
def Ip (FN : List PV) (kd : Int) (i : Nat) (h : Hp) : Prop:=(i=0∧h 10=some (.box [.pv (Z kd),.pv (.val (.slice none 0 0)),.pv (Z 0),.pv (.val (.slice none 0 0)),.pv (.val (.slice none 0 0))] true false)∧h 71=none)∨(0 < i∧h 10=some (.box [.pv (Z kd),.arr 71 i,.pv (Z 0),.pv (.val (.slice none 0 0)),.pv (.val (.slice none 0 0))] true false)∧h 71=some (.row 60 3 (FN.take i) 0))
def Iq (SH : List Sh) (PR : List (Nat × Nat)) (PT : List (List ar)) (hints : List Vc) (FN : List PV) (RES : Vd) (i : Nat) (h : Hp) : Prop:=∃ ap,iO SH PR PT hints (PR.length - i) i ap=RES∧Ip FN (rj ap) i h
theorem mA {SH : List Sh} {PR : List (Nat × Nat)} {PT : List (List ar)} {hints : List Vc} {FN : List PV} {RES : Vd} {i : Nat} {h : Hp} (ap : Bool) (h1 : iO SH PR PT hints (PR.length - i) i ap=RES) (h2 : Ip FN (rj ap) i h) : Iq SH PR PT hints FN RES i h:=⟨ap,h1,h2⟩
set_option maxRecDepth 20000 in
theorem LZ (s : Sce) (bx : List Iv) (hints : List Vc) (hs : ScL s) (hbl : bx.length≤9223372036854775807) (hh : hints.length≤9223372036854775807) : ab Tryz.prog 56 [.pv (dV s),.pv (iv bx),.pv (bb hints)] [] [] (.pv (HF (jE s bx hints))):=by
 have cp:=Io s bx hs hbl
 have hd : jE s bx hints=if dP s bx then iO s.shs (bC s) (dm s bx) hints (bC s).length 0 true else ⟨0,[],⟨0,[],[]⟩⟩:=rfl
 cases hp : dP s bx with
 |false=>
  rw [hp] at cp hd
  simp only [Bool.false_eq_true,if_false] at cp hd
  rw [hd]
  refine Dp Tryz.func56 ?_
  intro C hP hN
  simp only [Tryz.f56] at hN ⊢
  with_reducible repeat' (first|refine Sp.h ?_|((first|refine Wd ?_|refine Ss.h ?_|refine Sc.h (cp) ?_|(refine Sb.h ?_ ?_ ?_<;>(try intro hgd)<;>try exact Xy))<;>simp -implicitDefEqProofs (maxSteps:=2000000) [hP,hN]<;>try refine Ya ?_)|refine X2 ?_ ?_|(refine Xd ?_ ?_<;>intro hcd<;>try exact Xx))
 |true=>
 rw [hp] at cp hd
 simp only [if_true] at cp hd
 have hb:=xR hp
 have hrd:=Fa hp
 rw [hd]
 simp only [uv,uw] at cp
 generalize bC s=PR at *
 generalize dm s bx=PT at *
 generalize s.shs=SH at *
 have hfew:=hb.few
 generalize hgo : iO SH PR PT hints PR.length 0 true=RES at *
 generalize hFN : (dQ SH PR PT hints).map aV=FN
 have hFl : FN.length=PR.length:=by rw [← hFN];simp [dQ]
 have hFk : ∀ k p,PR[k]?=some p→FN[k]?=some (aV (su SH PT hints k p).1):=fun k q hk=>by rw [← hFN,dQ,List.getElem?_map,List.getElem?_mapIdx,hk];rfl
 have hAt:=fun (i : Nat) (p : Nat × Nat) (h : PR[i]?=some p)=>Cv (SH:=SH) (PT:=PT) h
 have hBt:=fun (i : Nat) (p : Nat × Nat) (h : PR[i]?=some p)=>Cw (SH:=SH) (PT:=PT) h
 have hLA : (PR.map (qo SH PT)).length=PR.length:=by simp
 have hLB : (PR.map (qp SH PT)).length=PR.length:=by simp
 generalize PR.map (qo SH PT)=LA at *
 generalize PR.map (qp SH PT)=LB at *
 refine Dp Tryz.func56 ?_
 intro C hP hN
 simp only [Tryz.f56] at hN ⊢
 with_reducible repeat' (first|refine Sp.h ?_|((first|refine Wd ?_|refine Ss.h ?_|refine Sc.h (cp) ?_|(refine Sb.h ?_ ?_ ?_<;>(try intro hgd)<;>try exact Xy))<;>simp -implicitDefEqProofs (maxSteps:=2000000) [hP,hN,hLA,hLB]<;>try refine Ya ?_)|refine X2 ?_ ?_|(refine Xd ?_ ?_<;>intro hcd<;>try exact Xx))
 refine WP.loopN [13,15] PR.length (fun i st=>st.t 2=.pv (bb hints)∧st.t 6=.ptr 6 0∧st.h 6=some (.box [.pv (Z 0),.pv (.val (.slice none 0 0)),.pv (Z 0),.pv (.val (.slice none 0 0)),.pv (.val (.slice none 0 0))] true false)∧st.t 7=.pv (.sl LA)∧st.t 8=.pv (.sl LB)∧st.t 10=.ptr 10 0∧st.t 11=.pv (Z i)∧st.h 13=none∧st.h 15=none∧Iq SH PR PT hints FN RES i st.h) ?_ ?_
 ·simp
  exact mA true hgo (.inl ⟨rfl,by simp [rj],by simp⟩)
 rintro i st hi ⟨g2,g6,hb6,g7,g8,g10,g11,hb13,hb15,ap,hgo,hN71⟩
 by_cases hlt : i < PR.length
 ·have hwr:=ag hlt (by omega)
  have hlt' : (i : Int) < (PR.length : Int):=by omega
  obtain ⟨p,hp⟩ : ∃ p,PR[i]?=some p:=⟨_,List.getElem?_eq_getElem hlt⟩
  have hA:=hAt i p hp
  have hB:=hBt i p hp
  have hAe : ∀ h,LA[i]'h=.agg [aP (bY PT p.1),Z (bU SH p.1)]:=fun h=>by rw [List.getElem?_eq_getElem h] at hA;exact Option.some.inj hA
  have hBe : ∀ h,LB[i]'h=.agg [aP (bY PT p.2),Z (bU SH p.2)]:=fun h=>by rw [List.getElem?_eq_getElem h] at hB;exact Option.some.inj hB
  have r1:=hrd p.1
  have r2:=hrd p.2
  have l1:=xT hb p.1
  have l2:=xT hb p.2
  have cf:=LY (bY PT p.1) (bU SH p.1) (bY PT p.2) (bU SH p.2) (lQ hints i) (by omega) (by omega) (by simp [lQ];omega)
  have hfd : su SH PT hints i p=nU (bY PT p.1) (bU SH p.1) (bY PT p.2) (bU SH p.2) (lQ hints i):=rfl
  rw [← hfd] at cf
  rw [show PR.length - i=(PR.length - i - 1)+1 by omega] at hgo
  simp only [iO,hp] at hgo
  have hMi:=hFk i p hp
  generalize su SH PT hints i p=F at *
  have hts : FN.take (i+1)=FN.take i++[aV F.1]:=by rw [List.take_add_one,hMi];rfl
  have hz0 : (FN.take i).length=i:=by rw [List.length_take];omega
  have hz1 : i≤FN.length:=by omega
  have c1:=Ah (bY PT p.1) (by omega)
  have c2:=Ah (bY PT p.2) (by omega)
  have z1:=rd l1
  have z2:=rd l2
  have c3:=Im (aQ (bY PT p.1)) (aQ (bY PT p.2)) (bU SH p.1+bU SH p.2) 64 (by omega) (by omega)
  have hNd : oh SH PT p=ju (aQ (bY PT p.1)) (aQ (bY PT p.2)) (bU SH p.1+bU SH p.2) 64:=rfl
  have hln:=vR (aQ (bY PT p.1)) (aQ (bY PT p.2)) (bU SH p.1+bU SH p.2) 64
  rw [← hNd] at c3 hln
  have hw : IntKind.i64.wrap (bU SH p.1+bU SH p.2)=bU SH p.1+bU SH p.2:=aa
  generalize oh SH PT p=NN at *
  have co:=Il NN.2.w NN.2.v (bY PT p.1) (bU SH p.1) (bY PT p.2) (bU SH p.2) (by omega) (by omega) (by omega) (by omega)
  have hod : jY SH PT NN.2.w NN.2.v p=(jX NN.2.w NN.2.v (bY PT p.1) (bU SH p.1) (bY PT p.2) (bU SH p.2) && decide (0≤iM NN.2.w NN.2.v (bY PT p.1) (bU SH p.1) (bY PT p.2) (bU SH p.2))):=rfl
  rw [← hod] at co
  have k1 : (i+1) * 24≤140737488355328:=by omega
  have k2 : i≤9223372036854775806:=by omega
  clear hFk hFN hAt hBt
  by_cases hil : i < hints.length
  ·have hsl:=Fl hints i hil
   have hlt2 : (i : Int) < (hints.length : Int):=by omega
   rcases hN71 with ⟨hi0,hb10,hb71⟩|⟨hi0,hb10,hb71⟩
   ·have hz2 : FN.take i=[]:=by rw [hi0];rfl
    rw [hz2,List.nil_append] at hts
    cases hF2 : F.2 with
    |true=>
     rw [hF2] at cf hgo
     simp only [if_true] at hgo
     with_reducible repeat' (first|refine Sp.h ?_|((first|refine Wd ?_|refine Ss.h ?_|refine Sc.h (cf) ?_|(refine Sb.h ?_ ?_ ?_<;>(try intro hgd)<;>try exact Xy))<;>simp -implicitDefEqProofs (maxSteps:=2000000) [hP,hN,g2,g6,hb6,g7,g8,g10,g11,hb13,hb15,hb10,hb71,hil,hlt2,hlt,hlt',hwr,hA,hAe,hB,hBe,hLA,hLB,hsl,hz0,hz1,k1,k2]<;>try refine Ya ?_)|refine X2 ?_ ?_|(refine Xd ?_ ?_<;>intro hcd<;>try exact Xx))
     rw [show PR.length - i - 1=PR.length - (i+1) by omega] at hgo
     all_goals exact mA ap hgo (.inr ⟨by omega,by simp [hi0],by simp [hts]⟩)
    |false=>
     rw [hF2] at cf hgo
     simp only [Bool.false_eq_true,if_false] at hgo
     cases hov : jY SH PT NN.2.w NN.2.v p with
     |true=>
      rw [hov] at co hgo
      simp only [if_true] at hgo
      subst hgo
      with_reducible repeat' (first|refine Sp.h ?_|((first|refine Wd ?_|refine Ss.h ?_|refine Sc.h (cf) ?_|refine Sc.h (c1) ?_|refine Sc.h (c2) ?_|refine Sc.h (c3) ?_|refine Sc.h (co) ?_|(refine Sb.h ?_ ?_ ?_<;>(try intro hgd)<;>try exact Xy))<;>simp -implicitDefEqProofs (maxSteps:=2000000) [hP,hN,g2,g6,hb6,g7,g8,g10,g11,hb13,hb15,hb10,hb71,hil,hlt2,hlt,hlt',hwr,hA,hAe,hB,hBe,hLA,hLB,hsl,hz0,hz1,k1,k2,hw]<;>try refine Ya ?_)|refine X2 ?_ ?_|(refine Xd ?_ ?_<;>intro hcd<;>try exact Xx))
     |false=>
      rw [hov] at co hgo
      simp only [Bool.false_eq_true,if_false] at hgo
      rw [show PR.length - i - 1=PR.length - (i+1) by omega] at hgo
      with_reducible repeat' (first|refine Sp.h ?_|((first|refine Wd ?_|refine Ss.h ?_|refine Sc.h (cf) ?_|refine Sc.h (c1) ?_|refine Sc.h (c2) ?_|refine Sc.h (c3) ?_|refine Sc.h (co) ?_|(refine Sb.h ?_ ?_ ?_<;>(try intro hgd)<;>try exact Xy))<;>simp -implicitDefEqProofs (maxSteps:=2000000) [hP,hN,g2,g6,hb6,g7,g8,g10,g11,hb13,hb15,hb10,hb71,hil,hlt2,hlt,hlt',hwr,hA,hAe,hB,hBe,hLA,hLB,hsl,hz0,hz1,k1,k2,hw]<;>try refine Ya ?_)|refine X2 ?_ ?_|(refine Xd ?_ ?_<;>intro hcd<;>try exact Xx))
      all_goals exact mA false hgo (.inr ⟨by omega,by simp [rj,hi0],by simp [hts]⟩)
   ·have hz2 : 0 < i:=hi0
    cases hF2 : F.2 with
    |true=>
     rw [hF2] at cf hgo
     simp only [if_true] at hgo
     with_reducible repeat' (first|refine Sp.h ?_|((first|refine Wd ?_|refine Ss.h ?_|refine Sc.h (cf) ?_|(refine Sb.h ?_ ?_ ?_<;>(try intro hgd)<;>try exact Xy))<;>simp -implicitDefEqProofs (maxSteps:=2000000) [hP,hN,g2,g6,hb6,g7,g8,g10,g11,hb13,hb15,hb10,hb71,hil,hlt2,hlt,hlt',hwr,hA,hAe,hB,hBe,hLA,hLB,hsl,hz0,hz1,k1,k2]<;>try refine Ya ?_)|refine X2 ?_ ?_|(refine Xd ?_ ?_<;>intro hcd<;>try exact Xx))
     rw [show PR.length - i - 1=PR.length - (i+1) by omega] at hgo
     all_goals exact mA ap hgo (.inr ⟨by omega,by simp [hi0],by simp [hts]⟩)
    |false=>
     rw [hF2] at cf hgo
     simp only [Bool.false_eq_true,if_false] at hgo
     cases hov : jY SH PT NN.2.w NN.2.v p with
     |true=>
      rw [hov] at co hgo
      simp only [if_true] at hgo
      subst hgo
      with_reducible repeat' (first|refine Sp.h ?_|((first|refine Wd ?_|refine Ss.h ?_|refine Sc.h (cf) ?_|refine Sc.h (c1) ?_|refine Sc.h (c2) ?_|refine Sc.h (c3) ?_|refine Sc.h (co) ?_|(refine Sb.h ?_ ?_ ?_<;>(try intro hgd)<;>try exact Xy))<;>simp -implicitDefEqProofs (maxSteps:=2000000) [hP,hN,g2,g6,hb6,g7,g8,g10,g11,hb13,hb15,hb10,hb71,hil,hlt2,hlt,hlt',hwr,hA,hAe,hB,hBe,hLA,hLB,hsl,hz0,hz1,k1,k2,hw]<;>try refine Ya ?_)|refine X2 ?_ ?_|(refine Xd ?_ ?_<;>intro hcd<;>try exact Xx))
     |false=>
      rw [hov] at co hgo
      simp only [Bool.false_eq_true,if_false] at hgo
      rw [show PR.length - i - 1=PR.length - (i+1) by omega] at hgo
      with_reducible repeat' (first|refine Sp.h ?_|((first|refine Wd ?_|refine Ss.h ?_|refine Sc.h (cf) ?_|refine Sc.h (c1) ?_|refine Sc.h (c2) ?_|refine Sc.h (c3) ?_|refine Sc.h (co) ?_|(refine Sb.h ?_ ?_ ?_<;>(try intro hgd)<;>try exact Xy))<;>simp -implicitDefEqProofs (maxSteps:=2000000) [hP,hN,g2,g6,hb6,g7,g8,g10,g11,hb13,hb15,hb10,hb71,hil,hlt2,hlt,hlt',hwr,hA,hAe,hB,hBe,hLA,hLB,hsl,hz0,hz1,k1,k2,hw]<;>try refine Ya ?_)|refine X2 ?_ ?_|(refine Xd ?_ ?_<;>intro hcd<;>try exact Xx))
      all_goals exact mA false hgo (.inr ⟨by omega,by simp [rj,hi0],by simp [hts]⟩)
  ·have hsl : ¬ (i : Int) < (hints.length : Int):=by omega
   rw [A6 hil] at cf
   simp only [bb,List.map_nil] at cf
   rcases hN71 with ⟨hi0,hb10,hb71⟩|⟨hi0,hb10,hb71⟩
   ·have hz2 : FN.take i=[]:=by rw [hi0];rfl
    rw [hz2,List.nil_append] at hts
    cases hF2 : F.2 with
    |true=>
     rw [hF2] at cf hgo
     simp only [if_true] at hgo
     with_reducible repeat' (first|refine Sp.h ?_|((first|refine Wd ?_|refine Ss.h ?_|refine Sc.h (cf) ?_|(refine Sb.h ?_ ?_ ?_<;>(try intro hgd)<;>try exact Xy))<;>simp -implicitDefEqProofs (maxSteps:=2000000) [hP,hN,g2,g6,hb6,g7,g8,g10,g11,hb13,hb15,hb10,hb71,hil,hlt,hlt',hwr,hA,hAe,hB,hBe,hLA,hLB,hsl,hz0,hz1,k1,k2]<;>try refine Ya ?_)|refine X2 ?_ ?_|(refine Xd ?_ ?_<;>intro hcd<;>try exact Xx))
     rw [show PR.length - i - 1=PR.length - (i+1) by omega] at hgo
     all_goals exact mA ap hgo (.inr ⟨by omega,by simp [hi0],by simp [hts]⟩)
    |false=>
     rw [hF2] at cf hgo
     simp only [Bool.false_eq_true,if_false] at hgo
     cases hov : jY SH PT NN.2.w NN.2.v p with
     |true=>
      rw [hov] at co hgo
      simp only [if_true] at hgo
      subst hgo
      with_reducible repeat' (first|refine Sp.h ?_|((first|refine Wd ?_|refine Ss.h ?_|refine Sc.h (cf) ?_|refine Sc.h (c1) ?_|refine Sc.h (c2) ?_|refine Sc.h (c3) ?_|refine Sc.h (co) ?_|(refine Sb.h ?_ ?_ ?_<;>(try intro hgd)<;>try exact Xy))<;>simp -implicitDefEqProofs (maxSteps:=2000000) [hP,hN,g2,g6,hb6,g7,g8,g10,g11,hb13,hb15,hb10,hb71,hil,hlt,hlt',hwr,hA,hAe,hB,hBe,hLA,hLB,hsl,hz0,hz1,k1,k2,hw]<;>try refine Ya ?_)|refine X2 ?_ ?_|(refine Xd ?_ ?_<;>intro hcd<;>try exact Xx))
     |false=>
      rw [hov] at co hgo
      simp only [Bool.false_eq_true,if_false] at hgo
      rw [show PR.length - i - 1=PR.length - (i+1) by omega] at hgo
      with_reducible repeat' (first|refine Sp.h ?_|((first|refine Wd ?_|refine Ss.h ?_|refine Sc.h (cf) ?_|refine Sc.h (c1) ?_|refine Sc.h (c2) ?_|refine Sc.h (c3) ?_|refine Sc.h (co) ?_|(refine Sb.h ?_ ?_ ?_<;>(try intro hgd)<;>try exact Xy))<;>simp -implicitDefEqProofs (maxSteps:=2000000) [hP,hN,g2,g6,hb6,g7,g8,g10,g11,hb13,hb15,hb10,hb71,hil,hlt,hlt',hwr,hA,hAe,hB,hBe,hLA,hLB,hsl,hz0,hz1,k1,k2,hw]<;>try refine Ya ?_)|refine X2 ?_ ?_|(refine Xd ?_ ?_<;>intro hcd<;>try exact Xx))
      all_goals exact mA false hgo (.inr ⟨by omega,by simp [rj,hi0],by simp [hts]⟩)
   ·have hz2 : 0 < i:=hi0
    cases hF2 : F.2 with
    |true=>
     rw [hF2] at cf hgo
     simp only [if_true] at hgo
     with_reducible repeat' (first|refine Sp.h ?_|((first|refine Wd ?_|refine Ss.h ?_|refine Sc.h (cf) ?_|(refine Sb.h ?_ ?_ ?_<;>(try intro hgd)<;>try exact Xy))<;>simp -implicitDefEqProofs (maxSteps:=2000000) [hP,hN,g2,g6,hb6,g7,g8,g10,g11,hb13,hb15,hb10,hb71,hil,hlt,hlt',hwr,hA,hAe,hB,hBe,hLA,hLB,hsl,hz0,hz1,k1,k2]<;>try refine Ya ?_)|refine X2 ?_ ?_|(refine Xd ?_ ?_<;>intro hcd<;>try exact Xx))
     rw [show PR.length - i - 1=PR.length - (i+1) by omega] at hgo
     all_goals exact mA ap hgo (.inr ⟨by omega,by simp [hi0],by simp [hts]⟩)
    |false=>
     rw [hF2] at cf hgo
     simp only [Bool.false_eq_true,if_false] at hgo
     cases hov : jY SH PT NN.2.w NN.2.v p with
     |true=>
      rw [hov] at co hgo
      simp only [if_true] at hgo
      subst hgo
      with_reducible repeat' (first|refine Sp.h ?_|((first|refine Wd ?_|refine Ss.h ?_|refine Sc.h (cf) ?_|refine Sc.h (c1) ?_|refine Sc.h (c2) ?_|refine Sc.h (c3) ?_|refine Sc.h (co) ?_|(refine Sb.h ?_ ?_ ?_<;>(try intro hgd)<;>try exact Xy))<;>simp -implicitDefEqProofs (maxSteps:=2000000) [hP,hN,g2,g6,hb6,g7,g8,g10,g11,hb13,hb15,hb10,hb71,hil,hlt,hlt',hwr,hA,hAe,hB,hBe,hLA,hLB,hsl,hz0,hz1,k1,k2,hw]<;>try refine Ya ?_)|refine X2 ?_ ?_|(refine Xd ?_ ?_<;>intro hcd<;>try exact Xx))
     |false=>
      rw [hov] at co hgo
      simp only [Bool.false_eq_true,if_false] at hgo
      rw [show PR.length - i - 1=PR.length - (i+1) by omega] at hgo
      with_reducible repeat' (first|refine Sp.h ?_|((first|refine Wd ?_|refine Ss.h ?_|refine Sc.h (cf) ?_|refine Sc.h (c1) ?_|refine Sc.h (c2) ?_|refine Sc.h (c3) ?_|refine Sc.h (co) ?_|(refine Sb.h ?_ ?_ ?_<;>(try intro hgd)<;>try exact Xy))<;>simp -implicitDefEqProofs (maxSteps:=2000000) [hP,hN,g2,g6,hb6,g7,g8,g10,g11,hb13,hb15,hb10,hb71,hil,hlt,hlt',hwr,hA,hAe,hB,hBe,hLA,hLB,hsl,hz0,hz1,k1,k2,hw]<;>try refine Ya ?_)|refine X2 ?_ ?_|(refine Xd ?_ ?_<;>intro hcd<;>try exact Xx))
      all_goals exact mA false hgo (.inr ⟨by omega,by simp [rj,hi0],by simp [hts]⟩)
 ·have hin : i=PR.length:=by omega
  subst hin
  rw [Nat.sub_self] at hgo
  simp only [iO] at hgo
  have hBL : (dQ SH PR PT hints).length=PR.length:=by simp [dQ]
  rcases hN71 with ⟨hi0,hb10,hb71⟩|⟨hi0,hb10,hb71⟩
  ·have hz2 : dQ SH PR PT hints=[]:=List.eq_nil_of_length_eq_zero (by omega)
   rw [hz2] at hgo
   cases ap with
   |true=>
    simp only [if_true] at hgo
    subst hgo
    simp only [rj,if_true] at hb10
    with_reducible repeat' (first|refine Sp.h ?_|((first|refine Wd ?_|refine Ss.h ?_|(refine Sb.h ?_ ?_ ?_<;>(try intro hgd)<;>try exact Xy))<;>simp -implicitDefEqProofs (maxSteps:=2000000) [hP,hN,g2,g6,hb6,g7,g8,g10,g11,hb10,hb71,hb13,hb15,hLA,hLB,hi0]<;>try refine Ya ?_)|refine X2 ?_ ?_|(refine Xd ?_ ?_<;>intro hcd<;>try exact Xx))
   |false=>
    simp only [Bool.false_eq_true,if_false] at hgo
    subst hgo
    simp only [rj,Bool.false_eq_true,if_false] at hb10
    with_reducible repeat' (first|refine Sp.h ?_|((first|refine Wd ?_|refine Ss.h ?_|(refine Sb.h ?_ ?_ ?_<;>(try intro hgd)<;>try exact Xy))<;>simp -implicitDefEqProofs (maxSteps:=2000000) [hP,hN,g2,g6,hb6,g7,g8,g10,g11,hb10,hb71,hb13,hb15,hLA,hLB,hi0]<;>try refine Ya ?_)|refine X2 ?_ ?_|(refine Xd ?_ ?_<;>intro hcd<;>try exact Xx))
  ·rw [List.take_of_length_le (by omega),← hFN] at hb71
   cases ap with
   |true=>
    simp only [if_true] at hgo
    subst hgo
    simp only [rj,if_true] at hb10
    with_reducible repeat' (first|refine Sp.h ?_|((first|refine Wd ?_|refine Ss.h ?_|(refine Sb.h ?_ ?_ ?_<;>(try intro hgd)<;>try exact Xy))<;>simp -implicitDefEqProofs (maxSteps:=2000000) [hP,hN,g2,g6,hb6,g7,g8,g10,g11,hb10,hb71,hb13,hb15,hLA,hLB,hBL]<;>try refine Ya ?_)|refine X2 ?_ ?_|(refine Xd ?_ ?_<;>intro hcd<;>try exact Xx))
   |false=>
    simp only [Bool.false_eq_true,if_false] at hgo
    subst hgo
    simp only [rj,Bool.false_eq_true,if_false] at hb10
    with_reducible repeat' (first|refine Sp.h ?_|((first|refine Wd ?_|refine Ss.h ?_|(refine Sb.h ?_ ?_ ?_<;>(try intro hgd)<;>try exact Xy))<;>simp -implicitDefEqProofs (maxSteps:=2000000) [hP,hN,g2,g6,hb6,g7,g8,g10,g11,hb10,hb71,hb13,hb15,hLA,hLB,hBL]<;>try refine Ya ?_)|refine X2 ?_ ?_|(refine Xd ?_ ?_<;>intro hcd<;>try exact Xx))
end Go.Ab
namespace Go.Ab
open Go.Proofs
theorem L3 (s : Sce) (bx : List Iv) (w : Wit) (hs : ScL s) (hbl : bx.length≤9223372036854775807) (ha : w.a.length≤9223372036854775807) (hwb : w.b.length≤9223372036854775807) : ab Tryz.prog 67 [.pv (dV s),.pv (iv bx),.pv (wz w)] [] [] (.pv (B (fX s bx w))):=by
 have cp:=Io s bx hs hbl
 have hd : fX s bx w=(dP s bx && jZ s.shs (bC s) (dm s bx) w):=rfl
 cases hp : dP s bx with
 |false=>
  rw [hp] at cp hd
  simp only [Bool.false_eq_true,if_false,Bool.false_and] at cp hd
  rw [hd]
  refine Dp Tryz.func67 ?_
  intro C hP hN
  simp only [Tryz.f67] at hN ⊢
  with_reducible repeat' (first|refine Sp.h ?_|((first|refine Wd ?_|refine Ss.h ?_|refine Sc.h (cp) ?_|(refine Sb.h ?_ ?_ ?_<;>(try intro hgd)<;>try exact Xy))<;>simp -implicitDefEqProofs (maxSteps:=2000000) [hP,hN]<;>try refine Ya ?_)|refine X2 ?_ ?_|(refine Xd ?_ ?_<;>intro hcd<;>try exact Xx))
 |true=>
 rw [hp] at cp hd
 simp only [if_true,Bool.true_and] at cp hd
 have hb:=xR hp
 rw [hd]
 simp only [uv,uw] at cp
 generalize bC s=PR at *
 generalize dm s bx=PT at *
 generalize s.shs=SH at *
 have hpl:=hb.few
 have hAt:=fun (i : Nat) (p : Nat × Nat) (h : PR[i]?=some p)=>Cv (SH:=SH) (PT:=PT) h
 have hBt:=fun (i : Nat) (p : Nat × Nat) (h : PR[i]?=some p)=>Cw (SH:=SH) (PT:=PT) h
 have hLA : (PR.map (qo SH PT)).length=PR.length:=by simp
 have hLB : (PR.map (qp SH PT)).length=PR.length:=by simp
 generalize PR.map (qo SH PT)=LA at *
 generalize PR.map (qp SH PT)=LB at *
 by_cases h0 : w.pair < 0
 ·have hf : jZ SH PR PT w=false:=by unfold jZ;rw [decide_eq_false (by omega)];rfl
  rw [hf]
  refine Dp Tryz.func67 ?_
  intro C hP hN
  simp only [Tryz.f67] at hN ⊢
  with_reducible repeat' (first|refine Sp.h ?_|((first|refine Wd ?_|refine Ss.h ?_|refine Sc.h (cp) ?_|(refine Sb.h ?_ ?_ ?_<;>(try intro hgd)<;>try exact Xy))<;>simp -implicitDefEqProofs (maxSteps:=2000000) [hP,hN,h0,hLA]<;>try refine Ya ?_)|refine X2 ?_ ?_|(refine Xd ?_ ?_<;>intro hcd<;>try exact Xx))
 obtain ⟨k,hk⟩ : ∃ k : Nat,w.pair=k:=⟨w.pair.toNat,by omega⟩
 have hcd : jZ SH PR PT w=match PR[k]? with
  |some p=>jY SH PT w.a w.b p
  |none=>false:=by unfold jZ;rw [hk,decide_eq_true (by omega)];simp only [Bool.true_and,Int.toNat_natCast];rfl
 by_cases h1 : k < PR.length
 ·obtain ⟨p,hp⟩ : ∃ p,PR[k]?=some p:=⟨_,List.getElem?_eq_getElem h1⟩
  rw [hp] at hcd
  simp only at hcd
  have h1' : ¬ (PR.length : Int)≤k:=by omega
  have h1'' : ¬ PR.length≤k:=by omega
  have hA:=hAt k p hp
  have hB:=hBt k p hp
  have hAe : ∀ h,LA[k]'h=.agg [aP (bY PT p.1),Z (bU SH p.1)]:=fun h=>by rw [List.getElem?_eq_getElem h] at hA;exact Option.some.inj hA
  have hBe : ∀ h,LB[k]'h=.agg [aP (bY PT p.2),Z (bU SH p.2)]:=fun h=>by rw [List.getElem?_eq_getElem h] at hB;exact Option.some.inj hB
  have co:=Il w.a w.b (bY PT p.1) (bU SH p.1) (bY PT p.2) (bU SH p.2) ha hwb (rO hb _) (rO hb _)
  have hod : jY SH PT w.a w.b p=(jX w.a w.b (bY PT p.1) (bU SH p.1) (bY PT p.2) (bU SH p.2) && decide (0≤iM w.a w.b (bY PT p.1) (bU SH p.1) (bY PT p.2) (bU SH p.2))):=rfl
  rw [← hod] at co
  rw [hcd]
  generalize jY SH PT w.a w.b p=o at *
  refine Dp Tryz.func67 ?_
  intro C hP hN
  simp only [Tryz.f67] at hN ⊢
  with_reducible repeat' (first|refine Sp.h ?_|((first|refine Wd ?_|refine Ss.h ?_|refine Sc.h (cp) ?_|refine Sc.h (co) ?_|(refine Sb.h ?_ ?_ ?_<;>(try intro hgd)<;>try exact Xy))<;>simp -implicitDefEqProofs (maxSteps:=2000000) [hP,hN,hk,h1,h1',h1'',hA,hAe,hB,hBe,hLA,hLB]<;>try refine Ya ?_)|refine X2 ?_ ?_|(refine Xd ?_ ?_<;>intro hcd<;>try exact Xx))
 ·have hn : PR[k]?=none:=List.getElem?_eq_none (by omega)
  rw [hn] at hcd
  simp only at hcd
  rw [hcd]
  have h1' : (PR.length : Int)≤k:=by omega
  have h1'' : PR.length≤k:=by omega
  refine Dp Tryz.func67 ?_
  intro C hP hN
  simp only [Tryz.f67] at hN ⊢
  with_reducible repeat' (first|refine Sp.h ?_|((first|refine Wd ?_|refine Ss.h ?_|refine Sc.h (cp) ?_|(refine Sb.h ?_ ?_ ?_<;>(try intro hgd)<;>try exact Xy))<;>simp -implicitDefEqProofs (maxSteps:=2000000) [hP,hN,hk,h1',h1'',hLA]<;>try refine Ya ?_)|refine X2 ?_ ?_|(refine Xd ?_ ?_<;>intro hcd<;>try exact Xx))
end Go.Ab
namespace Go.Ab
open Go.Proofs
theorem B2 {t : Tr} (hv : au t=true) : ∀ i j,i < t.cells.length→j < t.cells.length→mi (ah t) i j=mi (ah t) j i:=by
 have key : ∀ {a b : Bx},aL vI a=true→aL vI b=true→dB a b=true→dB b a=true:=by
  intro a b ha hb h
  obtain ⟨h1,h2⟩:=(n8 ha hb).1 h
  exact (n8 hb ha).2 ⟨h1.symm,fun i x y hx hy=>(h2 i y x hy hx).symm⟩
 intro i j hi hj
 have hbl:=du hv
 have h1 : (ah t)[i]?=some (iT (ah t) i):=by simp [iT,List.getElem?_eq_getElem (by omega : i < (ah t).length)]
 have h2 : (ah t)[j]?=some (iT (ah t) j):=by simp [iT,List.getElem?_eq_getElem (by omega : j < (ah t).length)]
 have k1:=key (gE h1).2 (gE h2).2
 have k2:=key (gE h2).2 (gE h1).2
 simp only [mi] at *
 cases h : dB (iT (ah t) i) (iT (ah t) j) with
 |true=>rw [k1 h]
 |false=>
  cases h' : dB (iT (ah t) j) (iT (ah t) i) with
  |true=>rw [k2 h'] at h;cases h
  |false=>rfl
theorem uS {t : Tr} {op : List Bool} {p q : List Int} {sort : Int} (hv : au t=true) : (fV t op p q sort).length≤t.cells.length∧∀ k ∈ fV t op p q sort,k < t.cells.length∧mh t.cells op sort k=true:=by
 unfold fV
 cases h : kM t.cells.length (mh t.cells op sort) (kO (ah t) q) (kO (ah t) p) (mi (ah t)) with
 |true=>
  obtain ⟨b1,b2,b3,_⟩:=Bi (B2 hv) h
  refine ⟨b2,fun k hk=>?_⟩
  obtain ⟨j,hj⟩:=List.getElem?_of_mem hk
  obtain ⟨x1,x2,_⟩:=b3 j k hj
  exact ⟨x1,x2⟩
 |false=>simp [pY,h]
theorem E4 {js : List J} {ms : List Ms} (b : List (Int × Int)) : (kV b (aF js ms) && decide (0 < b.length))=ke js ms b:=by
 unfold ke aF
 by_cases hc : aC js ms=0
 ·have hlen:=mt hc
  simp only [hc,if_true,decide_true,Bool.true_and]
  by_cases he : js.length=b.length
  ·have hz : dF dG b (js.map gG)=dF (fun j x=>dG x (gG j)) js b:=by
    have e : dF dG b (js.map gG)=true↔dF (fun j x=>dG x (gG j)) js b=true:=by
     rw [kW,kW]
     constructor
     ·intro H i h h';have:=H i h' (by simpa using h);simpa using this
     ·intro H i h h';have:=H i (by simpa using h') h;simpa using this
    cases x : dF dG b (js.map gG)<;>cases y : dF (fun j x=>dG x (gG j)) js b<;>simp_all
   simp only [kV,List.length_map,hz]
   have p1 : decide (b.length=js.length)=true:=by simp [he]
   have p2 : decide (js.length=b.length)=true:=by simp [he]
   have p3 : decide (0 < b.length)=true:=by simp;omega
   simp only [p1,p2,p3,Bool.true_and,Bool.and_true]
  ·have h1 : decide (b.length=js.length)=false:=by simp;omega
   have h2 : decide (js.length=b.length)=false:=by simp;omega
   simp [kV,h1,h2]
 ·simp only [hc,if_false,decide_false,Bool.false_and]
  unfold kV
  cases b<;>simp
theorem LE (js : List J) (ms : List Ms) (b : List (Int × Int)) (hl : js.length≤9223372036854775807) (hm : ms.length≤9223372036854775807) (hb : b.length≤9223372036854775807) : ab Tryz.prog 55 [.pv (eU js ms),.pv (iv b)] [] [] (.pv (B (ke js ms b))):=by
 have hll : (aF js ms).length≤9223372036854775807:=by unfold aF;split<;>simp;omega
 have c1:=FO js ms hl hm
 have c2:=Ld b (aF js ms) hb hll
 rw [AH] at c2
 rw [← E4]
 generalize aF js ms=u at *
 generalize kV b u=v at *
 refine Dp Tryz.func55 ?_
 intro C hP hN
 simp only [Tryz.f55] at hN ⊢
 exact Gy
 all_goals simp_all
theorem Ge (s : Sce) (t : Tr) (i : Int) (hs : ScL s) (hl : t.cells.length≤9223372036854775807) (hr : t.root.length≤9223372036854775807) (hvs : ∀ c ∈ t.cells,c.v.nor.length≤9223372036854775807) : ab Tryz.prog 24 [.pv (dV s),.pv (bT t),.pv (Z i)] [] [] (.pv (.tup [bT (eO s t i),B (gQ s t i)])):=by
 have hjs:=hs.js
 have hms:=hs.ms
 have hbl : (eI t i).length≤9223372036854775807:=by
  unfold eI
  split
  ·rename_i h
   simp only [gc,Bool.and_eq_true,decide_eq_true_eq] at h
   have:=(dh h.1.1 (c:=i) (by omega)).2.1
   omega
  ·simp
 have cb:=Ml t i hl
 have cs:=zZ s hs
 have ci:=LE s.js s.ms (eI t i) hjs hms hbl
 cases hp : m9 s t i with
 |true=>
  have hp0:=hp
  simp only [m9,Bool.and_eq_true,decide_eq_true_eq] at hp
  obtain ⟨⟨h0,h1⟩,h2⟩:=hp
  have h1':=h1
  simp only [gc,Bool.and_eq_true,decide_eq_true_eq] at h1'
  obtain ⟨k,rfl⟩ : ∃ k : Nat,i=k:=⟨i.toNat,by omega⟩
  have hlt : k < t.cells.length:=by omega
  obtain ⟨c,hc⟩ : ∃ c,t.cells[k]?=some c:=⟨_,List.getElem?_eq_getElem hlt⟩
  have hce : ∀ h,t.cells[k]'h=c:=fun h=>aD hc h
  have hva : gf t k=c.v:=by simp [gf,hc]
  have c4:=LZ s (eI t k) c.v.nor hs hbl (hvs c (List.mem_of_getElem? hc))
  have hV : ma s t k=kJ (jE s (eI t k) c.v.nor):=by rw [ma,Int.toNat_natCast,hva]
  have hT : eO s t k=dH t k (kJ (jE s (eI t k) c.v.nor)):=by rw [eO,if_pos hp0,hV]
  have hO : gQ s t k=bM t k (kJ (jE s (eI t k) c.v.nor)):=by rw [gQ,hp0,Bool.true_and,hV]
  rw [hT,hO]
  have h0' : (aJ s !=0)=false:=by simp [h0]
  rw [h1] at cb
  rw [h2] at ci
  generalize jE s (eI t k) c.v.nor=V at *
  generalize eI t (k : Int)=b at *
  obtain ⟨kd,nl,⟨pr,A,D⟩⟩:=V
  simp only [kJ]
  have c5:=IB t k ⟨kd,nl,pr,A,D⟩ hl
  refine Dp Tryz.func24 ?_
  intro C hP hN
  simp only [Tryz.f24] at hN ⊢
  exact Gy
 |false=>
  have hT : eO s t i=t:=by rw [eO,if_neg (by simp [hp])]
  have hO : gQ s t i=false:=by rw [gQ,hp,Bool.false_and]
  rw [hT,hO]
  by_cases h0 : aJ s=0
  ·have h0' : (aJ s !=0)=false:=by simp [h0]
   cases h1 : gc t i with
   |false=>
    rw [h1] at cb
    refine Dp Tryz.func24 ?_
    intro C hP hN
    simp only [Tryz.f24] at hN ⊢
    exact Gy
   |true=>
    have h2 : ke s.js s.ms (eI t i)=false:=by simpa [m9,h0,h1] using hp
    rw [h1] at cb
    rw [h2] at ci
    refine Dp Tryz.func24 ?_
    intro C hP hN
    simp only [Tryz.f24] at hN ⊢
    exact Gy
  ·have h0' : (aJ s !=0)=true:=by simp [h0]
   refine Dp Tryz.func24 ?_
   intro C hP hN
   simp only [Tryz.f24] at hN ⊢
   exact Gy
structure TL (t : Tr) : Prop where
 c : t.cells.length≤1000000
 r : t.root.length≤1000000
 v : ∀ c ∈ t.cells,c.v.nor.length≤9223372036854775807
theorem xE {t : Tr} (h : TL t) (hc : t.cells.length≤999990) (i j : Int) : TL (bG t i j):=by
 unfold bG
 split
 ·refine ⟨by rw [kL];omega,h.r,fun c hc=>?_⟩
  simp only [fY,List.mem_append] at hc
  have hva : (gf t i.toNat).nor.length≤9223372036854775807:=by
   unfold gf
   split
   ·rename_i c hc;exact h.v c (List.mem_of_getElem? hc)
   ·simp [aN]
  rcases hc with hc|hc
  ·rcases List.mem_or_eq_of_mem_set hc with hc|rfl
   ·exact h.v c hc
   ·simp [aN]
  ·simp only [List.mem_cons,List.not_mem_nil,or_false] at hc
   rcases hc with rfl|rfl<;>exact hva
 ·exact h
theorem B3 {t : Tr} (h : TL t) (i : Int) {v : Verd} (hv : v.nor.length≤9223372036854775807) : TL (dH t i v):=by
 unfold dH
 split
 ·refine ⟨by simpa [en] using h.c,h.r,fun c hc=>?_⟩
  simp only [en] at hc
  rcases List.mem_or_eq_of_mem_set hc with hc|rfl
  ·exact h.v c hc
  ·exact hv
 ·exact h
theorem B4 {s : Sce} {t : Tr} (h : TL t) (i : Int) : TL (eO s t i):=by
 unfold eO
 split
 ·refine B3 h i ?_
  have:=(xU s (eI t i) (gf t i.toNat).nor).1
  simp only [ma,kJ];omega
 ·exact h
theorem oI (s : Sce) (t : Tr) (i : Int) : (eO s t i).cells.length=t.cells.length∧(eO s t i).root=t.root:=by
 unfold eO dH
 split
 ·split<;>simp [en]
 ·simp
theorem LF (s : Sce) (t : Tr) (i j : Int) (hs : ScL s) (hT : TL t) (hc : t.cells.length≤999990) : ab Tryz.prog 26 [.pv (dV s),.pv (bT t),.pv (Z i),.pv (Z j)] [] [] (.pv (.tup [bT (nK s t i j),B (qW s t i j)])):=by
 have hTc:=hT.c
 have hTr:=hT.r
 have c1:=Hg t i j (by omega)
 have hu:=xE hT hc i j
 have hO : qW s t i j=(bS t i j && gQ s (bG t i j) t.cells.length && gQ s (nJ s t i j) (t.cells.length+1)):=rfl
 have hF : nK s t i j=if qW s t i j then eO s (nJ s t i j) (t.cells.length+1) else t:=rfl
 cases h1 : bS t i j with
 |false=>
  rw [h1,Bool.false_and,Bool.false_and] at hO
  rw [hO,if_neg (by simp)] at hF
  rw [h1] at c1
  rw [hO,hF]
  refine Dp Tryz.func26 ?_
  intro C hP hN
  simp only [Tryz.f26] at hN ⊢
  exact Gy
 |true=>
 rw [h1] at c1 hO
 have hA : nJ s t i j=eO s (bG t i j) t.cells.length:=rfl
 have c2:=Ge s (bG t i j) t.cells.length hs (by have:=hu.c;omega) (by have:=hu.r;omega) hu.v
 rw [← hA] at c2
 have hu2 : TL (nJ s t i j):=B4 hu _
 have c3:=Ge s (nJ s t i j) (t.cells.length+1) hs (by have:=hu2.c;omega) (by have:=hu2.r;omega) hu2.v
 clear hA hu hu2 hT
 generalize hu9 : bG t i j=u at *
 generalize nJ s t i j=u2 at *
 have w0 : IntKind.i64.wrap ((t.cells.length : Int)+2)=(t.cells.length : Int)+2:=aa
 have w1 : IntKind.i64.wrap ((t.cells.length : Int)+1)=(t.cells.length : Int)+1:=aa
 have w2 : IntKind.i64.wrap ((t.cells.length : Int)+1+1)=(t.cells.length : Int)+2:=aa
 generalize hn : (t.cells.length : Int)=n at *
 obtain ⟨root,cells⟩:=t
 simp only at *
 cases h2 : gQ s u n with
 |false=>
  rw [h2,Bool.and_false,Bool.false_and] at hO
  rw [hO,if_neg (by simp)] at hF
  rw [h2] at c2
  rw [hO,hF]
  refine Dp Tryz.func26 ?_
  intro C hP hN
  simp only [Tryz.f26] at hN ⊢
  refine Gz ?_
  refine WP.loopN [] 1 (fun k st=>st.t 4=.ptr 4 0∧st.h 4=some (.box [.pv (.sl (s.js.map bq)),.pv (.sl (s.ms.map bX)),.pv (.sl (s.shs.map bV)),.pv (.sl (s.sks.map av))] true false)∧st.t 5=.ptr 5 0∧st.h 5=some (.box [.pv (iv root),.pv (.sl (cells.map br))] true false)∧st.t 8=.ptr 8 0∧st.h 8=some (.box [.pv (.val (.slice none 0 0)),.pv (.val (.slice none 0 0))] true false)∧st.t 10=.pv (Z n)∧st.t 11=.ptr 11 0∧st.h 11=some (.box [.pv (iv u.root),.pv (.sl (u.cells.map br))] true false)∧st.t 13=.pv (Z n)∧k=0) (by simp) ?_
  rintro k st hk ⟨g4,hb4,g5,hb5,g8,hb8,g10,g11,hb11,g13,hk0⟩
  subst hk0
  have hlt : n < n+2:=by omega
  exact Gy
 |true=>
 rw [h2,Bool.and_true,Bool.true_and] at hO
 rw [h2] at c2
 cases h3 : gQ s u2 (n+1) with
 |false=>
  rw [h3] at hO c3
  rw [hO,if_neg (by simp)] at hF
  rw [hO,hF]
  refine Dp Tryz.func26 ?_
  intro C hP hN
  simp only [Tryz.f26] at hN ⊢
  refine Gz ?_
  refine WP.loopN [] 2 (fun k st=>st.t 4=.ptr 4 0∧st.h 4=some (.box [.pv (.sl (s.js.map bq)),.pv (.sl (s.ms.map bX)),.pv (.sl (s.shs.map bV)),.pv (.sl (s.sks.map av))] true false)∧st.t 5=.ptr 5 0∧st.h 5=some (.box [.pv (iv root),.pv (.sl (cells.map br))] true false)∧st.t 8=.ptr 8 0∧st.h 8=some (.box [.pv (.val (.slice none 0 0)),.pv (.val (.slice none 0 0))] true false)∧st.t 10=.pv (Z n)∧st.t 11=.ptr 11 0∧((k=0∧st.h 11=some (.box [.pv (iv u.root),.pv (.sl (u.cells.map br))] true false)∧st.t 13=.pv (Z n))∨(k=1∧st.h 11=some (.box [.pv (iv u2.root),.pv (.sl (u2.cells.map br))] true false)∧st.t 13=.pv (Z (n+1))))) (by simp) ?_
  rintro k st hk ⟨g4,hb4,g5,hb5,g8,hb8,g10,g11,⟨hk0,hb11,g13⟩|⟨hk0,hb11,g13⟩⟩
  ·subst hk0
   have hlt : n < n+2:=by omega
   exact Gy
  ·subst hk0
   have hlt : n+1 < n+2:=by omega
   exact Gy
 |true=>
  rw [h3] at hO c3
  rw [hO,if_pos rfl] at hF
  rw [hO,hF]
  generalize eO s u2 (n+1)=u3 at *
  refine Dp Tryz.func26 ?_
  intro C hP hN
  simp only [Tryz.f26] at hN ⊢
  refine Gz ?_
  refine WP.loopN [] 3 (fun k st=>st.t 4=.ptr 4 0∧st.h 4=some (.box [.pv (.sl (s.js.map bq)),.pv (.sl (s.ms.map bX)),.pv (.sl (s.shs.map bV)),.pv (.sl (s.sks.map av))] true false)∧st.t 5=.ptr 5 0∧st.h 5=some (.box [.pv (iv root),.pv (.sl (cells.map br))] true false)∧st.t 8=.ptr 8 0∧st.h 8=some (.box [.pv (.val (.slice none 0 0)),.pv (.val (.slice none 0 0))] true false)∧st.t 10=.pv (Z n)∧st.t 11=.ptr 11 0∧((k=0∧st.h 11=some (.box [.pv (iv u.root),.pv (.sl (u.cells.map br))] true false)∧st.t 13=.pv (Z n))∨(k=1∧st.h 11=some (.box [.pv (iv u2.root),.pv (.sl (u2.cells.map br))] true false)∧st.t 13=.pv (Z (n+1)))∨(k=2∧st.h 11=some (.box [.pv (iv u3.root),.pv (.sl (u3.cells.map br))] true false)∧st.t 13=.pv (Z (n+2))))) (by simp) ?_
  rintro k st hk ⟨g4,hb4,g5,hb5,g8,hb8,g10,g11,⟨hk0,hb11,g13⟩|⟨hk0,hb11,g13⟩|⟨hk0,hb11,g13⟩⟩
  ·subst hk0
   have hlt : n < n+2:=by omega
   exact Gy
  ·subst hk0
   have hlt : n+1 < n+2:=by omega
   exact Gy
  ·subst hk0
   exact Gy
end Go.Ab
namespace Go.Ab
open Go.Proofs
theorem B5 {L : List PV} {n i : Nat} {z v : PV} (hL : L.length=n) (hi : i < n) (hv : L[i]?=some v) : (L.take i++List.replicate (n - i) z).set i v=L.take (i+1)++List.replicate (n - (i+1)) z:=by
 have hl : (L.take i).length=i:=by rw [List.length_take];omega
 rw [List.set_append_right _ _ (by omega),hl,Nat.sub_self,show n - i=(n - (i+1))+1 by omega,List.replicate_succ,List.set_cons_zero,List.take_add_one,hv]
 simp
theorem Dr {L : List PV} {n i : Nat} {z : PV} (hL : L.length=n) (hi : i≤n) : (L.take i++List.replicate (n - i) z).length=n:=by
 rw [List.length_append,List.length_take,List.length_replicate];omega
theorem xF {js : List J} {ms : List Ms} {w : Int} {b : Bx} (h : jT js ms b=-1) : nI js ms w b=false:=by simp [nI,h]
theorem B6 {js : List J} {ms : List Ms} {w : Int} {b : Bx} {j : Nat} {x : Int × Int} (h : jT js ms b=(j : Int)) (hx : b[j]?=some x) : nI js ms w b=decide (w < x.2 - x.1):=by
 have hj : (0 : Int)≤(j : Int):=by omega
 unfold nI
 rw [h,Int.toNat_natCast,hx,decide_eq_true hj,Bool.true_and]
theorem vK {js : List J} {ms : List Ms} {w : Int} {t : Tr} (hv : au t=true) : (jO js ms w t).length=t.cells.length:=by rw [jO,List.length_map,du hv]
set_option maxRecDepth 10000 in
theorem E5 (js : List J) (ms : List Ms) (t : Tr) (w : Int) (hjl : js.length≤9223372036854775807) (hml : ms.length≤9223372036854775807) (hl : t.cells.length≤9223372036854775807) : ab Tryz.prog 58 [.pv (eU js ms),.pv (bT t),.pv (Z w)] [] [] (.pv (.tup [if au t then Bj t.cells (ah t) (jO js ms w t) else .agg [.sl [],.sl [],.sl []],B (au t)])):=by
 have cb:=yA t hl
 cases hv : au t with
 |false=>
  rw [hv] at cb
  refine Dp Tryz.func58 ?_
  intro C hP hN
  simp only [Tryz.f58] at hN ⊢
  exact Gy
 |true=>
  rw [hv] at cb
  have hbl:=du hv
  have hz:=bc.1 (cO hv)
  have hol:=vK (js:=js) (ms:=ms) (w:=w) hv
  have hok : ∀ i b,(ah t)[i]?=some b→(jO js ms w t)[i]?=some (nI js ms w b):=fun i b h=>by rw [jO,List.getElem?_map,h];rfl
  generalize hOL : jO js ms w t=OL at *
  simp only [if_true]
  generalize hn : t.cells.length=n at *
  have hOm : (OL.map B).length=n:=by rw [List.length_map,hol]
  refine Dp Tryz.func58 ?_
  intro C hP hN
  simp only [Tryz.f58] at hN ⊢
  with_reducible repeat' (first|refine Sp.h ?_|((first|refine Wd ?_|refine Ss.h ?_|refine Sc.h (cb) ?_|(refine Sb.h ?_ ?_ ?_<;>(try intro hgd)<;>try exact Xy))<;>simp -implicitDefEqProofs (maxSteps:=2000000) [hP,hN,hbl,hn,show (1 : Int) * n≤281474976710656 by omega,show (n : Int)≤281474976710656 by omega,show (n : Int)≤9223372036854775807 by omega]<;>try refine Ya ?_)|refine X2 ?_ ?_|(refine Xd ?_ ?_<;>intro hcd<;>try exact Xx))
  refine WP.loopN [] n (fun i st=>st.t 2=.pv (Z w)∧st.t 3=.ptr 3 0∧st.t 6=.ptr 6 0∧st.t 8=.pv (.sl ((ah t).map iv))∧st.t 10=.ptr 10 0∧st.t 11=.pv (Z i)∧st.h 3=some (.box [.pv (.sl (js.map bq)),.pv (.sl (ms.map bX))] true false)∧st.h 6=some (.box [.pv (.val (.slice none 0 0)),.pv (.val (.slice none 0 0)),.pv (.val (.slice none 0 0))] true false)∧st.h 10=some (.box [.pv (.sl (t.cells.map br)),.pv (.sl ((ah t).map iv)),.arr 26 n] true false)∧st.h 26=some (.row 4 1 ((OL.map B).take i++List.replicate (n - i) (B false)) 0)) (by simp) ?_
  rintro i st hi ⟨g2,g3,g6,g8,g10,g11,hb3,hb6,hb10,hb26⟩
  have hfl:=Dr (z:=B false) hOm hi
  by_cases hlt : i < n
  ·have hw:=ag hlt (by omega)
   have hib : i < (ah t).length:=by omega
   have hbi : (ah t)[i]?=some (ah t)[i]:=List.getElem?_eq_getElem hib
   have hbok:=gE hbi
   generalize hbx : (ah t)[i]=b at *
   have hoi:=hok i b hbi
   have cw:=FP js ms b hjl hml (by omega)
   have hOi : (OL.map B)[i]?=some (B (nI js ms w b)):=by rw [List.getElem?_map,hoi];rfl
   have hfs:=B5 (z:=B false) hOm hlt hOi
   rcases xI js ms b with hj|⟨j,hj,hjl2,_,_,x,hx,hw2⟩
   ·rw [xF hj] at hfs
    rw [hj] at cw
    with_reducible repeat' (first|refine Sp.h ?_|((first|refine Wd ?_|refine Ss.h ?_|refine Sc.h (cw) ?_|(refine Sb.h ?_ ?_ ?_<;>(try intro hgd)<;>try exact Xy))<;>simp -implicitDefEqProofs (maxSteps:=2000000) [hP,hN,g2,g3,g6,g8,g10,g11,hb3,hb6,hb10,hb26,hlt,hw,hib,hbl,hbi,hbx,hfl,hfs]<;>try refine Ya ?_)|refine X2 ?_ ?_|(refine Xd ?_ ?_<;>intro hcd<;>try exact Xx))
   ·rw [B6 hj hx] at hfs
    rw [hj] at cw
    have hxe : ∀ h,b[j]'h=x:=fun h=>aD hx h
    have hvx:=cL.1 (dg.1 hbok.2 _ (List.mem_of_getElem? hx))
    have hwx : IntKind.i64.wrap (x.2 - x.1)=x.2 - x.1:=aa
    with_reducible repeat' (first|refine Sp.h ?_|((first|refine Wd ?_|refine Ss.h ?_|refine Sc.h (cw) ?_|(refine Sb.h ?_ ?_ ?_<;>(try intro hgd)<;>try exact Xy))<;>simp -implicitDefEqProofs (maxSteps:=2000000) [hP,hN,g2,g3,g6,g8,g10,g11,hb3,hb6,hb10,hb26,hlt,hw,hib,hbl,hbi,hbx,hfl,hjl2,hx,hxe,hwx,hfs]<;>try refine Ya ?_)|refine X2 ?_ ?_|(refine Xd ?_ ?_<;>intro hcd<;>try exact Xx))
  ·have hin : i=n:=by omega
   subst hin
   rw [List.take_of_length_le (by omega),Nat.sub_self,List.replicate_zero,List.append_nil] at hb26
   with_reducible repeat' (first|refine Sp.h ?_|((first|refine Wd ?_|refine Ss.h ?_|(refine Sb.h ?_ ?_ ?_<;>(try intro hgd)<;>try exact Xy))<;>simp -implicitDefEqProofs (maxSteps:=2000000) [hP,hN,g2,g3,g6,g8,g10,g11,hb3,hb6,hb10,hb26,hlt,hbl,hol]<;>try refine Ya ?_)|refine X2 ?_ ?_|(refine Xd ?_ ?_<;>intro hcd<;>try exact Xx))
theorem AO (t : Tr) (op : List Bool) (p q : List Int) (sort : Int) (hv : au t=true) (ho : op.length=t.cells.length) (hp : p.length≤9223372036854775807) (hq : q.length≤9223372036854775807) : ab Tryz.prog 59 [.pv (Bj t.cells (ah t) op),.pv (zs p),.pv (zs q),.pv (Z sort)] [] [] (.pv (.tup [.sl ((fV t op p q sort).map zN),B (jr t op p q sort)])):=by
 have hz:=bc.1 (cO hv)
 exact Mk t.cells (ah t) op p q sort (by omega) (du hv) ho (fun b hb=>by
  obtain ⟨j,hj⟩:=List.getElem?_of_mem hb
  have:=(gE hj).1
  omega) hp hq (B2 hv)
def vL (t : Tr) (op : List Bool) (c : List Nat) (i : Nat) : Prop:=∀ j x,j < i→c[j]?=some x→qV t op x=false
theorem vM {js : List J} {ms : List Ms} {t : Tr} {op : List Bool} {c : List Nat} (h : vL t op c c.length) : m8 js ms t op c=(-1,-1,0):=by
 have : c.find? (qV t op)=none:=Ce fun j x hj hx=>h j x hj hx
 rw [m8,this]
theorem vN {js : List J} {ms : List Ms} {t : Tr} {op : List Bool} {c : List Nat} {i k : Nat} (h : vL t op c i) (hk : c[i]?=some k) (hp : qV t op k=true) : m8 js ms t op c=((k : Int),jT js ms (aE t (k : Int)),3):=by
 have : c.find? (qV t op)=some k:=rc hk hp h
 rw [m8,this]
set_option maxRecDepth 10000 in
theorem LG (js : List J) (ms : List Ms) (t : Tr) (p q : List Int) (w : Int) (hjl : js.length≤9223372036854775807) (hml : ms.length≤9223372036854775807) (hl : t.cells.length≤9223372036854775807) (hr : t.root.length≤9223372036854775807) (hpl : p.length≤9223372036854775807) (hql : q.length≤9223372036854775807) : ab Tryz.prog 25 [.pv (eU js ms),.pv (bT t),.pv (zs p),.pv (zs q),.pv (Z w)] [] [] (.pv (.tup [Z (fv js ms t p q w).1,Z (fv js ms t p q w).2.1,Z (fv js ms t p q w).2.2])):=by
 have cr:=qh js ms hjl hml
 have cp:=vu t.root p hr hpl
 have cq:=vu t.root q hr hql
 rw [mG] at cp cq
 have co:=E5 js ms t w hjl hml hl
 have hN : fv js ms t p q w=if wv js ms t p q w && au t then AQ js ms t (jO js ms w t) p q else (-1,-1,0):=rfl
 have hP : wv js ms t p q w=(decide (aC js ms=0) && decide (t.root.length=js.length) && decide (1≤w) && bO t.root p && bO t.root q):=rfl
 by_cases h0 : aC js ms=0
 case neg=>
  rw [decide_eq_false h0,Bool.false_and,Bool.false_and,Bool.false_and,Bool.false_and] at hP
  rw [hP,Bool.false_and,if_neg (by simp)] at hN
  have h0' : (aC js ms !=0)=true:=by simp [h0]
  rw [hN]
  refine Dp Tryz.func25 ?_
  intro C hP hN
  simp only [Tryz.f25] at hN ⊢
  exact Gy
 have h0' : (aC js ms !=0)=false:=by simp [h0]
 rw [decide_eq_true h0,Bool.true_and] at hP
 by_cases h1 : t.root.length=js.length
 case neg=>
  rw [decide_eq_false h1,Bool.false_and,Bool.false_and,Bool.false_and] at hP
  rw [hP,Bool.false_and,if_neg (by simp)] at hN
  have h1' : ((t.root.length : Int) !=(js.length : Int))=true:=by simp;omega
  rw [hN]
  refine Dp Tryz.func25 ?_
  intro C hP hN
  simp only [Tryz.f25] at hN ⊢
  exact Gy
 have h1' : ((t.root.length : Int) !=(js.length : Int))=false:=by simp [h1]
 rw [decide_eq_true h1,Bool.true_and] at hP
 by_cases h2 : 1≤w
 case neg=>
  rw [decide_eq_false h2,Bool.false_and,Bool.false_and] at hP
  rw [hP,Bool.false_and,if_neg (by simp)] at hN
  have h2' : w < 1:=by omega
  rw [hN]
  refine Dp Tryz.func25 ?_
  intro C hP hN
  simp only [Tryz.f25] at hN ⊢
  exact Gy
 have h2' : ¬ w < 1:=by omega
 rw [decide_eq_true h2,Bool.true_and] at hP
 cases h3 : bO t.root p with
 |false=>
  rw [h3,Bool.false_and] at hP
  rw [hP,Bool.false_and,if_neg (by simp)] at hN
  rw [h3] at cp
  rw [hN]
  refine Dp Tryz.func25 ?_
  intro C hP hN
  simp only [Tryz.f25] at hN ⊢
  exact Gy
 |true=>
 rw [h3,Bool.true_and] at hP
 rw [h3] at cp
 cases h4 : bO t.root q with
 |false=>
  rw [h4] at hP cq
  rw [hP,Bool.false_and,if_neg (by simp)] at hN
  rw [hN]
  refine Dp Tryz.func25 ?_
  intro C hP hN
  simp only [Tryz.f25] at hN ⊢
  exact Gy
 |true=>
 rw [h4] at hP cq
 rw [hP,Bool.true_and] at hN
 cases hv : au t with
 |false=>
  rw [hv,if_neg (by simp)] at hN
  rw [hv,if_neg (by simp)] at co
  rw [hN]
  refine Dp Tryz.func25 ?_
  intro C hP hN
  simp only [Tryz.f25] at hN ⊢
  exact Gy
 |true=>
 rw [hv,if_pos rfl] at hN co
 rw [hN]
 clear hN hP
 have hz:=bc.1 (cO hv)
 have hbl:=du hv
 have hol:=vK (js:=js) (ms:=ms) (w:=w) hv
 generalize jO js ms w t=OL at *
 have b0:=AO t OL p q 0 hv hol hpl hql
 have b1:=AO t OL p q 1 hv hol hpl hql
 have b2:=AO t OL p q 2 hv hol hpl hql
 have b3:=AO t OL p q 3 hv hol hpl hql
 have hG : AQ js ms t OL p q=if jr t OL p q 0=true then (-1,-1,1) else if jr t OL p q 3=false then (-1,-1,2) else if jr t OL p q 1=true then m8 js ms t OL (fV t OL p q 1) else if jr t OL p q 2=true then (-1,-1,5) else m8 js ms t OL (fV t OL p q 3):=rfl
 rw [hG]
 clear hG
 have m1:=uS (op:=OL) (p:=p) (q:=q) (sort:=1) hv
 have m3:=uS (op:=OL) (p:=p) (q:=q) (sort:=3) hv
 cases e0 : jr t OL p q 0 with
 |true=>
  rw [e0] at b0
  simp only [if_true]
  generalize fV t OL p q 0=C0 at *
  refine Dp Tryz.func25 ?_
  intro C hP hN
  simp only [Tryz.f25] at hN ⊢
  exact Gy
 |false=>
 rw [e0] at b0
 simp only [Bool.false_eq_true,if_false]
 cases e3 : jr t OL p q 3 with
 |false=>
  rw [e3] at b3
  simp only [if_true]
  generalize fV t OL p q 0=C0 at *
  generalize fV t OL p q 3=C3 at *
  refine Dp Tryz.func25 ?_
  intro C hP hN
  simp only [Tryz.f25] at hN ⊢
  exact Gy
 |true=>
 rw [e3] at b3
 simp only [Bool.true_eq_false,if_false]
 cases e1 : jr t OL p q 1 with
 |true=>
  rw [e1] at b1
  simp only [if_true]
  obtain ⟨hlen,hmem⟩:=m1
  generalize fV t OL p q 0=C0 at *
  generalize fV t OL p q 1=C1 at *
  generalize fV t OL p q 3=C3 at *
  refine Dp Tryz.func25 ?_
  intro C hP hN
  simp only [Tryz.f25] at hN ⊢
  refine Gz ?_
  refine WP.loopN [] (C1).length (fun i st=>st.t 5=.ptr 5 0∧st.h 5=some (.box [.pv (.sl (js.map bq)),.pv (.sl (ms.map bX))] true false)∧st.t 13=.ptr 13 0∧st.h 13=some (.box [.pv (.sl (t.cells.map br)),.pv (.sl ((ah t).map iv)),.pv (.sl (OL.map B))] true false)∧st.t 17=.pv (.sl ((C1).map zN))∧st.t 23=.pv (Z i)∧vL t OL (C1) i) ?_ ?_
  ·simp
   exact fun j x hj=>by omega
  rintro i st hi ⟨g5,hb5,g13,hb13,g17,g23,hq0⟩
  by_cases hlt : i < (C1).length
  ·have hlt' : (i : Int) < ((C1).length : Int):=by omega
   have hwr:=ag hlt (by omega)
   generalize hke : (C1)[i]=k at *
   have hk : (C1)[i]?=some k:=by rw [List.getElem?_eq_getElem hlt,hke]
   obtain ⟨hkn,_⟩:=hmem k (List.mem_of_getElem? hk)
   obtain ⟨c,hc⟩ : ∃ c,t.cells[k]?=some c:=⟨_,List.getElem?_eq_getElem hkn⟩
   have hce : ∀ h,t.cells[k]'h=c:=fun h=>aD hc h
   have hko : k < OL.length:=by omega
   obtain ⟨o,ho⟩ : ∃ o,OL[k]?=some o:=⟨_,List.getElem?_eq_getElem hko⟩
   have hoe : ∀ h,OL[k]'h=o:=fun h=>aD ho h
   have hkb : k < (ah t).length:=by omega
   have hbk : (ah t)[k]?=some (aE t (k : Int)):=(dh hv (c:=(k : Int)) hkn).1
   have hbe : ∀ h,(ah t)[k]'h=aE t (k : Int):=fun h=>aD hbk h
   have cw:=FP js ms (aE t (k : Int)) hjl hml (by have:=(dh hv (c:=(k : Int)) hkn).2.1;omega)
   have hnp : qV t OL k=(decide (c.v.kind=0) && o):=by simp [qV,gf,hc,ho]
   by_cases hk0 : c.v.kind=0
   ·have hk0' : (c.v.kind==0)=true:=by simp [hk0]
    cases o with
    |true=>
     have:=vN (js:=js) (ms:=ms) hq0 hk (by rw [hnp,hk0];rfl)
     rw [this]
     exact Gy
    |false=>
     have hst : vL t OL (C1) (i+1):=fun j x hj hx=>by
      by_cases e : j=i
      ·subst e;rw [hk] at hx;injection hx with hx;subst hx;rw [hnp,Bool.and_false]
      ·exact hq0 j x (by omega) hx
     exact Gy
     all_goals exact hst
   ·have hk0' : (c.v.kind==0)=false:=by simp [hk0]
    have hst : vL t OL (C1) (i+1):=fun j x hj hx=>by
     by_cases e : j=i
     ·subst e;rw [hk] at hx;injection hx with hx;subst hx;rw [hnp,decide_eq_false hk0,Bool.false_and]
     ·exact hq0 j x (by omega) hx
    exact Gy
    all_goals exact hst
  ·have hin : i=(C1).length:=by omega
   subst hin
   rw [vM hq0]
   exact Gy
 |false=>
 rw [e1] at b1
 simp only [Bool.false_eq_true,if_false]
 cases e2 : jr t OL p q 2 with
 |true=>
  rw [e2] at b2
  simp only [if_true]
  generalize fV t OL p q 0=C0 at *
  generalize fV t OL p q 1=C1 at *
  generalize fV t OL p q 2=C2 at *
  generalize fV t OL p q 3=C3 at *
  refine Dp Tryz.func25 ?_
  intro C hP hN
  simp only [Tryz.f25] at hN ⊢
  exact Gy
 |false=>
  rw [e2] at b2
  simp only [Bool.false_eq_true,if_false]
  obtain ⟨hlen,hmem⟩:=m3
  generalize fV t OL p q 0=C0 at *
  generalize fV t OL p q 1=C1 at *
  generalize fV t OL p q 2=C2 at *
  generalize fV t OL p q 3=C3 at *
  refine Dp Tryz.func25 ?_
  intro C hP hN
  simp only [Tryz.f25] at hN ⊢
  refine Gz ?_
  refine WP.loopN [] (C3).length (fun i st=>st.t 5=.ptr 5 0∧st.h 5=some (.box [.pv (.sl (js.map bq)),.pv (.sl (ms.map bX))] true false)∧st.t 13=.ptr 13 0∧st.h 13=some (.box [.pv (.sl (t.cells.map br)),.pv (.sl ((ah t).map iv)),.pv (.sl (OL.map B))] true false)∧st.t 17=.pv (.sl ((C3).map zN))∧st.t 23=.pv (Z i)∧vL t OL (C3) i) ?_ ?_
  ·simp
   exact fun j x hj=>by omega
  rintro i st hi ⟨g5,hb5,g13,hb13,g17,g23,hq0⟩
  by_cases hlt : i < (C3).length
  ·have hlt' : (i : Int) < ((C3).length : Int):=by omega
   have hwr:=ag hlt (by omega)
   generalize hke : (C3)[i]=k at *
   have hk : (C3)[i]?=some k:=by rw [List.getElem?_eq_getElem hlt,hke]
   obtain ⟨hkn,_⟩:=hmem k (List.mem_of_getElem? hk)
   obtain ⟨c,hc⟩ : ∃ c,t.cells[k]?=some c:=⟨_,List.getElem?_eq_getElem hkn⟩
   have hce : ∀ h,t.cells[k]'h=c:=fun h=>aD hc h
   have hko : k < OL.length:=by omega
   obtain ⟨o,ho⟩ : ∃ o,OL[k]?=some o:=⟨_,List.getElem?_eq_getElem hko⟩
   have hoe : ∀ h,OL[k]'h=o:=fun h=>aD ho h
   have hkb : k < (ah t).length:=by omega
   have hbk : (ah t)[k]?=some (aE t (k : Int)):=(dh hv (c:=(k : Int)) hkn).1
   have hbe : ∀ h,(ah t)[k]'h=aE t (k : Int):=fun h=>aD hbk h
   have cw:=FP js ms (aE t (k : Int)) hjl hml (by have:=(dh hv (c:=(k : Int)) hkn).2.1;omega)
   have hnp : qV t OL k=(decide (c.v.kind=0) && o):=by simp [qV,gf,hc,ho]
   by_cases hk0 : c.v.kind=0
   ·have hk0' : (c.v.kind==0)=true:=by simp [hk0]
    cases o with
    |true=>
     have:=vN (js:=js) (ms:=ms) hq0 hk (by rw [hnp,hk0];rfl)
     rw [this]
     exact Gy
    |false=>
     have hst : vL t OL (C3) (i+1):=fun j x hj hx=>by
      by_cases e : j=i
      ·subst e;rw [hk] at hx;injection hx with hx;subst hx;rw [hnp,Bool.and_false]
      ·exact hq0 j x (by omega) hx
     exact Gy
     all_goals exact hst
   ·have hk0' : (c.v.kind==0)=false:=by simp [hk0]
    have hst : vL t OL (C3) (i+1):=fun j x hj hx=>by
     by_cases e : j=i
     ·subst e;rw [hk] at hx;injection hx with hx;subst hx;rw [hnp,decide_eq_false hk0,Bool.false_and]
     ·exact hq0 j x (by omega) hx
    exact Gy
    all_goals exact hst
  ·have hin : i=(C3).length:=by omega
   subst hin
   rw [vM hq0]
   exact Gy
end Go.Ab
namespace Go.Ab
open Go.Proofs
theorem zW {a b c : List Iv} (h : me a b) (g : me b c) : me a c:=⟨h.1.trans g.1,fun k x z hx hz=>by
 obtain ⟨hl,_⟩:=List.getElem?_eq_some_iff.1 hx
 have hy : b[k]?=some (b[k]'(by rw [← h.1];exact hl)):=List.getElem?_eq_getElem _
 exact (h.2 k _ _ hx hy).trans (g.2 k _ _ hy hz)⟩
theorem E6 {b : List Iv} (hv : aL vI b=true) : me b b:=⟨rfl,fun k x y hx hy=>by
 rw [hx] at hy;injection hy with hy;subst hy
 exact SubI.refl (dg.1 hv _ (List.mem_of_getElem? hx))⟩
theorem B7 {t : Tr} (hv : au t=true) {i : Nat} (hi : i < t.cells.length) : me (aE t (i : Int)) t.root:=by
 have hrv:=(bc.1 (cO hv)).2.2.2.2
 have key : ∀ (k : Nat) (L : OL),(∀ (j : Nat) b,L[j]?=some (some b)→me b t.root)→∀ c L',ef t.cells.length k c L=some L'→L.length=t.cells.length→(∀ (j : Nat) b,L'[j]?=some (some b)→me b t.root):=by
  intro k L hL c L' hs hl j b hb
  obtain ⟨b0,hb0,⟨_,_,rfl⟩|⟨_,hin,hh,_,_,rfl⟩⟩:=eg hs
  ·exact hL j b hb
  ·have h0:=hL k b0 hb0
   rw [jg hl hin] at hb
   split at hb
   ·injection hb with hb;injection hb with hb;subst hb
    exact zW (vZ hh).2 h0
   ·split at hb
    ·injection hb with hb;injection hb with hb;subst hb
     exact zW (vZ hh).1 h0
    ·exact hL j b hb
 obtain ⟨L,hL⟩:=Option.isSome_iff_exists.1 hv
 have hP:=iA (P:=fun k M=>BOk t k M∧∀ (j : Nat) b,M[j]?=some (some b)→me b t.root) hL ⟨lm (gM hL),fun j b hb=>by
  cases j with
  |zero=>simp [gD] at hb;subst hb;exact E6 hrv
  |succ j=>simp [gD,List.getElem?_replicate] at hb⟩ (fun k c M M' _ hp hm=>⟨ln hp.1 hm,key k M hp.2 c M' hm hp.1.len⟩)
 obtain ⟨b,hb⟩:=hP.1.pre i hi
 rw [pZ hL hb]
 exact hP.2 i b hb
theorem E7 {js : List J} {ms : List Ms} {b : Bx} (hc : aC js ms=0) (h : me b (aF js ms)) : ke js ms b=true:=by
 have hl : aF js ms=js.map gG:=by simp [aF,hc]
 rw [hl] at h
 obtain ⟨h1,h2⟩:=h
 rw [List.length_map] at h1
 simp only [ke,hc,h1,decide_true,Bool.true_and]
 rw [kW]
 intro i hi hi'
 have:=h2 i b[i] (gG js[i]) (List.getElem?_eq_getElem hi') (by rw [List.getElem?_map,List.getElem?_eq_getElem hi];rfl)
 simp only [dG,Bool.and_eq_true,decide_eq_true_eq]
 exact ⟨⟨⟨this.vx,this.vy⟩,this.lo⟩,this.hi⟩
theorem zk {js : List J} {ms : List Ms} (h : aC js ms=0) : ∀ (i : Nat) j,js[i]?=some j→bp js i j=0:=by
 unfold aC at h
 split at h
 ·cases h
 ·split at h
  ·rename_i hne;exact absurd h hne
  ·rename_i he
   intro i j hij
   have he' : gy js=0:=by simpa using he
   rw [lL] at he'
   by_cases hz : bp js i j=0
   ·exact hz
   ·exfalso
    cases hf : (js.mapIdx (bp js)).find? (fun e=>e !=0) with
    |none=>
     rw [List.find?_eq_none] at hf
     have hm : bp js i j ∈ js.mapIdx (bp js):=by
      rw [List.mem_mapIdx]
      obtain ⟨h1,h2⟩:=List.getElem?_eq_some_iff.1 hij
      exact ⟨i,h1,by rw [h2]⟩
     exact hf _ hm (by simpa using hz)
    |some e=>
     rw [hf] at he'
     have:=List.find?_some hf
     simp only at he'
     rw [he'] at this
     simp at this
theorem Ds {js : List J} {i : Nat} {j : J} (h : bp js i j=0) : -4194304≤j.lo∧j.lo≤j.hi∧j.hi≤4194304:=by
 have:=og j.kind
 unfold bp at h
 repeat' split at h
 all_goals (try (cases h;done))
 all_goals omega
theorem B8 {js : List J} {ms : List Ms} (h : aC js ms=0) : dl (aF js ms)=true:=by
 have hl : aF js ms=js.map gG:=by simp [aF,h]
 have hlen:=mt h
 rw [hl]
 simp only [dl,List.length_map,Bool.and_eq_true,decide_eq_true_eq]
 refine ⟨⟨by omega,by omega⟩,dg.2 fun x hx=>?_⟩
 obtain ⟨j,hj,rfl⟩:=List.mem_map.1 hx
 obtain ⟨i,hi⟩:=List.getElem?_of_mem hj
 have:=Ds (zk h i j hi)
 exact cL.2 ⟨by simp only [gG];omega,by simp only [gG];omega,by simp only [gG];omega⟩
theorem sP {s : Sce} (h : aJ s=0) : aC s.js s.ms=0:=Decidable.byContradiction fun hn=>by
 unfold aJ at h;rw [if_pos hn] at h;exact hn h
theorem Gf {js : List J} {ms : List Ms} {t : Tr} {op : List Bool} {C : List Nat} {a b : Int} (h : m8 js ms t op C=(a,b,3)) : ∃ k,k ∈ C∧a=(k : Int)∧b=jT js ms (aE t (k : Int))∧qV t op k=true:=by
 unfold m8 at h
 split at h
 ·rename_i k hk
  injection h with h1 h2;injection h2 with h2 _
  exact ⟨k,List.mem_of_find?_eq_some hk,h1.symm,h2.symm,by have:=List.find?_some hk;exact this⟩
 ·injection h with _ h2;injection h2 with _ h3;cases h3
structure Nx (t : Tr) (a b : Int) : Prop where
 ex : ∃ k j : Nat,a=(k : Int)∧b=(j : Int)∧k < t.cells.length∧fJ t k=true∧(gf t k).kind=0∧aX (aE t (k : Int)) (j : Int)=true
theorem B9 {t : Tr} {op : List Bool} {sort : Int} {k : Nat} (h : mh t.cells op sort k=true) : fJ t k=true:=by
 unfold mh at h
 unfold fJ
 split at h
 ·rename_i c hc
  simp only [Bool.and_eq_true] at h
  rw [hc];exact h.1
 ·cases h
theorem Dt {js : List J} {ms : List Ms} {t : Tr} {p q : List Int} {w a b : Int} (h : fv js ms t p q w=(a,b,3)) : Nx t a b:=by
 unfold fv at h
 split at h
 case isFalse=>injection h with _ h2;injection h2 with _ h3;cases h3
 rename_i hc
 simp only [Bool.and_eq_true,wv,decide_eq_true_eq] at hc
 obtain ⟨⟨⟨⟨⟨_,_⟩,hw⟩,_⟩,_⟩,hv⟩:=hc
 have fin : ∀ sort,m8 js ms t (jO js ms w t) (fV t (jO js ms w t) p q sort)=(a,b,3)→Nx t a b:=fun sort h=>by
  obtain ⟨k,hk,ha,hb,hp⟩:=Gf h
  obtain ⟨hkn,hm⟩:=(uS hv).2 k hk
  simp only [qV,Bool.and_eq_true,decide_eq_true_eq] at hp
  obtain ⟨hb1,hb2,hb3⟩:=dh hv (c:=(k : Int)) (by simpa using hkn)
  have hop : nI js ms w (aE t (k : Int))=true:=by
   have h2:=hp.2
   rw [jO,List.getElem?_map] at h2
   rw [Int.toNat_natCast] at hb1
   rw [hb1] at h2
   simpa using h2
  rcases xI js ms (aE t (k : Int)) with e|⟨j,e,h1,_,_,x,hx,hx2⟩
  ·rw [xF e] at hop;cases hop
  ·refine ⟨k,j,ha,hb.trans e,hkn,B9 hm,hp.1,nv.2 ⟨by omega,hb3,x,by simpa using hx,hx2⟩⟩
 unfold AQ at h
 split at h
 ·injection h with _ h2;injection h2 with _ h3;cases h3
 ·split at h
  ·injection h with _ h2;injection h2 with _ h3;cases h3
  ·split at h
   ·exact fin 1 h
   ·split at h
    ·injection h with _ h2;injection h2 with _ h3;cases h3
    ·exact fin 3 h
structure DeI (s : Sce) (t : Tr) : Prop where
 valid : au t=true
 root : t.root=aF s.js s.ms
 tl : TL t
theorem AP {t : Tr} (hv : au t=true) {k : Nat} (hk : fJ t k=true) (hlt : k < t.cells.length) (h0 : (gf t k).kind=0) {V : Verd} (hf : df V=true) : bM t (k : Int) V=true:=by
 unfold bM
 rw [hv,Int.toNat_natCast,hk,h0,hf,decide_eq_true (by omega : (0 : Int)≤(k : Int)),decide_eq_true (by omega : (k : Int) < (t.cells.length : Int))]
 rfl
theorem uT {s : Sce} {t : Tr} (h0 : aJ s=0) (hI : DeI s t) {k : Nat} (hk : fJ t k=true) (hlt : k < t.cells.length) (hz : (gf t k).kind=0) : gQ s t (k : Int)=true∧eO s t (k : Int)=en t k (ma s t (k : Int))∧DeI s (eO s t (k : Int)):=by
 obtain ⟨b1,b2⟩:=Cz hI.valid hlt
 have hin : ke s.js s.ms (eI t (k : Int))=true:=by
  rw [b2]
  exact E7 (sP h0) (by rw [← hI.root];exact B7 hI.valid hlt)
 have hp : m9 s t (k : Int)=true:=by simp [m9,h0,b1,hin]
 have hs : bM t (k : Int) (ma s t (k : Int))=true:=AP hI.valid hk hlt hz (CF _ _ _)
 have e1 : eO s t (k : Int)=dH t (k : Int) (ma s t (k : Int)):=by rw [eO,if_pos hp]
 have e2 : dH t (k : Int) (ma s t (k : Int))=en t k (ma s t (k : Int)):=by rw [dH,if_pos hs,Int.toNat_natCast]
 obtain ⟨v1,v2,v3,_⟩:=yJ hI.valid (k : Int) (ma s t (k : Int))
 refine ⟨by rw [gQ,hp,hs];rfl,e1.trans e2,?_⟩
 refine ⟨by rw [e1];exact v1,by rw [e1,v2];exact hI.root,B4 hI.tl _⟩
theorem Gg {s : Sce} {t : Tr} {a b : Int} (h0 : aJ s=0) (hI : DeI s t) (hn : Nx t a b) (hl : t.cells.length+2≤2048) : qW s t a b=true∧DeI s (nK s t a b)∧(nK s t a b).cells.length=t.cells.length+2:=by
 obtain ⟨k,j,rfl,rfl,hlt,hk,hz,hh⟩:=hn.ex
 have hbx : (ah t)[k]?=some (aE t (k : Int)):=(dh hI.valid (c:=(k : Int)) (by simpa using hlt)).1
 have hsp : bS t (k : Int) (j : Int)=true:=by
  simp only [bS,hI.valid,Int.toNat_natCast,hk,hbx,Option.getD_some,hh,Bool.and_true,Bool.true_and,Bool.and_eq_true,decide_eq_true_eq]
  exact ⟨⟨by omega,by omega⟩,hl⟩
 have hu : bG t (k : Int) (j : Int)=fY t k (j : Int) (gf t k):=by rw [bG,if_pos hsp,Int.toNat_natCast]
 obtain ⟨v1,v2,v3⟩:=zq hI.valid (k : Int) (j : Int)
 have hIu : DeI s (bG t (k : Int) (j : Int)):=⟨v1,by rw [v2];exact hI.root,xE hI.tl (by omega) _ _⟩
 have c1 : (bG t (k : Int) (j : Int)).cells[t.cells.length]?=some (bd (gf t k)):=by
  rw [hu];simp only [fY]
  rw [List.getElem?_append_right (by simp)];simp
 have c2 : (bG t (k : Int) (j : Int)).cells[t.cells.length+1]?=some (bd (gf t k)):=by
  rw [hu];simp only [fY]
  rw [List.getElem?_append_right (by simp)];simp
 have hul : (bG t (k : Int) (j : Int)).cells.length=t.cells.length+2:=by rw [hu,kL]
 have hrA : nJ s t (k : Int) (j : Int)=eO s (bG t (k : Int) (j : Int)) (t.cells.length : Int):=rfl
 have hO : qW s t (k : Int) (j : Int)=(bS t (k : Int) (j : Int) && gQ s (bG t (k : Int) (j : Int)) (t.cells.length : Int) && gQ s (nJ s t (k : Int) (j : Int)) ((t.cells.length : Int)+1)):=rfl
 have hF : nK s t (k : Int) (j : Int)=if qW s t (k : Int) (j : Int) then eO s (nJ s t (k : Int) (j : Int)) ((t.cells.length : Int)+1) else t:=rfl
 generalize bG t (k : Int) (j : Int)=u at *
 have lk : ∀ (x : Tr) (i : Nat) V,x.cells[i]?=some (bd V)→fJ x i=true∧gf x i=V:=fun x i V h=>⟨by simp only [fJ,h];exact iJ V,by simp [gf,h,bd]⟩
 obtain ⟨l1,y1⟩:=lk u t.cells.length _ c1
 obtain ⟨o1,e1,I1⟩:=uT h0 hIu l1 (by omega) (by rw [y1];exact hz)
 rw [← hrA] at e1 I1
 generalize nJ s t (k : Int) (j : Int)=u2 at *
 have c3 : u2.cells[t.cells.length+1]?=some (bd (gf t k)):=by
  rw [e1];simp only [en]
  rw [List.getElem?_set,if_neg (by omega)];exact c2
 have hul2 : u2.cells.length=t.cells.length+2:=by rw [e1];simp [en,hul]
 obtain ⟨l2,y2⟩:=lk u2 (t.cells.length+1) _ c3
 obtain ⟨o2,e2,I2⟩:=uT h0 I1 l2 (by omega) (by rw [y2];exact hz)
 rw [Int.natCast_add,Int.natCast_one] at o2 e2 I2
 have hok : qW s t (k : Int) (j : Int)=true:=by rw [hO,hsp,o1,o2];rfl
 rw [hok,if_pos rfl] at hF
 rw [hF]
 refine ⟨hok,I2,?_⟩
 rw [(oI _ _ _).1,hul2]
theorem Gh {s : Sce} (h0 : aJ s=0) : DeI s (qX s)∧(qX s).cells.length=1∧fZ (aF s.js s.ms)=⟨aF s.js s.ms,[bd aN]⟩∧TL (fZ (aF s.js s.ms)):=by
 have hr:=B8 (sP h0)
 have hn:=CG hr
 have hlen : (aF s.js s.ms).length≤10:=by
  simp only [dl,Bool.and_eq_true,decide_eq_true_eq] at hr;omega
 have ht : TL (fZ (aF s.js s.ms)):=by
  rw [hn]
  refine ⟨by simp,by simp only;omega,fun c hc=>?_⟩
  simp at hc;subst hc;simp [bd,aN]
 have hI : DeI s (fZ (aF s.js s.ms)):=⟨by rw [hn,we];exact hr,by rw [hn],ht⟩
 have hlf : fJ (fZ (aF s.js s.ms)) 0=true∧(gf (fZ (aF s.js s.ms)) 0).kind=0:=by
  rw [hn];exact ⟨iJ _,rfl⟩
 obtain ⟨_,_,h3⟩:=uT h0 hI hlf.1 (by rw [hn];simp) hlf.2
 refine ⟨h3,?_,hn,ht⟩
 rw [qX,(oI _ _ _).1,hn];rfl
end Go.Ab
namespace Go.Ab
open Go.Proofs
theorem Du {s : Sce} {p q : List Int} {w cells : Int} {f : Nat} {t : Tr} (h : (fv s.js s.ms t p q w).2.2≠3) : mm s p q w cells (f+1) t=(t,(fv s.js s.ms t p q w).2.2):=by
 simp only [mm,if_neg h]
theorem Dv {s : Sce} {p q : List Int} {w cells : Int} {f : Nat} {t : Tr} (h : (fv s.js s.ms t p q w).2.2=3) (hc : cells - 2 < t.cells.length) : mm s p q w cells (f+1) t=(t,4):=by
 simp only [mm,if_pos h,if_pos hc]
theorem Dw {s : Sce} {p q : List Int} {w cells : Int} {f : Nat} {t : Tr} (h : (fv s.js s.ms t p q w).2.2=3) (hc : ¬ cells - 2 < t.cells.length) : mm s p q w cells (f+1) t=mm s p q w cells f (nK s t (fv s.js s.ms t p q w).1 (fv s.js s.ms t p q w).2.1):=by
 simp only [mm,if_pos h,if_neg hc]
set_option maxRecDepth 10000 in
theorem d9 (s : Sce) (p q : List Int) (w cells : Int) (hs : ScL s) (hpl : p.length≤9223372036854775807) (hql : q.length≤9223372036854775807) : ab Tryz.prog 9 [.pv (dV s),.pv (zs p),.pv (zs q),.pv (Z w),.pv (Z cells)] [] [] (.pv (.tup [bT (xJ s p q w cells).1,Z (xJ s p q w cells).2])):=by
 have cs:=zZ s hs
 have cp:=H1 s.js s.ms p hs.js hs.ms
 have cq:=H1 s.js s.ms q hs.js hs.ms
 have hd : xJ s p q w cells=if ww s p q w cells then mm s p q w cells 2048 (qX s) else (⟨[],[]⟩,0):=rfl
 have hP : ww s p q w cells=(decide (aJ s=0) && fP s.js s.ms p && fP s.js s.ms q && decide (1≤w) && decide (1≤cells) && decide (cells≤2048)):=rfl
 by_cases h0 : aJ s=0
 case neg=>
  rw [decide_eq_false h0] at hP
  simp only [Bool.false_and] at hP
  rw [hP,if_neg (by simp)] at hd
  have h0' : (aJ s !=0)=true:=by simp [h0]
  rw [hd]
  refine Dp Tryz.func9 ?_
  intro C hP hN
  simp only [Tryz.f9] at hN ⊢
  exact Gy
 have h0' : (aJ s !=0)=false:=by simp [h0]
 rw [decide_eq_true h0,Bool.true_and] at hP
 cases h1 : fP s.js s.ms p with
 |false=>
  rw [h1] at hP cp
  simp only [Bool.false_and] at hP
  rw [hP,if_neg (by simp)] at hd
  rw [hd]
  refine Dp Tryz.func9 ?_
  intro C hP hN
  simp only [Tryz.f9] at hN ⊢
  exact Gy
 |true=>
 rw [h1] at hP cp
 rw [Bool.true_and] at hP
 cases h2 : fP s.js s.ms q with
 |false=>
  rw [h2] at hP cq
  simp only [Bool.false_and] at hP
  rw [hP,if_neg (by simp)] at hd
  rw [hd]
  refine Dp Tryz.func9 ?_
  intro C hP hN
  simp only [Tryz.f9] at hN ⊢
  exact Gy
 |true=>
 rw [h2] at hP cq
 rw [Bool.true_and] at hP
 by_cases h3 : 1≤w
 case neg=>
  rw [decide_eq_false h3] at hP
  simp only [Bool.false_and] at hP
  rw [hP,if_neg (by simp)] at hd
  have h3' : w < 1:=by omega
  rw [hd]
  refine Dp Tryz.func9 ?_
  intro C hP hN
  simp only [Tryz.f9] at hN ⊢
  exact Gy
 have h3' : ¬ w < 1:=by omega
 rw [decide_eq_true h3,Bool.true_and] at hP
 by_cases h4 : 1≤cells
 case neg=>
  rw [decide_eq_false h4] at hP
  simp only [Bool.false_and] at hP
  rw [hP,if_neg (by simp)] at hd
  have h4' : cells < 1:=by omega
  rw [hd]
  refine Dp Tryz.func9 ?_
  intro C hP hN
  simp only [Tryz.f9] at hN ⊢
  exact Gy
 have h4' : ¬ cells < 1:=by omega
 rw [decide_eq_true h4,Bool.true_and] at hP
 by_cases h5 : cells≤2048
 case neg=>
  rw [decide_eq_false h5] at hP
  rw [hP,if_neg (by simp)] at hd
  have h5' : 2048 < cells:=by omega
  rw [hd]
  refine Dp Tryz.func9 ?_
  intro C hP hN
  simp only [Tryz.f9] at hN ⊢
  exact Gy
 have h5' : ¬ 2048 < cells:=by omega
 rw [decide_eq_true h5] at hP
 rw [hP,if_pos rfl] at hd
 have hwc : IntKind.i64.wrap (cells - 2)=cells - 2:=aa
 have cl:=FO s.js s.ms hs.js hs.ms
 have cn:=Iz (aF s.js s.ms)
 obtain ⟨I0,hl0,hnt,hT0⟩:=Gh h0
 have cc:=Ge s (fZ (aF s.js s.ms)) 0 hs (by have:=hT0.c;omega) (by have:=hT0.r;omega) hT0.v
 have hde : eO s (fZ (aF s.js s.ms)) 0=qX s:=rfl
 rw [hde] at cc
 have hrk:=B8 (sP h0)
 rw [hrk] at cn
 generalize gQ s (fZ (aF s.js s.ms)) 0=o1 at *
 clear hde hnt hT0
 generalize fZ (aF s.js s.ms)=t0 at *
 generalize hRES : mm s p q w cells 2048 (qX s)=RES at *
 rw [hd]
 clear hd
 generalize hd0 : qX s=d0 at *
 have hrf:=fun (t : Tr) (a b : Int) (hI : DeI s t) (hn : Nx t a b) (hl : t.cells.length+2≤2048)=>Gg h0 hI hn hl
 have cx:=fun (t : Tr) (hI : DeI s t)=>LG s.js s.ms t p q w hs.js hs.ms (by have:=hI.tl.c;omega) (by have:=hI.tl.r;omega) hpl hql
 have crf:=fun (t : Tr) (hI : DeI s t) (hc : t.cells.length≤999990) (i j : Int)=>LF s t i j hs hI.tl hc
 have hnf:=fun (t : Tr) (a b : Int) (h : fv s.js s.ms t p q w=(a,b,3))=>Dt h
 have hstop:=fun (f : Nat) (t : Tr)=>Du (s:=s) (p:=p) (q:=q) (w:=w) (cells:=cells) (f:=f) (t:=t)
 have hfull:=fun (f : Nat) (t : Tr)=>Dv (s:=s) (p:=p) (q:=q) (w:=w) (cells:=cells) (f:=f) (t:=t)
 have hmore:=fun (f : Nat) (t : Tr)=>Dw (s:=s) (p:=p) (q:=q) (w:=w) (cells:=cells) (f:=f) (t:=t)
 obtain ⟨js,ms,SH,sks⟩:=s
 simp only at *
 refine Dp Tryz.func9 ?_
 intro C hP hN
 simp only [Tryz.f9] at hN ⊢
 refine Gz ?_
 refine WP.loopN [] 1100 (fun i st=>∃ t,DeI ⟨js,ms,SH,sks⟩ t∧t.cells.length=1+2 * i∧t.cells.length≤2048∧mm ⟨js,ms,SH,sks⟩ p q w cells (2048 - i) t=RES∧st.t 1=.pv (zs p)∧st.t 2=.pv (zs q)∧st.t 3=.pv (Z w)∧st.t 4=.pv (Z cells)∧st.t 5=.ptr 5 0∧st.h 5=some (.box [.pv (.sl (js.map bq)),.pv (.sl (ms.map bX)),.pv (.sl (SH.map bV)),.pv (.sl (sks.map av))] true false)∧st.t 10=.ptr 10 0∧st.h 10=some (.box [.pv (.val (.slice none 0 0)),.pv (.val (.slice none 0 0))] true false)∧st.t 12=.ptr 12 0∧st.h 12=some (.box [.pv (iv t.root),.pv (.sl (t.cells.map br))] true false)) ?_ ?_
 ·refine ⟨d0,I0,by omega,by omega,hRES,?_⟩
  simp
 rintro i st hi ⟨t,hI,htl,ht2,hgo,g1,g2,g3,g4,g5,hb5,g10,hb10,g12,hb12⟩
 have c1:=cx t hI
 rw [show 2048 - i=(2048 - (i+1))+1 by omega] at hgo
 by_cases e3 : (fv js ms t p q w).2.2=3
 ·have e3' : ((fv js ms t p q w).2.2 !=3)=false:=by simp [e3]
  by_cases e4 : cells - 2 < t.cells.length
  ·rw [hfull _ t e3 e4] at hgo
   subst hgo
   generalize fv js ms t p q w=NR at *
   exact Gy
  ·rw [hmore _ t e3 e4] at hgo
   have hNx:=hnf t (fv js ms t p q w).1 (fv js ms t p q w).2.1 (by rw [← e3])
   have c2:=crf t hI (by omega) (fv js ms t p q w).1 (fv js ms t p q w).2.1
   obtain ⟨r1,r2,r3⟩:=hrf t _ _ hI hNx (by omega)
   rw [r1] at c2
   generalize fv js ms t p q w=NR at *
   generalize nK ⟨js,ms,SH,sks⟩ t NR.1 NR.2.1=t' at *
   refine Gz ?_
   all_goals exact ⟨by omega,t',r2,by omega,by omega,(by rw [show 2047 - i=2048 - (i+1) by omega];exact hgo),rfl,rfl⟩
 ·have e3' : ((fv js ms t p q w).2.2 !=3)=true:=by simp [e3]
  rw [hstop _ t e3] at hgo
  subst hgo
  generalize fv js ms t p q w=NR at *
  exact Gy
end Go.Ab
namespace Go.Ab
open Go.Proofs
theorem Ln (xs : List (Int × Int)) (ys : List (Int × Int)) (hl : xs.length≤9223372036854775807) (hm : ys.length≤9223372036854775807) : ab Tryz.prog 66 [.pv (iv xs),.pv (iv ys)] [] [] (.pv (B (jm xs ys))):=by
 refine Dp Tryz.func66 ?_
 intro C hP hN
 simp only [Tryz.f66] at hN ⊢
 by_cases he : xs.length=ys.length
 ·skip
  refine Gz ?_
  refine WP.loopN [] xs.length (fun i st=>st.t 0=.pv (iv xs)∧st.t 1=.pv (iv ys)∧st.t 0=.pv (iv xs)∧st.t 5=.pv (Z i)∧dN mY xs ys i=true) (by simp [dN,he]) ?_
  rintro i st hi ⟨h0,h1,h12,h2,hq⟩
  by_cases hlt : i < xs.length
  ·have hw:=ag hlt hl
   have hlt' : i < ys.length:=by omega
   have hF : mY xs[i] ys[i]=false→dF mY xs ys=false:=gw hlt hlt'
   have hS : mY xs[i] ys[i]=true→dN mY xs ys (i+1)=true:=im hlt hlt' hq
   with_reducible repeat' (first|refine Sp.h ?_|((first|refine Wd ?_|refine Ss.h ?_|(refine Sb.h ?_ ?_ ?_<;>(try intro hgd)<;>try exact Xy))<;>simp -implicitDefEqProofs (maxSteps:=2000000) [hP,hN,h0,h1,h12,h2,hlt,hlt',hw,he]<;>try refine Ya ?_)|refine X2 ?_ ?_|(refine Xd ?_ ?_<;>intro hcd<;>try exact Xx))
   all_goals first|(rw [jm,hF (by simp only [mY]<;>grind)];simp;done)|(rw [hS (by simp only [mY]<;>grind)];done)
  ·have hlt' : ¬ i < ys.length:=by omega
   refine Gz ?_
   all_goals simp [jm,he,io hlt hq]
 ·skip
  refine Gz ?_
  all_goals simp [jm,he]
theorem Lo (xs : List (Int × Int)) (ys : List (Int × Int)) (hl : xs.length≤9223372036854775807) (hm : ys.length≤9223372036854775807) : ab Tryz.prog 62 [.pv (iv xs),.pv (iv ys)] [] [] (.pv (B (jm xs ys))):=by
 refine Dp Tryz.func62 ?_
 intro C hP hN
 simp only [Tryz.f62] at hN ⊢
 by_cases he : xs.length=ys.length
 ·skip
  refine Gz ?_
  refine WP.loopN [] xs.length (fun i st=>st.t 0=.pv (iv xs)∧st.t 1=.pv (iv ys)∧st.t 12=.pv (Z xs.length)∧st.t 13=.pv (Z i)∧dN mY xs ys i=true) (by simp [dN,he]) ?_
  rintro i st hi ⟨h0,h1,h12,h2,hq⟩
  by_cases hlt : i < xs.length
  ·have hw:=ag hlt hl
   have hlt' : i < ys.length:=by omega
   have hF : mY xs[i] ys[i]=false→dF mY xs ys=false:=gw hlt hlt'
   have hS : mY xs[i] ys[i]=true→dN mY xs ys (i+1)=true:=im hlt hlt' hq
   with_reducible repeat' (first|refine Sp.h ?_|((first|refine Wd ?_|refine Ss.h ?_|(refine Sb.h ?_ ?_ ?_<;>(try intro hgd)<;>try exact Xy))<;>simp -implicitDefEqProofs (maxSteps:=2000000) [hP,hN,h0,h1,h12,h2,hlt,hlt',hw,he]<;>try refine Ya ?_)|refine X2 ?_ ?_|(refine Xd ?_ ?_<;>intro hcd<;>try exact Xx))
   all_goals first|(rw [jm,hF (by simp only [mY]<;>grind)];simp;done)|(rw [hS (by simp only [mY]<;>grind)];done)
  ·have hlt' : ¬ i < ys.length:=by omega
   refine Gz ?_
   all_goals simp [jm,he,io hlt hq]
 ·skip
  refine Gz ?_
  all_goals simp [jm,he]
def BG (hi : Int) (i : Nat) : J:=⟨uL i,4+(i : Int).tmod 2,(i : Int) - 1,0,0,0,0,hi,1,65536,65536,65536⟩
def qN (hi : Int) (k : Nat) : List J:=(List.range k).map (BG hi)
theorem Dg (hi : Int) (k : Nat) : (qN hi (k+1)).map bq=(qN hi k).map bq++[bq (BG hi k)]:=by simp [qN,List.range_succ]
theorem rI (hi : Int) (k : Nat) : (qN hi k).length=k:=by simp [qN]
theorem Lp (n : Nat) (hi : Int) (h0 : 0 < n) (hn : n≤3) : ab Tryz.prog 19 [.pv (Z n),.pv (Z hi)] [] [] (.pv (eU (qN hi n) [])):=by
 refine Dp Tryz.func19 ?_
 intro C hP hN
 simp only [Tryz.f19] at hN ⊢
 refine Gz ?_
 refine WP.loopN [] n (fun i st=>st.t 0=.pv (Z n)∧st.t 1=.pv (Z hi)∧st.t 4=.ptr 4 0∧st.h 4=some (.box [od,od] true false)∧st.t 5=.ptr 5 0∧st.t 6=.pv (Z i)∧
  ((i=0∧st.h 5=some (.box [od,od] true false)∧st.h 24=none)∨(0 < i∧st.h 5=some (.box [.arr 24 i,od] true false)∧st.h 24=some (.row 65 12 ((qN hi i).map bq) 0)))) (by simp) ?_
 rintro i st hi' ⟨g0,g1,g4,hb4,g5,g6,hor⟩
 by_cases hlt : i < n
 ·have hw : IntKind.i64.wrap ((i : Int)+1)=(i : Int)+1:=by rw [IntKind.wrap_i64];omega
  have hlt' : (i : Int) < (n : Int):=by omega
  have hJ:=Dg hi i
  have hr1:=Int.tmod_nonneg 2 (Int.natCast_nonneg i)
  have hr2:=Int.tmod_lt_of_pos (i : Int) (b:=2) (by decide)
  have h2 : IntKind.i64.wrap ((i : Int).tmod 2)=(i : Int).tmod 2:=aa
  have h3 : IntKind.i64.wrap (4+(i : Int).tmod 2)=4+(i : Int).tmod 2:=aa
  have h4 : IntKind.i64.wrap ((i : Int) - 1)=(i : Int) - 1:=aa
  have hz:=rI hi i
  rcases hor with ⟨hi0,hb5,hb24⟩|⟨hi0,hb5,hb24⟩
  ·subst hi0
   have cl:=H7 0 (by omega)
   rw [show ((0 : Nat) : Int)=0 from rfl] at cl
   have v1 : IntKind.i64.wrap 0=0:=by decide
   have v2 : IntKind.i64.wrap 4=4:=by decide
   have v3 : IntKind.i64.wrap (-1)=-1:=by decide
   have v4 : IntKind.i64.wrap (0+1)=1:=by decide
   have v5 : IntKind.i64.wrap (0 - 1)=-1:=by decide
   have v6 : Int.tmod 0 2=0:=by decide
   refine Gz ?_
   all_goals simp [qN,BG]
  ·skip
   with_reducible repeat' (first|refine Sp.h ?_|((first|refine Wd ?_|refine Ss.h ?_|refine Sc.h (H7 _ (by omega)) ?_|(refine Sb.h ?_ ?_ ?_<;>(try intro hgd)<;>try exact Xy))<;>simp -implicitDefEqProofs (maxSteps:=2000000) [hP,hN,g0,g1,g4,hb4,g5,g6,hb5,hb24,hlt,hlt',hw,h2,h3,h4,hz,show (i+1) * 104≤140737488355328 by omega,show i≤9223372036854775806 by omega]<;>try refine Ya ?_)|refine X2 ?_ ?_|(refine Xd ?_ ?_<;>intro hcd<;>try exact Xx))
   all_goals simp [hJ,BG]
 ·have hir : i=n:=by omega
  subst hir
  rcases hor with ⟨hi0,_⟩|⟨hi0,hb5,hb24⟩
  ·omega
  have hz:=rI hi i
  exact Gy
def qO (l : List Int) : Nat:=(1+nx l 0 2).toNat
def jW (l : List Int) : Nat:=nn l 0
def mZ (l : List Int) : Nat:=nn l (jW l)
def Dh (l : List Int) : Nat:=nn l (mZ l)
def nD (l : List Int) : Nat:=(nx l (mZ l) 4).toNat
def Ep (l : List Int) (m : Nat) : List Vc:=if nx l (nn l (nn l m)) 3=0 then [(nx l m 65,-9,0),(nx l m 65,80,0)] else [(nx l m 65,nx l (nn l m) 65,0)]
def Ie (l : List Int) (m : Nat) : Nat:=nn l (nn l (nn l (nn l m)))
def Er (l : List Int) (m : Nat) : Sh:=⟨-1,2+nx l (nn l (nn l (nn l m))) 9,Ep l m⟩
def dT (l : List Int) : Nat→Nat
 |0=>Dh l
 |i+1=>Ie l (dT l i)
theorem BH (l : List Int) : ∀ i,dT l i≤3+4 * i
 |0=>by
  have h1:=iD l 0
  have h2:=iD l (jW l)
  have h3:=iD l (mZ l)
  simp only [dT,Dh,mZ,jW] at *;omega
 |i+1=>by
  have h:=BH l i
  have l1:=iD l (dT l i)
  have l2:=iD l (nn l (dT l i))
  have l3:=iD l (nn l (nn l (dT l i)))
  have l4:=iD l (nn l (nn l (nn l (dT l i))))
  simp only [dT,Ie];omega
def pA (l : List Int) (k : Nat) : List Sh:=⟨(qO l : Int) - 1,1+nx l (jW l) 4,[(0,0,0)]⟩ :: (List.range k).map fun i=>Er l (dT l i)
theorem BI (l : List Int) (k : Nat) : (pA l (k+1)).map bV=(pA l k).map bV++[bV (Er l (dT l k))]:=by simp [pA,List.range_succ]
theorem xk (l : List Int) (k : Nat) : (pA l k).length=k+1:=by simp [pA]
def gh (l : List Int) : Sce:=⟨qN 64 (qO l),[],pA l (nD l),[]⟩
theorem uO (l : List Int) : 0 < qO l∧qO l≤2∧(qO l : Int)=1+nx l 0 2:=by
 have hx:=jc l 0 (k:=2) (by decide) (by decide)
 unfold qO;omega
theorem BJ (l : List Int) : ScL (gh l):=by
 have h1:=uO l
 have hx:=jc l (mZ l) (k:=4) (by decide) (by decide)
 have h2 : nD l < 4:=by unfold nD;omega
 refine ⟨?_,by simp [gh],?_,by simp [gh],?_⟩
 ·simp only [gh,rI];omega
 ·simp only [gh,xk];omega
 ·intro h hh
  simp only [gh,pA,List.mem_cons,List.mem_map] at hh
  rcases hh with rfl|⟨i,_,rfl⟩
  ·simp
  ·simp only [Er,Ep];split<;>simp
theorem d7 (l : List Int) : ab Tryz.prog 7 [.pv (zs l)] [] [] (.pv (dV (gh l))):=by
 have hnr:=uO l
 have hx1:=jc l (jW l) (k:=4) (by decide) (by decide)
 have hx2:=jc l (mZ l) (k:=4) (by decide) (by decide)
 have hk : nx l (mZ l) 4=((nD l : Nat) : Int):=by unfold nD;omega
 have hk4 : nD l < 4:=by unfold nD;omega
 have hl1:=iD l 0
 have hl2:=iD l (jW l)
 have hw1 : IntKind.i64.wrap (1+nx l 0 2)=((qO l : Nat) : Int):=by rw [IntKind.wrap_i64];omega
 have hw2 : IntKind.i64.wrap ((qO l : Int) - 1)=(qO l : Int) - 1:=aa
 have hw3 : IntKind.i64.wrap (1+nx l (jW l) 4)=1+nx l (jW l) 4:=aa
 have hw4 : IntKind.i64.wrap (nx l (jW l) 4)=nx l (jW l) 4:=aa
 have c0:=H6 l
 have c1:=tS l 0 2 (by decide) (by omega)
 have c2:=Lp (qO l) 64 (by omega) (by omega)
 have c3:=tS l (jW l) 4 (by decide) (by unfold jW;omega)
 have c4:=tS l (mZ l) 4 (by decide) (by unfold mZ jW at *;omega)
 have e1 : nn l 0=jW l:=rfl
 have e2 : nn l (jW l)=mZ l:=rfl
 have e3 : nn l (mZ l)=Dh l:=rfl
 rw [e1] at c1
 rw [e2] at c3
 rw [e3] at c4
 refine Dp Tryz.func7 ?_
 intro C hP hN
 simp only [Tryz.f7] at hN ⊢
 with_reducible repeat' (first|refine Sp.h ?_|((first|refine Wd ?_|refine Ss.h ?_|refine Sc.h (c0) ?_|refine Sc.h (c1) ?_|refine Sc.h (c2) ?_|refine Sc.h (c3) ?_|refine Sc.h (c4) ?_|(refine Sb.h ?_ ?_ ?_<;>(try intro hgd)<;>try exact Xy))<;>simp -implicitDefEqProofs (maxSteps:=2000000) [hP,hN,pu,hk,hw1,hw2,hw3,hw4]<;>try refine Ya ?_)|refine X2 ?_ ?_|(refine Xd ?_ ?_<;>intro hcd<;>try exact Xx))
 refine WP.loopN [] (nD l) (fun i st=>st.t 2=.ptr 2 0∧st.h 2=some (.box [od,od,od,od] true false)∧st.t 3=.ptr 10 0∧st.h 10=some (.box [.pv (zs l),.pv (Z (dT l i))] true false)∧st.t 5=.ptr 5 0∧st.h 5=some (.box [.pv (.sl ((qN 64 (qO l)).map bq)),.pv (.sl []),.arr 28 (i+1),od] true false)∧st.t 6=.pv (Z ((nD l : Int) - i))∧st.h 28=some (.row 63 3 ((pA l i).map bV) 0)) (by simp [dT,pA]) ?_
 rintro i st hi ⟨g2,hb2,g3,hb10,g5,hb5,g6,hb28⟩
 have hz:=xk l i
 by_cases hlt : i < nD l
 ·have hw : IntKind.i64.wrap ((nD l : Int) - i - 1)=(nD l : Int) - ((i : Int)+1):=by rw [IntKind.wrap_i64];omega
  have hgt : (0 : Int) < (nD l : Int) - i:=by omega
  have hm:=BH l i
  have l1:=iD l (dT l i)
  have l2:=iD l (nn l (dT l i))
  have l3:=iD l (nn l (nn l (dT l i)))
  have d1:=tS l (dT l i) 65 (by decide) (by omega)
  have d2:=tS l (nn l (dT l i)) 65 (by decide) (by omega)
  have d3:=tS l (nn l (nn l (dT l i))) 3 (by decide) (by omega)
  have d4:=tS l (nn l (nn l (nn l (dT l i)))) 9 (by decide) (by omega)
  have y1:=jc l (dT l i) (k:=65) (by decide) (by decide)
  have y2:=jc l (nn l (dT l i)) (k:=65) (by decide) (by decide)
  have y4:=jc l (nn l (nn l (nn l (dT l i)))) (k:=9) (by decide) (by decide)
  have v1 : IntKind.i64.wrap (nx l (dT l i) 65)=nx l (dT l i) 65:=aa
  have v2 : IntKind.i64.wrap (nx l (nn l (dT l i)) 65)=nx l (nn l (dT l i)) 65:=aa
  have v4 : IntKind.i64.wrap (nx l (nn l (nn l (nn l (dT l i)))) 9)=nx l (nn l (nn l (nn l (dT l i)))) 9:=aa
  have v5 : IntKind.i64.wrap (2+nx l (nn l (nn l (nn l (dT l i)))) 9)=2+nx l (nn l (nn l (nn l (dT l i)))) 9:=aa
  have hJ:=BI l i
  have hS : dT l (i+1)=nn l (nn l (nn l (nn l (dT l i)))):=rfl
  have hH : Er l (dT l i)=⟨-1,2+nx l (nn l (nn l (nn l (dT l i)))) 9,Ep l (dT l i)⟩:=rfl
  have hPd : Ep l (dT l i)=if nx l (nn l (nn l (dT l i))) 3=0 then [(nx l (dT l i) 65,-9,0),(nx l (dT l i) 65,80,0)] else [(nx l (dT l i) 65,nx l (nn l (dT l i)) 65,0)]:=rfl
  by_cases h3 : nx l (nn l (nn l (dT l i))) 3=0
  ·have h3' : (nx l (nn l (nn l (dT l i))) 3==0)=true:=by simp [h3]
   rw [if_pos h3] at hPd
   rw [hPd] at hH
   rw [hH] at hJ
   with_reducible repeat' (first|refine Sp.h ?_|((first|refine Wd ?_|refine Ss.h ?_|refine Sc.h (d1) ?_|refine Sc.h (d2) ?_|refine Sc.h (d3) ?_|refine Sc.h (d4) ?_|(refine Sb.h ?_ ?_ ?_<;>(try intro hgd)<;>try exact Xy))<;>simp -implicitDefEqProofs (maxSteps:=2000000) [hP,hN,pu,g2,hb2,g3,hb10,g5,hb5,g6,hb28,hlt,hw,hgt,hS,hz,v1,v2,v4,v5,h3,h3',show (i+1+1) * 40≤140737488355328 by omega,show i≤9223372036854775805 by omega]<;>try refine Ya ?_)|refine X2 ?_ ?_|(refine Xd ?_ ?_<;>intro hcd<;>try exact Xx))
   all_goals simp [hJ]
  ·have h3' : (nx l (nn l (nn l (dT l i))) 3==0)=false:=by simp [h3]
   rw [if_neg h3] at hPd
   rw [hPd] at hH
   rw [hH] at hJ
   with_reducible repeat' (first|refine Sp.h ?_|((first|refine Wd ?_|refine Ss.h ?_|refine Sc.h (d1) ?_|refine Sc.h (d2) ?_|refine Sc.h (d3) ?_|refine Sc.h (d4) ?_|(refine Sb.h ?_ ?_ ?_<;>(try intro hgd)<;>try exact Xy))<;>simp -implicitDefEqProofs (maxSteps:=2000000) [hP,hN,pu,g2,hb2,g3,hb10,g5,hb5,g6,hb28,hlt,hw,hgt,hS,hz,v1,v2,v4,v5,h3,h3',show (i+1+1) * 40≤140737488355328 by omega,show i≤9223372036854775805 by omega]<;>try refine Ya ?_)|refine X2 ?_ ?_|(refine Xd ?_ ?_<;>intro hcd<;>try exact Xx))
   all_goals simp [hJ]
 ·have hir : i=nD l:=by omega
  subst hir
  with_reducible repeat' (first|refine Sp.h ?_|((first|refine Wd ?_|refine Ss.h ?_|(refine Sb.h ?_ ?_ ?_<;>(try intro hgd)<;>try exact Xy))<;>simp -implicitDefEqProofs (maxSteps:=2000000) [hP,hN,g2,hb2,g3,hb10,g5,hb5,g6,hb28,hz]<;>try refine Ya ?_)|refine X2 ?_ ?_|(refine Xd ?_ ?_<;>intro hcd<;>try exact Xx))
  all_goals simp [gh]
end Go.Ab
namespace Go.Ab
open Go.Proofs
def ff (U : List Bool) (i : Nat) : Prop:=U[i]?=some true
inductive Rch (n : Nat) (opn : Nat→Bool) (tch : Nat→Nat→Bool) (S : Nat→Prop) : Nat→Prop
 |base {i : Nat} (h : S i) : Rch n opn tch S i
 |step {i k : Nat} (h : Rch n opn tch S i) (hk : k < n) (ho : opn k=true) (ht : tch i k=true) : Rch n opn tch S k
structure IsR (n : Nat) (opn : Nat→Bool) (tch : Nat→Nat→Bool) (S : Nat→Prop) (U : List Bool) : Prop where
 len : U.length=n
 iff : ∀ i,i < n→(ff U i↔Rch n opn tch S i)
theorem F5 (n : Nat) (opn : Nat→Bool) (tch : Nat→Nat→Bool) (S : Nat→Prop) : ∃ U,IsR n opn tch S U:=by
 classical
 refine ⟨(List.range n).map fun i=>decide (Rch n opn tch S i),by simp,fun i hi=>?_⟩
 simp [ff,hi]
theorem t5 {n : Nat} {opn : Nat→Bool} {tch : Nat→Nat→Bool} {S : Nat→Prop} {U V : List Bool} (h : IsR n opn tch S U) (h' : IsR n opn tch S V) : U=V:=by
 apply List.ext_getElem (by rw [h.len,h'.len])
 intro i hi hi'
 have e1:=h.iff i (by rw [← h.len];exact hi)
 have e2:=h'.iff i (by rw [← h.len];exact hi)
 simp only [ff,List.getElem?_eq_getElem hi,List.getElem?_eq_getElem hi',Option.some.injEq] at e1 e2
 cases hu : U[i]<;>cases hv : V[i]<;>simp_all
section
variable {n : Nat} {opn : Nat→Bool} {tch : Nat→Nat→Bool} {S : Nat→Prop} {U : List Bool} {F : List Nat}
structure FI (n : Nat) (opn : Nat→Bool) (tch : Nat→Nat→Bool) (S : Nat→Prop) (U : List Bool) (F : List Nat) : Prop where
 len : U.length=n
 base : ∀ i,S i→ff U i
 sound : ∀ i,ff U i→Rch n opn tch S i
 mem : ∀ i ∈ F,ff U i
 clo : ∀ i,ff U i→i ∈ F∨∀ k,k < n→opn k=true→tch i k=true→ff U k
structure FJ (n : Nat) (opn : Nat→Bool) (tch : Nat→Nat→Bool) (S : Nat→Prop) (U : List Bool) (F : List Nat) (x j : Nat) : Prop where
 len : U.length=n
 base : ∀ i,S i→ff U i
 sound : ∀ i,ff U i→Rch n opn tch S i
 mem : ∀ i ∈ F,ff U i
 mx : ff U x
 clo : ∀ i,ff U i→i ∈ F∨i=x∨∀ k,k < n→opn k=true→tch i k=true→ff U k
 part : ∀ k,k < j→k < n→opn k=true→tch x k=true→ff U k
theorem BN (hl : U.length=n) {i : Nat} (h : ff U i) : i < n:=by
 rw [← hl];exact (List.getElem?_eq_some_iff.1 h).1
theorem oG {j i : Nat} (hj : j < U.length) : ff (U.set j true) i↔i=j∨ff U i:=by
 unfold ff
 rw [List.getElem?_set]
 by_cases h : j=i
 ·subst h;simp [hj]
 ·rw [if_neg h]
  constructor
  ·exact .inr
  ·rintro (rfl|h')
   ·exact absurd rfl h
   ·exact h'
theorem FI.fin (h : FI n opn tch S U []) : IsR n opn tch S U:=by
 refine ⟨h.len,fun i hi=>⟨h.sound i,fun hr=>?_⟩⟩
 clear hi
 induction hr with
 |base hs=>exact h.base _ hs
 |step _ hk ho ht ih=>
  rcases h.clo _ ih with hF|hc
  ·cases hF
  ·exact hc _ hk ho ht
theorem FI.pop {F' : List Nat} {x : Nat} (h : FI n opn tch S U F) (hx : x ∈ F) (h1 : ∀ m ∈ F,m ∈ F'∨m=x) (h2 : ∀ m ∈ F',m ∈ F) : FJ n opn tch S U F' x 0:=
 ⟨h.len,h.base,h.sound,fun i hi=>h.mem i (h2 i hi),h.mem x hx,fun i hi=>by
   rcases h.clo i hi with hF|hc
   ·rcases h1 i hF with h3|h3
    ·exact .inl h3
    ·exact .inr (.inl h3)
   ·exact .inr (.inr hc),fun k hk=>by omega⟩
theorem FJ.skip {x j : Nat} (h : FJ n opn tch S U F x j) (hn : opn j=true→tch x j=true→ff U j) : FJ n opn tch S U F x (j+1):=
 ⟨h.len,h.base,h.sound,h.mem,h.mx,h.clo,fun k hk hkn ho ht=>by
   by_cases e : k=j
   ·subst e;exact hn ho ht
   ·exact h.part k (by omega) hkn ho ht⟩
theorem FJ.add {x j : Nat} (h : FJ n opn tch S U F x j) (hj : j < n) (ho : opn j=true) (ht : tch x j=true) : FJ n opn tch S (U.set j true) (F++[j]) x (j+1):=by
 have hjl : j < U.length:=by rw [h.len];exact hj
 have up : ∀ i,ff U i→ff (U.set j true) i:=fun i hi=>(oG hjl).2 (.inr hi)
 refine ⟨by simpa using h.len,fun i hi=>up i (h.base i hi),fun i hi=>?_,fun i hi=>?_,up x h.mx,fun i hi=>?_,fun k hk hkn hok htk=>?_⟩
 ·rcases (oG hjl).1 hi with rfl|hi
  ·exact .step (h.sound x h.mx) hj ho ht
  ·exact h.sound i hi
 ·rcases List.mem_append.1 hi with hi|hi
  ·exact up i (h.mem i hi)
  ·simp at hi;subst hi;exact (oG hjl).2 (.inl rfl)
 ·rcases (oG hjl).1 hi with rfl|hi
  ·exact .inl (by simp)
  ·rcases h.clo i hi with h1|h1|h1
   ·exact .inl (by simp [h1])
   ·exact .inr (.inl h1)
   ·exact .inr (.inr fun k hk hok htk=>up k (h1 k hk hok htk))
 ·by_cases e : k=j
  ·subst e;exact (oG hjl).2 (.inl rfl)
  ·exact up k (h.part k (by omega) hkn hok htk)
theorem FJ.done {x : Nat} (h : FJ n opn tch S U F x n) : FI n opn tch S U F:=
 ⟨h.len,h.base,h.sound,h.mem,fun i hi=>by
   rcases h.clo i hi with h1|h1|h1
   ·exact .inl h1
   ·subst h1;exact .inr fun k hk ho ht=>h.part k hk hk ho ht
   ·exact .inr h1⟩
def mj (U : List Bool) : Nat:=U.countP fun b=>!b
theorem uQ : ∀ {U : List Bool} {j : Nat},U[j]?=some false→mj (U.set j true)+1=mj U
 |[],j,h=>by simp at h
 |b :: U,0,h=>by simp at h;subst h;simp [mj]
 |b :: U,j+1,h=>by
  have ih:=uQ (U:=U) (j:=j) (by simpa using h)
  unfold mj at ih ⊢
  rw [List.set_cons_succ,List.countP_cons,List.countP_cons]
  omega
theorem t6 (U : List Bool) : mj U≤U.length:=List.countP_le_length
def fU (n : Nat) (s : Nat→Bool) (i : Nat) : List Bool:=(List.range n).map fun m=>decide (m < i) && s m
def fF (s : Nat→Bool) (i : Nat) : List Nat:=(List.range i).filter s
theorem zJ (n : Nat) (s : Nat→Bool) : fU n s 0=List.replicate n false:=by
 apply List.ext_getElem (by simp [fU])
 intro i h1 h2
 simp [fU]
theorem xr (n : Nat) (s : Nat→Bool) (i : Nat) : (fU n s i).length=n:=by simp [fU]
theorem xu (s : Nat→Bool) (i : Nat) : (fF s i).length≤i:=by
 have:=List.length_filter_le s (List.range i)
 simpa [fF] using this
theorem BO {n : Nat} {s : Nat→Bool} {i : Nat} (hi : i < n) (hs : s i=true) : (fU n s i).set i true=fU n s (i+1):=by
 apply List.ext_getElem (by simp [fU])
 intro j h1 h2
 have hj : j < n:=by simpa [fU] using h2
 rw [List.getElem_set]
 by_cases e : i=j
 ·subst e;simp [fU,hs]
 ·rw [if_neg e]
  simp only [fU,List.getElem_map,List.getElem_range]
  have : decide (j < i)=decide (j < i+1):=by simp;omega
  rw [this]
theorem Et {n : Nat} {s : Nat→Bool} {i : Nat} (hs : s i=false) : fU n s i=fU n s (i+1):=by
 unfold fU
 apply List.map_congr_left
 intro j _
 by_cases e : j=i
 ·subst e;simp [hs]
 ·have : decide (j < i)=decide (j < i+1):=by simp;omega
  rw [this]
theorem BP {s : Nat→Bool} {i : Nat} (hs : s i=true) : fF s (i+1)=fF s i++[i]:=by simp [fF,List.range_succ,hs]
theorem Eu {s : Nat→Bool} {i : Nat} (hs : s i=false) : fF s (i+1)=fF s i:=by simp [fF,List.range_succ,hs]
theorem zK (n : Nat) (opn : Nat→Bool) (tch : Nat→Nat→Bool) (s : Nat→Bool) : FI n opn tch (fun i=>i < n∧s i=true) (fU n s n) (fF s n):=by
 have key : ∀ i,ff (fU n s n) i↔i < n∧s i=true:=by
  intro i
  by_cases hi : i < n
  ·simp [ff,fU,hi]
  ·simp [ff,fU,hi]
 refine ⟨xr _ _ _,fun i hi=>(key i).2 hi,fun i hi=>.base ((key i).1 hi),fun i hi=>?_,fun i hi=>.inl ?_⟩
 ·rw [key]
  simp only [fF,List.mem_filter,List.mem_range] at hi
  exact hi
 ·have:=(key i).1 hi
  simp only [fF,List.mem_filter,List.mem_range]
  exact this
end
def fG (c : Cel) : Bool:=aI c && c.v.kind==2
def gY (c : Cel) : Bool:=aI c && !(fG c)
def dO (t : Tr) (i : Nat) : Bool:=match t.cells[i]? with
 |some c=>gY c
 |none=>false
def l9 (t : Tr) (i j : Nat) : Bool:=dB (aE t (i : Int)) (aE t (j : Int))
def dS (t : Tr) (p : List Int) (i : Nat) : Bool:=bO (aE t (i : Int)) p
def pC (t : Tr) (p : List Int) (i : Nat) : Prop:=i < t.cells.length∧(dO t i && dS t p i)=true
def qS (t : Tr) (p : List Int) (U : List Bool) : Prop:=IsR t.cells.length (dO t) (l9 t) (pC t p) U
def rK (t : Tr) (p : List Int) : Bool:=au t && bO t.root p
def xv (t : Tr) (U : List Bool) (q : List Int) : Bool:=(List.range t.cells.length).all fun i=>!((U[i]?.getD false) && dS t q i)
def gP (t : Tr) (p q : List Int) (U : List Bool) : Bool:=au t && bO t.root p && bO t.root q && xv t U q
theorem xx (t : Tr) (p : List Int) : ∃ U,qS t p U:=F5 _ _ _ _
end Go.Ab
namespace Go.Ab
open Go.Proofs
theorem F8 (c : Cel) : ab Tryz.prog 74 [.pv (br c)] [] [] (.pv (B (aI c))):=by
 refine Dp Tryz.func74 ?_
 intro C hP hN
 simp only [Tryz.f74] at hN ⊢
 with_reducible repeat' (first|refine Sp.h ?_|((first|refine Ss.h ?_|(refine Sb.h ?_ ?_ ?_<;>(try intro hgd)<;>try exact Xy))<;>simp -implicitDefEqProofs (maxSteps:=2000000) [hP,hN])|refine X2 ?_ ?_|(refine Xd ?_ ?_<;>intro hcd<;>try exact Xx))
 all_goals (simp_all [aI])
theorem Ey (c : Cel) : ab Tryz.prog 41 [.pv (br c)] [] [] (.pv (B (fG c))):=by
 have cl:=F8 c
 refine Dp Tryz.func41 ?_
 intro C hP hN
 simp only [Tryz.f41] at hN ⊢
 with_reducible repeat' (first|refine Sp.h ?_|((first|refine Ss.h ?_|refine Sc.h (cl) ?_|(refine Sb.h ?_ ?_ ?_<;>(try intro hgd)<;>try exact Xy))<;>simp -implicitDefEqProofs (maxSteps:=2000000) [hP,hN])|refine X2 ?_ ?_|(refine Xd ?_ ?_<;>intro hcd<;>try exact Xx))
 all_goals (simp_all [fG])
set_option maxRecDepth 10000 in
theorem F9 (t : Tr) (hv : au t=true) : ab Tryz.prog 40 [.pv (bT t)] [] [] (.pv (.sl ((ah t).map iv))):=by
 have hs:=cO hv
 obtain ⟨z1,z2,z3,z4,z5⟩:=bc.1 hs
 have hl : t.cells.length≤9223372036854775807:=by omega
 have hin:=td z1
 refine Dp Tryz.func40 ?_
 intro C hP hN
 simp only [Tryz.f40] at hN ⊢
 with_reducible repeat' (first|refine Sp.h ?_|((first|refine Wd ?_|refine Ss.h ?_|(refine Sb.h ?_ ?_ ?_<;>(try intro hgd)<;>try exact Xy))<;>simp -implicitDefEqProofs (maxSteps:=2000000) [hP,hN,hin,show (24 : Int) * t.cells.length≤281474976710656 by omega,show (t.cells.length : Int)≤9223372036854775807 by omega,show 0 < t.cells.length by omega]<;>try refine Ya ?_)|refine X2 ?_ ?_|(refine Xd ?_ ?_<;>intro hcd<;>try exact Xx))
 refine WP.loopN [5] t.cells.length (fun i st=>∃ L,BInv t i L∧st.t 3=.arr 9 t.cells.length∧st.t 15=.pv (.sl (t.cells.map br))∧st.t 16=.pv (Z t.cells.length)∧st.t 17=.pv (Z i)∧st.h 5=none∧st.h 9=some (.row 30 1 (L.map mg) 0)) (by exact ⟨gD t,rn hs,by simp [hin]⟩) ?_
 rintro i st hi ⟨L,hB,g3,g15,g16,g17,hb5,hb9⟩
 have hLl:=hB.bok.len
 by_cases hlt : i < t.cells.length
 ·have hw:=ag hlt hl
  have hlL : i < L.length:=by omega
  generalize hc : t.cells[i]=c at *
  have hci : t.cells[i]?=some c:=by rw [List.getElem?_eq_getElem hlt,hc]
  have cl:=F8 c
  cases hst : ef t.cells.length i c L with
  |none=>
   have:=ro hB hlt (by rw [hc];exact hst)
   rw [au,this] at hv;cases hv
  |some L'=>
   have hnx:=lW hB hlt (by rw [hc];exact hst)
   obtain ⟨b,hx,⟨hlf,_,rfl⟩|⟨hlf,hi',hh,ha,hz,rfl⟩⟩:=eg hst
   ·rw [hlf] at cl
    with_reducible repeat' (first|refine Sp.h ?_|((first|refine Wd ?_|refine Ss.h ?_|refine Sc.h (cl) ?_|(refine Sb.h ?_ ?_ ?_<;>(try intro hgd)<;>try exact Xy))<;>simp -implicitDefEqProofs (maxSteps:=2000000) [hP,hN,g3,g15,g16,g17,hb5,hb9,hlt,hw,hci,hc,hLl]<;>try refine Ya ?_)|refine X2 ?_ ?_|(refine Xd ?_ ?_<;>intro hcd<;>try exact Xx))
    all_goals exact ⟨L',hnx,rfl⟩
   ·rw [hlf] at cl
    have hx':=aD hx hlL
    obtain ⟨i1,i2,i3,i4,i5,i6⟩:=dt.1 hi'
    obtain ⟨hbl,hbv⟩:=hB.bok.ok i b hx
    have ch:=H5 b c.joint (by omega)
    have k1 : c.low.toNat < t.cells.length:=by omega
    have k2 : c.high.toNat < t.cells.length:=by omega
    have k3 : 0≤c.low:=by omega
    have k4 : 0≤c.high:=by omega
    with_reducible repeat' (first|refine Sp.h ?_|((first|refine Wd ?_|refine Ss.h ?_|refine Sc.h (cl) ?_|refine Sc.h (ch) ?_|(refine Sb.h ?_ ?_ ?_<;>(try intro hgd)<;>try exact Xy))<;>simp -implicitDefEqProofs (maxSteps:=2000000) [hP,hN,g3,g15,g16,g17,hb5,hb9,hlt,hw,hx,hx',cJ,cK,hci,hc,hLl,k1,k2,k3,k4]<;>try refine Ya ?_)|refine X2 ?_ ?_|(refine Xd ?_ ?_<;>intro hcd<;>try exact Xx))
    all_goals exact ⟨_,hnx,set_row⟩
 ·have hdn:=rq hB hlt
  have hmap:=tf hdn
  rw [← hmap]
  with_reducible repeat' (first|refine Sp.h ?_|((first|refine Wd ?_|refine Ss.h ?_|(refine Sb.h ?_ ?_ ?_<;>(try intro hgd)<;>try exact Xy))<;>simp -implicitDefEqProofs (maxSteps:=2000000) [hP,hN,g3,g15,g16,g17,hb5,hb9,hlt,hLl]<;>try refine Ya ?_)|refine X2 ?_ ?_|(refine Xd ?_ ?_<;>intro hcd<;>try exact Xx))
abbrev oH (bs : List Bx) (op : List Bool) : PV:=.agg [.sl (bs.map iv),.sl (op.map B)]
def qj (t : Tr) (i : Nat) : List Bool:=(t.cells.map gY).take i++List.replicate (t.cells.length - i) false
theorem E2 {t : Tr} {i : Nat} (h : i≤t.cells.length) : (qj t i).length=t.cells.length:=by simp [qj];omega
theorem Dm (t : Tr) : qj t 0=List.replicate t.cells.length false:=by simp [qj]
theorem E3 (t : Tr) : qj t t.cells.length=t.cells.map gY:=by rw [qj,List.take_of_length_le (by simp)];simp
theorem Dn {t : Tr} {i : Nat} {c : Cel} (hlt : i < t.cells.length) (hci : t.cells[i]?=some c) : (qj t i).set i (gY c)=qj t (i+1):=by
 obtain ⟨m,hm⟩ : ∃ m,t.cells.length - i=m+1:=⟨t.cells.length - i - 1,by omega⟩
 have hm' : t.cells.length - (i+1)=m:=by omega
 have hl : ((t.cells.map gY).take i).length=i:=by simp;omega
 obtain ⟨_,e⟩:=List.getElem?_eq_some_iff.1 hci
 unfold qj
 rw [hm,hm',List.replicate_succ,List.set_append_right _ _ (by rw [hl];exact Nat.le_refl _),hl,Nat.sub_self,List.set_cons_zero,List.take_succ_eq_append_getElem (by simpa using hlt)]
 simp [e]
set_option maxRecDepth 10000 in
theorem Lv (t : Tr) (hv : au t=true) : ab Tryz.prog 46 [.pv (bT t)] [] [] (.pv (oH (ah t) (t.cells.map gY))):=by
 have hs:=cO hv
 obtain ⟨z1,z2,z3,z4,z5⟩:=bc.1 hs
 have cb:=F9 t hv
 refine Dp Tryz.func46 ?_
 intro C hP hN
 simp only [Tryz.f46] at hN ⊢
 with_reducible repeat' (first|refine Sp.h ?_|((first|refine Wd ?_|refine Ss.h ?_|refine Sc.h (cb) ?_|(refine Sb.h ?_ ?_ ?_<;>(try intro hgd)<;>try exact Xy))<;>simp -implicitDefEqProofs (maxSteps:=2000000) [hP,hN,show (1 : Int) * t.cells.length≤281474976710656 by omega,show (t.cells.length : Int)≤281474976710656 by omega,show (t.cells.length : Int)≤9223372036854775807 by omega,show 0 < t.cells.length by omega]<;>try refine Ya ?_)|refine X2 ?_ ?_|(refine Xd ?_ ?_<;>intro hcd<;>try exact Xx))
 refine WP.loopN [5] t.cells.length (fun i st=>st.t 2=.ptr 2 0∧st.t 3=.ptr 3 0∧st.t 14=.pv (.sl (t.cells.map br))∧st.t 15=.pv (Z t.cells.length)∧st.t 16=.pv (Z i)∧st.h 5=none∧st.h 3=some (.box [.pv (.sl ((ah t).map iv)),.arr 11 t.cells.length] true false)∧st.h 2=some (.box [.pv (.val (.slice none 0 0)),.pv (.val (.slice none 0 0))] true false)∧st.h 11=some (.row 4 1 ((qj t i).map B) 0)) (by simp [Dm]) ?_
 rintro i st hi ⟨g2,g3,g14,g15,g16,hb5,hb3,hb2,hb11⟩
 have hUl:=E2 hi
 by_cases hlt : i < t.cells.length
 ·have hw:=ag hlt (by omega)
  generalize hc : t.cells[i]=c at *
  have hci : t.cells[i]?=some c:=by rw [List.getElem?_eq_getElem hlt,hc]
  have cl:=F8 c
  have cc:=Ey c
  have hst:=Dn hlt hci
  have hop : gY c=(aI c && !(fG c)):=rfl
  generalize qj t i=U at *
  generalize qj t (i+1)=U' at *
  have hiU : i < U.length:=by omega
  cases hlf : aI c with
  |false=>
   rw [hlf] at cl
   rw [hlf,Bool.false_and] at hop
   rw [hop] at hst
   with_reducible repeat' (first|refine Sp.h ?_|((first|refine Wd ?_|refine Ss.h ?_|refine Sc.h (cl) ?_|(refine Sb.h ?_ ?_ ?_<;>(try intro hgd)<;>try exact Xy))<;>simp -implicitDefEqProofs (maxSteps:=2000000) [hP,hN,g2,g3,g14,g15,g16,hb5,hb3,hb2,hb11,hlt,hw,hci,hc,hUl,hiU]<;>try refine Ya ?_)|refine X2 ?_ ?_|(refine Xd ?_ ?_<;>intro hcd<;>try exact Xx))
   all_goals simp [← hst,List.map_set]
  |true=>
   rw [hlf] at cl
   rw [hlf,Bool.true_and] at hop
   rw [hop] at hst
   generalize fG c=cb9 at *
   with_reducible repeat' (first|refine Sp.h ?_|((first|refine Wd ?_|refine Ss.h ?_|refine Sc.h (cl) ?_|refine Sc.h (cc) ?_|(refine Sb.h ?_ ?_ ?_<;>(try intro hgd)<;>try exact Xy))<;>simp -implicitDefEqProofs (maxSteps:=2000000) [hP,hN,g2,g3,g14,g15,g16,hb5,hb3,hb2,hb11,hlt,hw,hci,hc,hUl,hiU]<;>try refine Ya ?_)|refine X2 ?_ ?_|(refine Xd ?_ ?_<;>intro hcd<;>try exact Xx))
   all_goals simp [← hst,List.map_set]
 ·have hi' : i=t.cells.length:=by omega
  subst hi'
  rw [E3] at hb11
  with_reducible repeat' (first|refine Sp.h ?_|((first|refine Wd ?_|refine Ss.h ?_|(refine Sb.h ?_ ?_ ?_<;>(try intro hgd)<;>try exact Xy))<;>simp -implicitDefEqProofs (maxSteps:=2000000) [hP,hN,g2,g3,g14,g15,g16,hb5,hb3,hb2,hb11,hlt]<;>try refine Ya ?_)|refine X2 ?_ ?_|(refine Xd ?_ ?_<;>intro hcd<;>try exact Xx))
end Go.Ab
namespace Go.Ab
open Go.Proofs
def ml (bs : List Bx) (i : Nat) : Bx:=bs[i]?.getD []
def lM (op : List Bool) (i : Nat) : Bool:=op[i]?.getD false
def qT (bs : List Bx) (i j : Nat) : Bool:=dB (ml bs i) (ml bs j)
theorem zS {op : List Bool} {i : Nat} (h : i < op.length) : op[i]?=some (lM op i):=by simp [lM,List.getElem?_eq_getElem h]
theorem uR {bs : List Bx} {i : Nat} (h : i < bs.length) : bs[i]?=some (ml bs i):=by simp [ml,List.getElem?_eq_getElem h]
theorem ub {U : List Bool} {j : Nat} (h : j < U.length) : ff U j∨U[j]?=some false:=by
 unfold ff
 rw [List.getElem?_eq_getElem h]
 cases U[j]<;>simp
set_option maxRecDepth 10000 in
theorem Lw (bs : List Bx) (op : List Bool) (S : Nat→Prop) (U V : List Bool) (F : List Nat) (hb : bs.length=op.length) (hn : op.length≤2048) (hbx : ∀ b ∈ bs,b.length≤9223372036854775807) (hF : F.length≤4096)
 (hI : FI op.length (lM op) (qT bs) S U F) (hV : IsR op.length (lM op) (qT bs) S V) : CM Tryz.prog 79 [oH bs op] 4 1 (U.map B) (V.map B) 3 1 (F.map zN):=by
 have hUl:=hI.len
 refine EP Tryz.func79 rfl (by kernel_rfl) rfl (by simp [Tryz.f79]) (by simp [hUl,hV.len]) ?_
 intro C hP hN
 simp only [Tryz.f79] at hN ⊢
 obtain ⟨n,hnn⟩ : ∃ n,op.length=n:=⟨_,rfl⟩
 rw [hnn] at hI hV hn hb hUl
 have hUm:=t6 U
 have hUm2 : mj U≤2048:=by omega
 have hTI : ∃ ti e' b z,ai Tryz.prog 35=some ti∧ti.kind=TK.slice e' 1 b z:=by refine ⟨_,_,_,_,KK,rfl⟩
 with_reducible repeat' (first|refine Sp.h ?_|((first|refine Wd ?_|refine Ss.h ?_|(refine Sb.h ?_ ?_ ?_<;>(try intro hgd)<;>try exact Xy))<;>simp -implicitDefEqProofs (maxSteps:=2000000) [hP,hN,hnn,wH]<;>try refine Ya ?_)|refine X2 ?_ ?_|(refine Xd ?_ ?_<;>intro hcd<;>try exact Xx))
 refine WP.loopN [] (F.length+mj U) (fun i st=>∃ U' F',FI n (lM op) (qT bs) S U' F'∧i+F'.length+mj U'=F.length+mj U∧st.t 1=.arr 2000000 n∧st.t 2=.arr 1500000 F'.length∧st.t 3=.ptr 3 0∧st.h 3=some (.box [.pv (.sl (bs.map iv)),.pv (.sl (op.map B))] true false)∧st.h 2000000=some (.row 4 1 (U'.map B) 0)∧st.h 1500000=some (.row 3 1 (F'.map zN) 0)) (by exact ⟨U,F,hI,by omega,by simp [hUl]⟩) ?_
 clear hI hUl
 rintro i st hi ⟨U',F',hI,hcnt,g1,g2,g3,hb3,hbU,hbF⟩
 have hUl:=hI.len
 by_cases hF0 : F'=[]
 ·subst hF0
  have hUV : U'=V:=t5 hI.fin hV
  subst hUV
  with_reducible repeat' (first|refine Sp.h ?_|((first|refine Wd ?_|refine Ss.h ?_|(refine Sb.h ?_ ?_ ?_<;>(try intro hgd)<;>try exact Xy))<;>simp -implicitDefEqProofs (maxSteps:=2000000) [hP,hN,g1,g2,g3,hb3,hbU,hbF]<;>try refine Ya ?_)|refine X2 ?_ ?_|(refine Xd ?_ ?_<;>intro hcd<;>try exact Xx))
 have hpos:=List.length_pos_iff.2 hF0
 have hposI : (0 : Int) < F'.length:=by omega
 have hF1 : F'.length - 1 < F'.length:=by omega
 obtain ⟨x,hx⟩ : ∃ x,F'[F'.length - 1]?=some x:=⟨_,List.getElem?_eq_getElem hF1⟩
 have hx':=aD hx hF1
 have hxm:=hI.mem x (List.mem_of_getElem? hx)
 have hxn:=BN hUl hxm
 have hw1 : IntKind.i64.wrap ((F'.length : Int) - 1)=((F'.length - 1 : Nat) : Int):=by rw [show (F'.length : Int) - 1=((F'.length - 1 : Nat) : Int) by omega];exact aa (by omega) (by omega)
 have hpop : FJ n (lM op) (qT bs) S U' (F'.take (F'.length - 1)) x 0:=hI.pop (List.mem_of_getElem? hx) (fun m hm=>by
  have e : F'=F'.take (F'.length - 1)++[x]:=by
   rw [← hx',← List.take_succ_eq_append_getElem hF1,show F'.length - 1+1=F'.length by omega,List.take_length]
  rw [e] at hm
  rcases List.mem_append.1 hm with h|h
  ·exact .inl h
  ·exact .inr (by simpa using h)) (fun m hm=>List.mem_of_mem_take hm)
 with_reducible repeat' (first|refine Sp.h ?_|((refine WP.trunc (hn:=[]) (pre:=[_,_,_,_]) (post:=[_]) rfl rfl rfl rfl ?_);simp -implicitDefEqProofs (maxSteps:=2000000) [hP,hN,g1,g2,g3,hb3,hbU,hbF,hpos,hposI,hF1,hx,hx',hw1])|((first|refine Wd ?_|refine Ss.h ?_|(refine Sb.h ?_ ?_ ?_<;>(try intro hgd)<;>try exact Xy))<;>simp -implicitDefEqProofs (maxSteps:=2000000) [hP,hN,g1,g2,g3,hb3,hbU,hbF,hpos,hposI,hF1,hx,hx',hw1]<;>try refine Ya ?_)|refine X2 ?_ ?_|(refine Xd ?_ ?_<;>intro hcd<;>try exact Xx))
 refine ⟨1500000,3,1,F'.length,F'.length - 1,.i64,by simp [g2],by simp,F'.map zN,by simp [hbF],by simp,by omega,by omega,by rw [hP];exact hTI,by rw [hN];decide,?_⟩
 simp -implicitDefEqProofs (maxSteps:=2000000) [hP,hN,g1,g2,g3,hb3,hbU,hbF]
 with_reducible repeat' (first|refine Sp.h ?_|((first|refine Wd ?_|refine Ss.h ?_|(refine Sb.h ?_ ?_ ?_<;>(try intro hgd)<;>try exact Xy))<;>simp -implicitDefEqProofs (maxSteps:=2000000) [hP,hN,g1,g2,g3,hb3,hbU,hbF,hnn]<;>try refine Ya ?_)|refine X2 ?_ ?_|(refine Xd ?_ ?_<;>intro hcd<;>try exact Xx))
 refine WP.loopN [] n (fun j st=>∃ U2 F2,FJ n (lM op) (qT bs) S U2 F2 x j∧i+1+F2.length+mj U2=F.length+mj U∧st.t 1=.arr 2000000 n∧st.t 2=.arr 1500000 F2.length∧st.t 3=.ptr 3 0∧st.t 6=.pv (Z x)∧st.t 24=.pv (.sl (op.map B))∧st.t 25=.pv (Z n)∧st.t 26=.pv (Z j)∧st.h 3=some (.box [.pv (.sl (bs.map iv)),.pv (.sl (op.map B))] true false)∧st.h 2000000=some (.row 4 1 (U2.map B) 0)∧st.h 1500000=some (.row 3 1 (F2.map zN) 0)) (by refine ⟨U',F'.take (F'.length - 1),hpop,by rw [List.length_take];omega,?_⟩;simp [g1,g2,g3,hb3,hbU,hbF,hx',List.map_take];try omega) ?_
 clear g1 g2 g3 hb3 hbU hbF hpop
 rintro j st' hj ⟨U2,F2,hJ,hcnt2,y1,y2,y3,y6,y24,y25,y26,yb3,ybU,ybF⟩
 have hU2:=hJ.len
 have hU2m:=t6 U2
 by_cases hlt : j < n
 ·have hw:=ag hlt (by omega)
  have hjo : j < op.length:=by omega
  have hop:=zS hjo
  have hop':=aD hop hjo
  have hjU : j < U2.length:=by omega
  have hjb : j < bs.length:=by omega
  have hxb : x < bs.length:=by omega
  have hbj:=uR hjb
  have hbx1:=uR hxb
  have hbj':=aD hbj hjb
  have hbx':=aD hbx1 hxb
  have ct:=I6 (ml bs x) (ml bs j) (hbx _ (List.mem_of_getElem? hbx1))
  have ht9 : qT bs x j=dB (ml bs x) (ml bs j):=rfl
  have hskip:=hJ.skip
  have hadd:=hJ.add hlt
  rw [ht9] at hskip hadd
  cases ho : lM op j with
  |false=>
   rw [ho] at hop hop' hskip
   have hs:=hskip (by simp)
   with_reducible repeat' (first|refine Sp.h ?_|((first|refine Wd ?_|refine Ss.h ?_|(refine Sb.h ?_ ?_ ?_<;>(try intro hgd)<;>try exact Xy))<;>simp -implicitDefEqProofs (maxSteps:=2000000) [hP,hN,y1,y2,y3,y6,y24,y25,y26,yb3,ybU,ybF,hlt,hw,hnn,hop,hop',hjo]<;>try refine Ya ?_)|refine X2 ?_ ?_|(refine Xd ?_ ?_<;>intro hcd<;>try exact Xx))
   all_goals exact ⟨U2,F2,hs,hcnt2,rfl,rfl,rfl⟩
  |true=>
  rw [ho] at hop hop' hskip hadd
  rcases ub hjU with hm|hm
  ·have hs:=hskip (fun _ _=>hm)
   unfold ff at hm
   have hm':=aD hm hjU
   with_reducible repeat' (first|refine Sp.h ?_|((first|refine Wd ?_|refine Ss.h ?_|(refine Sb.h ?_ ?_ ?_<;>(try intro hgd)<;>try exact Xy))<;>simp -implicitDefEqProofs (maxSteps:=2000000) [hP,hN,y1,y2,y3,y6,y24,y25,y26,yb3,ybU,ybF,hlt,hw,hnn,hop,hop',hjo,hm,hm',hU2,hjU]<;>try refine Ya ?_)|refine X2 ?_ ?_|(refine Xd ?_ ?_<;>intro hcd<;>try exact Xx))
   all_goals exact ⟨U2,F2,hs,hcnt2,rfl,rfl,rfl⟩
  ·have hm':=aD hm hjU
   have hu:=uQ hm
   cases ht : dB (ml bs x) (ml bs j) with
   |false=>
    rw [ht] at ct hskip
    have hs:=hskip (by simp)
    with_reducible repeat' (first|refine Sp.h ?_|((first|refine Wd ?_|refine Ss.h ?_|refine Sc.h (ct) ?_|(refine Sb.h ?_ ?_ ?_<;>(try intro hgd)<;>try exact Xy))<;>simp -implicitDefEqProofs (maxSteps:=2000000) [hP,hN,y1,y2,y3,y6,y24,y25,y26,yb3,ybU,ybF,hlt,hw,hnn,hop,hop',hjo,hm,hm',hU2,hjU,hjb,hxb,hbj,hbx1,hbj',hbx']<;>try refine Ya ?_)|refine X2 ?_ ?_|(refine Xd ?_ ?_<;>intro hcd<;>try exact Xx))
    all_goals exact ⟨U2,F2,hs,hcnt2,rfl,rfl,rfl⟩
   |true=>
    rw [ht] at ct hadd
    have hs:=hadd rfl rfl
    with_reducible repeat' (first|refine Sp.h ?_|((first|refine Wd ?_|refine Ss.h ?_|refine Sc.h (ct) ?_|(refine Sb.h ?_ ?_ ?_<;>(try intro hgd)<;>try exact Xy))<;>simp -implicitDefEqProofs (maxSteps:=2000000) [hP,hN,y1,y2,y3,y6,y24,y25,y26,yb3,ybU,ybF,hlt,hw,hnn,hop,hop',hjo,hm,hm',hU2,hjU,hjb,hxb,hbj,hbx1,hbj',hbx',show (F2.length+1) * 8≤140737488355328 by omega,show F2.length+1≤9223372036854775807 by omega]<;>try refine Ya ?_)|refine X2 ?_ ?_|(refine Xd ?_ ?_<;>intro hcd<;>try exact Xx))
    all_goals exact ⟨U2.set j true,F2++[j],hs,by simp;omega,by simp,by simp [List.map_set],by simp⟩
 ·have hj' : j=n:=by omega
  subst hj'
  have hd:=hJ.done
  with_reducible repeat' (first|refine Sp.h ?_|((first|refine Wd ?_|refine Ss.h ?_|(refine Sb.h ?_ ?_ ?_<;>(try intro hgd)<;>try exact Xy))<;>simp -implicitDefEqProofs (maxSteps:=2000000) [hP,hN,y1,y2,y3,y6,y24,y25,y26,yb3,ybU,ybF,hlt]<;>try refine Ya ?_)|refine X2 ?_ ?_|(refine Xd ?_ ?_<;>intro hcd<;>try exact Xx))
  all_goals exact ⟨by omega,U2,F2,hd,hcnt2,rfl,rfl,rfl⟩
end Go.Ab
namespace Go.Ab
open Go.Proofs
def sB (bs : List Bx) (op : List Bool) (q : List Int) (i : Nat) : Bool:=lM op i && bO (ml bs i) q
set_option maxRecDepth 10000 in
theorem Lx (bs : List Bx) (op : List Bool) (q : List Int) (V : List Bool) (hb : bs.length=op.length) (h1 : 1≤op.length) (hn : op.length≤2048) (hbx : ∀ b ∈ bs,b.length≤9223372036854775807) (hV : IsR op.length (lM op) (qT bs) (fun i=>i < op.length∧sB bs op q i=true) V) : ab Tryz.prog 47 [.pv (oH bs op),.pv (zs q)] [] [] (.pv (.sl (V.map B))):=by
 obtain ⟨n,hnn⟩ : ∃ n,op.length=n:=⟨_,rfl⟩
 have hfi:=zK op.length (lM op) (qT bs) (sB bs op q)
 have hfl:=xu (sB bs op q) op.length
 have csp:=Lw bs op _ _ V _ hb hn hbx (by omega) hfi hV
 rw [hnn] at hV hn hb h1 hfl csp hfi
 refine Dp Tryz.func47 ?_
 intro C hP hN
 simp only [Tryz.f47] at hN ⊢
 with_reducible repeat' (first|refine Sp.h ?_|((first|refine Wh [6] ?_|refine Ss.h ?_|(refine Sb.h ?_ ?_ ?_<;>(try intro hgd)<;>try exact Xy))<;>simp -implicitDefEqProofs (maxSteps:=2000000) [hP,hN,hnn,show (1 : Int) * n≤281474976710656 by omega,show (n : Int)≤281474976710656 by omega,show (n : Int)≤9223372036854775807 by omega])|refine X2 ?_ ?_|(refine Xd ?_ ?_<;>intro hcd<;>try exact Xx))
 refine WP.loopN [] n (fun i st=>st.t 1=.pv (zs q)∧st.t 2=.ptr 2 0∧st.t 5=.arr 12 n∧st.t 6=.arr 6 (fF (sB bs op q) i).length∧st.t 14=.pv (.sl (op.map B))∧st.t 15=.pv (Z n)∧st.t 16=.pv (Z i)∧st.h 2=some (.box [.pv (.sl (bs.map iv)),.pv (.sl (op.map B))] true false)∧st.h 12=some (.row 4 1 ((fU n (sB bs op q) i).map B) 0)∧st.h 6=some (.row 3 1 ((fF (sB bs op q) i).map zN) 0)) (by simp [zJ,fF]) ?_
 rintro i st hi ⟨g1,g2,g5,g6,g14,g15,g16,hb2,hb12,hb6⟩
 have hUl:=xr n (sB bs op q) i
 have hFl:=xu (sB bs op q) i
 by_cases hlt : i < n
 ·have hw:=ag hlt (by omega)
  have hio : i < op.length:=by omega
  have hop:=zS hio
  have hop':=aD hop hio
  have hib : i < bs.length:=by omega
  have hbi:=uR hib
  have hbi':=aD hbi hib
  have ch:=BD (ml bs i) q (hbx _ (List.mem_of_getElem? hbi))
  have hs9 : sB bs op q i=(lM op i && bO (ml bs i) q):=rfl
  have hUn:=Et (n:=n) (s:=sB bs op q) (i:=i)
  have hFn:=Eu (s:=sB bs op q) (i:=i)
  have hUy:=BO (n:=n) (s:=sB bs op q) hlt
  have hFy:=BP (s:=sB bs op q) (i:=i)
  rw [hs9] at hUn hFn hUy hFy
  generalize fU n (sB bs op q) i=U at *
  generalize fU n (sB bs op q) (i+1)=U' at *
  generalize fF (sB bs op q) i=F at *
  generalize fF (sB bs op q) (i+1)=F' at *
  have hiU : i < U.length:=by omega
  cases ho : lM op i with
  |false=>
   rw [ho] at hop hop' hUn hFn
   have e1:=hUn (by simp)
   have e2:=hFn (by simp)
   subst e1;subst e2
   exact Gy
  |true=>
  rw [ho] at hop hop' hUn hFn hUy hFy
  cases hh : bO (ml bs i) q with
  |false=>
   rw [hh] at ch hUn hFn
   have e1:=hUn (by simp)
   have e2:=hFn (by simp)
   subst e1;subst e2
   exact Gy
  |true=>
   rw [hh] at ch hUy hFy
   have e1:=hUy rfl
   have e2:=hFy rfl
   with_reducible repeat' (first|refine Sp.h ?_|((first|refine Ss.h ?_|refine Sc.h (ch) ?_|(refine Sb.h ?_ ?_ ?_<;>(try intro hgd)<;>try exact Xy))<;>simp -implicitDefEqProofs (maxSteps:=2000000) [hP,hN,g1,g2,g5,g6,g14,g15,g16,hb2,hb12,hb6,hlt,hw,hnn,hop,hop',hio,hib,hbi,hbi',hUl,hiU,show (F.length+1) * 8≤140737488355328 by omega,show F.length+1≤9223372036854775807 by omega])|refine X2 ?_ ?_|(refine Xd ?_ ?_<;>intro hcd<;>try exact Xx))
   all_goals simp [e2,← e1,List.map_set]
 ·have hi' : i=n:=by omega
  subst hi'
  have hne : fU i (sB bs op q) i≠[]:=by intro h;rw [h] at hUl;simp at hUl;omega
  generalize fU i (sB bs op q) i=U at *
  generalize fF (sB bs op q) i=F at *
  with_reducible repeat' (first|refine Sp.h ?_|((refine WP.hand (hn:=[]) (pre:=[_,_,_]) rfl rfl rfl rfl ?_);simp -implicitDefEqProofs (maxSteps:=2000000) [hP,hN,g1,g2,g5,g6,g14,g15,g16,hb2,hb12,hb6,hlt])|((first|refine Ss.h ?_|(refine Sb.h ?_ ?_ ?_<;>(try intro hgd)<;>try exact Xy))<;>simp -implicitDefEqProofs (maxSteps:=2000000) [hP,hN,g1,g2,g5,g6,g14,g15,g16,hb2,hb12,hb6,hlt])|refine X2 ?_ ?_|(refine Xd ?_ ?_<;>intro hcd<;>try exact Xx))
  refine ⟨79,oH bs op,[],12,6,4,1,3,1,U.map B,V.map B,F.map zN,by simp,by simp [hb2],by simp [g5,hUl],by simp [g6],by simp [hb12],by simp [hb6],by decide,by simp [hne],by rw [hP];exact csp,by rw [hN];decide,?_⟩
  simp -implicitDefEqProofs (maxSteps:=2000000) [hP,hN,g1,g2,g5,g6,hb2,hb12,hb6]
  have hVl:=hV.len
  exact Gy
end Go.Ab
namespace Go.Ab
open Go.Proofs
theorem zT (t : Tr) (i : Nat) : lM (t.cells.map gY) i=dO t i:=by
 simp only [lM,dO,List.getElem?_map]
 cases t.cells[i]?<;>rfl
theorem BU (t : Tr) (i : Nat) : ml (ah t) i=aE t (i : Int):=by simp [ml,aE]
theorem Do {t : Tr} {q : List Int} {U : List Bool} (h : qS t q U) : IsR (t.cells.map gY).length (lM (t.cells.map gY)) (qT (ah t)) (fun i=>i < (t.cells.map gY).length∧sB (ah t) (t.cells.map gY) q i=true) U:=by
 have e1 : lM (t.cells.map gY)=dO t:=funext (zT t)
 have e2 : qT (ah t)=l9 t:=by funext i j;simp [qT,l9,BU]
 have e3 : (fun i=>i < (t.cells.map gY).length∧sB (ah t) (t.cells.map gY) q i=true)=pC t q:=by
  funext i;simp [pC,sB,dS,BU,zT]
 rw [e1,e2,e3,List.length_map];exact h
theorem BV {t : Tr} (hv : au t=true) : ∀ b ∈ ah t,b.length≤10:=by
 intro b hb
 obtain ⟨i,hi⟩:=List.mem_iff_getElem?.1 hb
 have:=(gE hi).1
 have:=bc.1 (cO hv)
 omega
def AM (t : Tr) (p : List Int) (U : List Bool) : List Bool:=if rK t p then U else []
theorem BW (t : Tr) (p : List Int) (U : List Bool) (hv : au t=true) (hU : qS t p U) : ab Tryz.prog 47 [.pv (oH (ah t) (t.cells.map gY)),.pv (zs p)] [] [] (.pv (.sl (U.map B))):=by
 have hz:=bc.1 (cO hv)
 exact Lx (ah t) (t.cells.map gY) p U (by rw [du hv,List.length_map]) (by rw [List.length_map];omega) (by rw [List.length_map];omega) (fun b hb=>by have:=BV hv b hb;omega) (Do hU)
theorem zU {t : Tr} {U : List Bool} {q : List Int} {i : Nat} (h1 : U[i]?=some true) (hi : i < t.cells.length) (h2 : dS t q i=true) : xv t U q=false:=by
 unfold xv
 apply Bool.eq_false_iff.2
 intro h
 have:=List.all_eq_true.1 h i (List.mem_range.2 hi)
 simp [h1,h2] at this
theorem xy {t : Tr} {U : List Bool} {q : List Int} (h : ∀ i,i < t.cells.length→U[i]?=some true→dS t q i=false) : xv t U q=true:=by
 unfold xv
 refine List.all_eq_true.2 fun i hi=>?_
 cases hu : U[i]? with
 |none=>rfl
 |some b=>cases b with
  |false=>rfl
  |true=>simp [h i (List.mem_range.1 hi) hu]
set_option maxRecDepth 10000 in
theorem Ga (t : Tr) (p q : List Int) (U : List Bool) (hl : t.cells.length≤9223372036854775807) (hr : t.root.length≤9223372036854775807) (hU : qS t p U) : ab Tryz.prog 15 [.pv (bT t),.pv (zs p),.pv (zs q)] [] [] (.pv (B (gP t p q U))):=by
 have cv:=Hf t hl
 have ch:=BD t.root p hr
 have ck:=BD t.root q hr
 unfold gP
 cases hv : au t with
 |false=>
  rw [hv] at cv
  refine Dp Tryz.func15 ?_
  intro C hP hN
  simp only [Tryz.f15] at hN ⊢
  with_reducible repeat' (first|refine Sp.h ?_|((first|refine Ss.h ?_|refine Sc.h (cv) ?_|(refine Sb.h ?_ ?_ ?_<;>(try intro hgd)<;>try exact Xy))<;>simp -implicitDefEqProofs (maxSteps:=2000000) [hP,hN])|refine X2 ?_ ?_|(refine Xd ?_ ?_<;>intro hcd<;>try exact Xx))
 |true=>
 rw [hv] at cv
 cases hh : bO t.root p with
 |false=>
  rw [hh] at ch
  refine Dp Tryz.func15 ?_
  intro C hP hN
  simp only [Tryz.f15] at hN ⊢
  with_reducible repeat' (first|refine Sp.h ?_|((first|refine Ss.h ?_|refine Sc.h (cv) ?_|refine Sc.h (ch) ?_|(refine Sb.h ?_ ?_ ?_<;>(try intro hgd)<;>try exact Xy))<;>simp -implicitDefEqProofs (maxSteps:=2000000) [hP,hN])|refine X2 ?_ ?_|(refine Xd ?_ ?_<;>intro hcd<;>try exact Xx))
 |true=>
 rw [hh] at ch
 cases hk : bO t.root q with
 |false=>
  rw [hk] at ck
  refine Dp Tryz.func15 ?_
  intro C hP hN
  simp only [Tryz.f15] at hN ⊢
  with_reducible repeat' (first|refine Sp.h ?_|((first|refine Ss.h ?_|refine Sc.h (cv) ?_|refine Sc.h (ch) ?_|refine Sc.h (ck) ?_|(refine Sb.h ?_ ?_ ?_<;>(try intro hgd)<;>try exact Xy))<;>simp -implicitDefEqProofs (maxSteps:=2000000) [hP,hN])|refine X2 ?_ ?_|(refine Xd ?_ ?_<;>intro hcd<;>try exact Xx))
 |true=>
 rw [hk] at ck
 have cs:=Lv t hv
 have cf:=BW t p U hv hU
 obtain ⟨op,hop⟩ : ∃ op,t.cells.map gY=op:=⟨_,rfl⟩
 rw [hop] at cs cf
 have hz:=bc.1 (cO hv)
 have hUl:=hU.len
 have hbl:=du hv
 refine Dp Tryz.func15 ?_
 intro C hP hN
 simp only [Tryz.f15] at hN ⊢
 with_reducible repeat' (first|refine Sp.h ?_|((first|refine Ss.h ?_|refine Sc.h (cv) ?_|refine Sc.h (ch) ?_|refine Sc.h (ck) ?_|refine Sc.h (cs) ?_|refine Sc.h (cf) ?_|(refine Sb.h ?_ ?_ ?_<;>(try intro hgd)<;>try exact Xy))<;>simp -implicitDefEqProofs (maxSteps:=2000000) [hP,hN])|refine X2 ?_ ?_|(refine Xd ?_ ?_<;>intro hcd<;>try exact Xx))
 refine WP.loopN [] t.cells.length (fun i st=>st.t 2=.pv (zs q)∧st.t 7=.ptr 7 0∧st.t 31=.pv (.sl (U.map B))∧st.t 32=.pv (Z t.cells.length)∧st.t 33=.pv (Z i)∧st.h 7=some (.box [.pv (.sl ((ah t).map iv)),.pv (.sl (op.map B))] true false)∧(∀ j,j < i→U[j]?=some true→dS t q j=false)) (by simp [hUl]) ?_
 rintro i st hi ⟨g2,g7,g31,g32,g33,hb7,hI⟩
 by_cases hlt : i < t.cells.length
 ·have hw:=ag hlt (by omega)
  have hiU : i < U.length:=by omega
  have hib : i < (ah t).length:=by omega
  obtain ⟨hbi,hbl2,_⟩:=dh hv (c:=(i : Int)) (by simpa using hlt)
  rw [Int.toNat_natCast] at hbi
  have hbi':=aD hbi hib
  have c2:=BD (aE t (i : Int)) q (by omega)
  have hno:=zU (t:=t) (U:=U) (q:=q) (i:=i)
  have hst : (U[i]?=some true→dS t q i=false)→∀ j,j < i+1→U[j]?=some true→dS t q j=false:=fun h j hj hu=>by
   by_cases e : j=i
   ·subst e;exact h hu
   ·exact hI j (by omega) hu
  have hT : dS t q i=bO (aE t (i : Int)) q:=rfl
  rw [hT] at hno hst
  rcases ub hiU with hm|hm
  ·unfold ff at hm
   have hm':=aD hm hiU
   cases h9 : bO (aE t (i : Int)) q with
   |true=>
    rw [h9] at c2 hno
    have:=hno hm hlt rfl
    rw [this]
    with_reducible repeat' (first|refine Sp.h ?_|((first|refine Ss.h ?_|refine Sc.h (c2) ?_|(refine Sb.h ?_ ?_ ?_<;>(try intro hgd)<;>try exact Xy))<;>simp -implicitDefEqProofs (maxSteps:=2000000) [hP,hN,g2,g7,g31,g32,g33,hb7,hlt,hw,hm,hm',hiU,hib,hbi,hbi'])|refine X2 ?_ ?_|(refine Xd ?_ ?_<;>intro hcd<;>try exact Xx))
   |false=>
    rw [h9] at c2 hst
    have:=hst (fun _=>rfl)
    with_reducible repeat' (first|refine Sp.h ?_|((first|refine Ss.h ?_|refine Sc.h (c2) ?_|(refine Sb.h ?_ ?_ ?_<;>(try intro hgd)<;>try exact Xy))<;>simp -implicitDefEqProofs (maxSteps:=2000000) [hP,hN,g2,g7,g31,g32,g33,hb7,hlt,hw,hm,hm',hiU,hib,hbi,hbi'])|refine X2 ?_ ?_|(refine Xd ?_ ?_<;>intro hcd<;>try exact Xx))
    all_goals exact this
  ·have hm':=aD hm hiU
   have:=hst (fun h=>by rw [hm] at h;cases h)
   with_reducible repeat' (first|refine Sp.h ?_|((first|refine Ss.h ?_|(refine Sb.h ?_ ?_ ?_<;>(try intro hgd)<;>try exact Xy))<;>simp -implicitDefEqProofs (maxSteps:=2000000) [hP,hN,g2,g7,g31,g32,g33,hb7,hlt,hw,hm,hm',hiU])|refine X2 ?_ ?_|(refine Xd ?_ ?_<;>intro hcd<;>try exact Xx))
   all_goals exact this
 ·have:=xy (fun j hj=>hI j (by omega))
  rw [this]
  with_reducible repeat' (first|refine Sp.h ?_|((first|refine Ss.h ?_|(refine Sb.h ?_ ?_ ?_<;>(try intro hgd)<;>try exact Xy))<;>simp -implicitDefEqProofs (maxSteps:=2000000) [hP,hN,g2,g7,g31,g32,g33,hb7,hlt])|refine X2 ?_ ?_|(refine Xd ?_ ?_<;>intro hcd<;>try exact Xx))
def fH (cs : List Cel) : Nat:=cs.countP fG
theorem Ly (t : Tr) (hl : t.cells.length≤9223372036854775807) : ab Tryz.prog 16 [.pv (bT t)] [] [] (.pv (Z (fH t.cells))):=by
 refine Dp Tryz.func16 ?_
 intro C hP hN
 simp only [Tryz.f16] at hN ⊢
 with_reducible repeat' (first|refine Sp.h ?_|((first|refine Ss.h ?_|(refine Sb.h ?_ ?_ ?_<;>(try intro hgd)<;>try exact Xy))<;>simp -implicitDefEqProofs (maxSteps:=2000000) [hP,hN])|refine X2 ?_ ?_|(refine Xd ?_ ?_<;>intro hcd<;>try exact Xx))
 refine WP.loopN [5] t.cells.length (fun i st=>st.t 3=.pv (Z (fH (t.cells.take i)))∧st.t 7=.pv (.sl (t.cells.map br))∧st.t 8=.pv (Z t.cells.length)∧st.t 9=.pv (Z i)∧st.h 5=none) (by simp [fH]) ?_
 rintro i st hi ⟨g3,g7,g8,g9,hb5⟩
 by_cases hlt : i < t.cells.length
 ·have hw:=ag hlt (by omega)
  have hsz : fH (t.cells.take (i+1))=fH (t.cells.take i)+(if fG t.cells[i] then 1 else 0):=by
   rw [fH,fH,List.take_succ_eq_append_getElem hlt,List.countP_append,List.countP_cons,List.countP_nil];omega
  have hszl : fH (t.cells.take i)≤i:=by
   have : fH (t.cells.take i)≤(t.cells.take i).length:=List.countP_le_length
   rw [List.length_take] at this;omega
  generalize hc : t.cells[i]=c at *
  have hci : t.cells[i]?=some c:=by rw [List.getElem?_eq_getElem hlt,hc]
  have cc:=Ey c
  have hws : IntKind.i64.wrap ((fH (t.cells.take i) : Int)+1)=(fH (t.cells.take i) : Int)+1:=aa
  cases hb : fG c with
  |true=>
   rw [hb] at cc hsz
   with_reducible repeat' (first|refine Sp.h ?_|((first|refine Ss.h ?_|refine Sc.h (cc) ?_|(refine Sb.h ?_ ?_ ?_<;>(try intro hgd)<;>try exact Xy))<;>simp -implicitDefEqProofs (maxSteps:=2000000) [hP,hN,g3,g7,g8,g9,hb5,hlt,hw,hci,hc,hws])|refine X2 ?_ ?_|(refine Xd ?_ ?_<;>intro hcd<;>try exact Xx))
   all_goals simp [hsz]
  |false=>
   rw [hb] at cc hsz
   with_reducible repeat' (first|refine Sp.h ?_|((first|refine Ss.h ?_|refine Sc.h (cc) ?_|(refine Sb.h ?_ ?_ ?_<;>(try intro hgd)<;>try exact Xy))<;>simp -implicitDefEqProofs (maxSteps:=2000000) [hP,hN,g3,g7,g8,g9,hb5,hlt,hw,hci,hc,hws])|refine X2 ?_ ?_|(refine Xd ?_ ?_<;>intro hcd<;>try exact Xx))
   all_goals simp [hsz]
 ·have e : t.cells.take i=t.cells:=List.take_of_length_le (by omega)
  rw [e] at g3
  with_reducible repeat' (first|refine Sp.h ?_|((first|refine Ss.h ?_|(refine Sb.h ?_ ?_ ?_<;>(try intro hgd)<;>try exact Xy))<;>simp -implicitDefEqProofs (maxSteps:=2000000) [hP,hN,g3,g7,g8,g9,hb5,hlt])|refine X2 ?_ ?_|(refine Xd ?_ ?_<;>intro hcd<;>try exact Xx))
end Go.Ab
namespace Go.Ab
open Go.Proofs
theorem BX {a b : Bx} (ha : aL vI a=true) (hb : aL vI b=true) : dB a b=dB b a:=by
 rw [Bool.eq_iff_iff,n8 ha hb,n8 hb ha]
 exact ⟨fun ⟨h1,h2⟩=>⟨h1.symm,fun i x y hx hy=>(h2 i y x hy hx).symm⟩,fun ⟨h1,h2⟩=>⟨h1.symm,fun i x y hx hy=>(h2 i y x hy hx).symm⟩⟩
theorem zi {t : Tr} (hv : au t=true) {i j : Nat} (hi : i < t.cells.length) (hj : j < t.cells.length) : l9 t i j=l9 t j i:=by
 obtain ⟨_,_,v1⟩:=dh hv (c:=(i : Int)) (by simpa using hi)
 obtain ⟨_,_,v2⟩:=dh hv (c:=(j : Int)) (by simpa using hj)
 exact BX v1 v2
set_option maxRecDepth 10000 in
theorem Lz (t : Tr) (p : List Int) (V : List Bool) (hl : t.cells.length≤9223372036854775807) (hr : t.root.length≤9223372036854775807) (hp : p.length≤9223372036854775807) (hV : qS t p V) : ab Tryz.prog 68 [.pv (bT t),.pv (zs p)] [] [] (.pv (.sl ((AM t p V).map B))):=by
 have cb:=yA t hl
 have ch:=vu t.root p hr hp
 rw [mG] at ch
 unfold AM rK
 cases hv : au t with
 |false=>
  rw [hv] at cb
  refine Dp Tryz.func68 ?_
  intro C hP hN
  simp only [Tryz.f68] at hN ⊢
  exact Gy
 |true=>
 rw [hv] at cb
 cases hh : bO t.root p with
 |false=>
  rw [hh] at ch
  refine Dp Tryz.func68 ?_
  intro C hP hN
  simp only [Tryz.f68] at hN ⊢
  exact Gy
 |true=>
 rw [hh] at ch
 have hz:=bc.1 (cO hv)
 have hbl:=du hv
 have hbg : ∀ i,i < t.cells.length→(ah t)[i]?=some (aE t (i : Int))∧(aE t (i : Int)).length≤9223372036854775807:=fun i hi=>by
  obtain ⟨a,b,_⟩:=dh hv (c:=(i : Int)) (by simpa using hi)
  exact ⟨by simpa using a,by omega⟩
 obtain ⟨n,hnn⟩ : ∃ n,t.cells.length=n:=⟨_,rfl⟩
 have hfi:=zK n (dO t) (l9 t) (fun i=>dO t i && dS t p i)
 have hS : (fun i=>i < n∧(dO t i && dS t p i)=true)=pC t p:=by funext i;simp [pC,hnn]
 rw [hS] at hfi
 unfold qS at hV
 have hsw:=fun i j hi hj=>zi hv (i:=i) (j:=j) hi hj
 rw [hnn] at hV hz hl hsw
 have hbl' : (ah t).length=n:=by omega
 refine Dp Tryz.func68 ?_
 intro C hP hN
 simp only [Tryz.f68] at hN ⊢
 with_reducible repeat' (first|refine Sp.h ?_|((first|refine Wh [8] ?_|refine Wi [8] ?_|refine Ss.h ?_|refine Sc.h (cb) ?_|refine Sc.h (ch) ?_|(refine Sb.h ?_ ?_ ?_<;>(try intro hgd)<;>try exact Xy))<;>simp -implicitDefEqProofs (maxSteps:=2000000) [hP,hN,hbl',show (1 : Int) * n≤281474976710656 by omega,show (n : Int)≤281474976710656 by omega,show (n : Int)≤9223372036854775807 by omega]<;>try refine Ya ?_)|refine X2 ?_ ?_|(refine Xd ?_ ?_<;>intro hcd<;>try exact Xx))
 refine WP.loopN [] n (fun i st=>st.t 1=.pv (zs p)∧st.t 2=.ptr 2 0∧st.t 5=.pv (.sl ((ah t).map iv))∧st.t 7=.arr 28 n∧st.t 8=.arr 8 (fF (fun i=>dO t i && dS t p i) i).length∧st.t 9=.pv (Z i)∧st.h 2=some (.box [.pv (iv t.root),.pv (.sl (t.cells.map br))] true false)∧st.h 28=some (.row 4 1 ((fU n (fun i=>dO t i && dS t p i) i).map B) 0)∧st.h 8=some (.row 3 1 ((fF (fun i=>dO t i && dS t p i) i).map zN) 0)) (by simp [zJ,fF]) ?_
 rintro i st hi ⟨g1,g2,g5,g7,g8,g9,hb2,hb28,hb8⟩
 have hUl:=xr n (fun i=>dO t i && dS t p i) i
 have hFl:=xu (fun i=>dO t i && dS t p i) i
 by_cases hlt : i < n
 ·have hw:=ag hlt (by omega)
  have hic : i < t.cells.length:=by omega
  have hib : i < (ah t).length:=by omega
  obtain ⟨hbi,hbil⟩:=hbg i hic
  have hbi':=aD hbi hib
  have c2:=vu (aE t (i : Int)) p hbil hp
  rw [mG] at c2
  have hT : dS t p i=bO (aE t (i : Int)) p:=rfl
  generalize hc : t.cells[i]=c at *
  have hci : t.cells[i]?=some c:=by rw [List.getElem?_eq_getElem hic,hc]
  have hO : dO t i=(aI c && !(c.v.kind==2)):=by simp only [dO,hci,gY,fG];cases aI c<;>simp
  have cl:=uA c
  have hUn:=Et (n:=n) (s:=fun i=>dO t i && dS t p i) (i:=i)
  have hFn:=Eu (s:=fun i=>dO t i && dS t p i) (i:=i)
  have hUy:=BO (n:=n) (s:=fun i=>dO t i && dS t p i) hlt
  have hFy:=BP (s:=fun i=>dO t i && dS t p i) (i:=i)
  simp only [hO,hT] at hUn hFn hUy hFy
  generalize fU n (fun i=>dO t i && dS t p i) i=U at *
  generalize fU n (fun i=>dO t i && dS t p i) (i+1)=U' at *
  generalize fF (fun i=>dO t i && dS t p i) i=F at *
  generalize fF (fun i=>dO t i && dS t p i) (i+1)=F' at *
  have hiU : i < U.length:=by omega
  cases hlf : aI c with
  |false=>
   rw [hlf] at cl hUn hFn
   have e1:=hUn (by simp)
   have e2:=hFn (by simp)
   subst e1;subst e2
   exact Gy
  |true=>
  rw [hlf] at cl hUn hFn hUy hFy
  cases hkd : (c.v.kind==2) with
  |true=>
   rw [hkd] at hUn hFn
   have e1:=hUn (by simp)
   have e2:=hFn (by simp)
   subst e1;subst e2
   have hkd2 : (c.v.kind !=2)=false:=by simp [bne,hkd]
   exact Gy
  |false=>
  rw [hkd] at hUn hFn hUy hFy
  have hkd2 : (c.v.kind !=2)=true:=by simp [bne,hkd]
  cases h9 : bO (aE t (i : Int)) p with
  |false=>
   rw [h9] at c2 hUn hFn
   have e1:=hUn (by simp)
   have e2:=hFn (by simp)
   subst e1;subst e2
   exact Gy
  |true=>
   rw [h9] at c2 hUy hFy
   have e1:=hUy rfl
   have e2:=hFy rfl
   with_reducible repeat' (first|refine Sp.h ?_|((first|refine Wd ?_|refine Ss.h ?_|refine Sc.h (cl) ?_|refine Sc.h (c2) ?_|(refine Sb.h ?_ ?_ ?_<;>(try intro hgd)<;>try exact Xy))<;>simp -implicitDefEqProofs (maxSteps:=2000000) [hP,hN,g1,g2,g5,g7,g8,g9,hb2,hb28,hb8,hlt,hw,hbl',hic,hci,hc,hkd2,hib,hbi,hbi',hUl,hiU,show (F.length+1) * 8≤140737488355328 by omega,show F.length+1≤9223372036854775807 by omega]<;>try refine Ya ?_)|refine X2 ?_ ?_|(refine Xd ?_ ?_<;>intro hcd<;>try exact Xx))
   all_goals simp [e2,← e1,List.map_set]
 have hi' : i=n:=by omega
 subst hi'
 have hUm:=t6 (fU i (fun i=>dO t i && dS t p i) i)
 generalize fU i (fun i=>dO t i && dS t p i) i=U0 at *
 generalize fF (fun i=>dO t i && dS t p i) i=F0 at *
 refine Gz ?_
 refine WP.loopN [] (F0.length+mj U0) (fun k st=>∃ (U : List Bool) (Q : List Nat),k≤Q.length∧FI i (dO t) (l9 t) (pC t p) U (Q.drop k)∧Q.length+mj U=F0.length+mj U0∧st.t 1=.pv (zs p)∧st.t 2=.ptr 2 0∧st.t 5=.pv (.sl ((ah t).map iv))∧st.t 7=.arr 28 i∧st.t 8=.arr 8 Q.length∧st.t 10=.pv (Z k)∧st.h 2=some (.box [.pv (iv t.root),.pv (.sl (t.cells.map br))] true false)∧st.h 28=some (.row 4 1 (U.map B) 0)∧st.h 8=some (.row 3 1 (Q.map zN) 0)) (by exact ⟨U0,F0,by omega,by simpa using hfi,rfl,by simp [g1,g2,g5,g7,g8,hb2,hb28,hb8]⟩) ?_
 clear g1 g2 g5 g7 g8 g9 hb2 hb28 hb8 st hi hlt hfi
 rintro k st hk ⟨U,Q,hkQ,hI,hcnt,g1,g2,g5,g7,g8,g10,hb2,hb28,hb8⟩
 have hUl':=hI.len
 by_cases hkl : k < Q.length
 ·have hwk : IntKind.i64.wrap ((k : Int)+1)=(k : Int)+1:=aa
  obtain ⟨x,hx⟩ : ∃ x,Q[k]?=some x:=⟨_,List.getElem?_eq_getElem hkl⟩
  have hx':=aD hx hkl
  have hdr : Q.drop k=x :: Q.drop (k+1):=by rw [← hx'];exact List.drop_eq_getElem_cons hkl
  have hxF : x ∈ Q.drop k:=by rw [hdr];simp
  have hxn:=BN hUl' (hI.mem x hxF)
  have hpop : FJ i (dO t) (l9 t) (pC t p) U (Q.drop (k+1)) x 0:=hI.pop hxF (fun m hm=>by rw [hdr] at hm;rcases List.mem_cons.1 hm with h|h;exact .inr h;exact .inl h) (fun m hm=>by rw [hdr];exact List.mem_cons_of_mem _ hm)
  refine Gz ?_
  refine WP.loopN [] i (fun j st=>∃ (U2 : List Bool) (Q2 : List Nat),FJ i (dO t) (l9 t) (pC t p) U2 (Q2.drop (k+1)) x j∧Q2.length+mj U2=F0.length+mj U0∧k < Q2.length∧Q2[k]?=some x∧st.t 1=.pv (zs p)∧st.t 2=.ptr 2 0∧st.t 5=.pv (.sl ((ah t).map iv))∧st.t 7=.arr 28 i∧st.t 8=.arr 8 Q2.length∧st.t 10=.pv (Z k)∧st.t 11=.pv (Z j)∧st.h 2=some (.box [.pv (iv t.root),.pv (.sl (t.cells.map br))] true false)∧st.h 28=some (.row 4 1 (U2.map B) 0)∧st.h 8=some (.row 3 1 (Q2.map zN) 0)) (by exact ⟨U,Q,hpop,hcnt,hkl,hx,by simp [g1,g2,g5,g7,g8,g10,hb2,hb28,hb8]⟩) ?_
  clear g1 g2 g5 g7 g8 g10 hb2 hb28 hb8 hpop
  rintro j st' hj ⟨U2,Q2,hJ,hcnt2,hkl2,hx2,y1,y2,y5,y7,y8,y10,y11,yb2,yb28,yb8⟩
  have hU2:=hJ.len
  have hU2m:=t6 U2
  have hx2':=aD hx2 hkl2
  by_cases hjl : j < i
  ·have hw:=ag hjl (by omega)
   have hjU : j < U2.length:=by omega
   have hjc : j < t.cells.length:=by omega
   have hxc : x < t.cells.length:=by omega
   have hjb : j < (ah t).length:=by omega
   have hxb : x < (ah t).length:=by omega
   obtain ⟨hbj,hbjl⟩:=hbg j hjc
   obtain ⟨hbx,hbxl⟩:=hbg x hxc
   have hbj':=aD hbj hjb
   have hbx':=aD hbx hxb
   have ct:=Ic (aE t (j : Int)) (aE t (x : Int)) hbjl hbxl
   rw [vD] at ct
   have hT : l9 t x j=dB (aE t (j : Int)) (aE t (x : Int)):=hsw x j (by omega) hjl
   generalize hc : t.cells[j]=c at *
   have hci : t.cells[j]?=some c:=by rw [List.getElem?_eq_getElem hjc,hc]
   have hO : dO t j=(aI c && !(c.v.kind==2)):=by simp only [dO,hci,gY,fG];cases aI c<;>simp
   have cl:=uA c
   have hskip:=hJ.skip
   have hadd:=hJ.add hjl
   rw [hO,hT] at hskip hadd
   rcases ub hjU with hm|hm
   ·have hs:=hskip (fun _ _=>hm)
    unfold ff at hm
    have hm':=aD hm hjU
    refine Gz ?_
    all_goals exact ⟨U2,Q2,hs,hcnt2,hkl2,hx2,rfl,rfl,rfl⟩
   have hm':=aD hm hjU
   have hu:=uQ hm
   cases hlf : aI c with
   |false=>
    rw [hlf] at cl hskip
    have hs:=hskip (by simp)
    refine Gz ?_
    all_goals exact ⟨U2,Q2,hs,hcnt2,hkl2,hx2,rfl,rfl,rfl⟩
   |true=>
   rw [hlf] at cl hskip hadd
   cases hkd : (c.v.kind==2) with
   |true=>
    rw [hkd] at hskip
    have hs:=hskip (by simp)
    have hkd2 : (c.v.kind !=2)=false:=by simp [bne,hkd]
    refine Gz ?_
    all_goals exact ⟨U2,Q2,hs,hcnt2,hkl2,hx2,rfl,rfl,rfl⟩
   |false=>
   rw [hkd] at hskip hadd
   have hkd2 : (c.v.kind !=2)=true:=by simp [bne,hkd]
   cases h9 : dB (aE t (j : Int)) (aE t (x : Int)) with
   |false=>
    rw [h9] at ct hskip
    have hs:=hskip (by simp)
    refine Gz ?_
    all_goals exact ⟨U2,Q2,hs,hcnt2,hkl2,hx2,rfl,rfl,rfl⟩
   |true=>
    rw [h9] at ct hadd
    have hs:=hadd rfl rfl
    have hdd : (Q2++[j]).drop (k+1)=Q2.drop (k+1)++[j]:=List.drop_append_of_le_length (by omega)
    rw [← hdd] at hs
    have hx3 : (Q2++[j])[k]?=some x:=by rw [List.getElem?_append_left hkl2];exact hx2
    with_reducible repeat' (first|refine Sp.h ?_|((first|refine Wd ?_|refine Ss.h ?_|refine Sc.h (cl) ?_|refine Sc.h (ct) ?_|(refine Sb.h ?_ ?_ ?_<;>(try intro hgd)<;>try exact Xy))<;>simp -implicitDefEqProofs (maxSteps:=2000000) [hP,hN,y1,y2,y5,y7,y8,y10,y11,yb2,yb28,yb8,hjl,hw,hbl',hm,hm',hU2,hjU,hjc,hci,hc,hkd2,hjb,hxb,hbj,hbx,hbj',hbx',hx2,hx2',hkl2,show (Q2.length+1) * 8≤140737488355328 by omega,show Q2.length+1≤9223372036854775807 by omega]<;>try refine Ya ?_)|refine X2 ?_ ?_|(refine Xd ?_ ?_<;>intro hcd<;>try exact Xx))
    all_goals exact ⟨U2.set j true,Q2++[j],hs,by simp;omega,by simp;omega,hx3,by simp,by simp [List.map_set],by simp⟩
  ·have hj' : j=i:=by omega
   subst hj'
   have hd:=hJ.done
   refine Gz ?_
   all_goals exact ⟨by omega,U2,Q2,by omega,hd,hcnt2,rfl,rfl,rfl⟩
 ·have hd : Q.drop k=[]:=List.drop_eq_nil_of_le (by omega)
  rw [hd] at hI
  have hUV : U=V:=t5 hI.fin hV
  subst hUV
  exact Gy
set_option maxRecDepth 10000 in
theorem Gb (t : Tr) (p q : List Int) (U : List Bool) (hl : t.cells.length≤9223372036854775807) (hr : t.root.length≤9223372036854775807) (hp : p.length≤9223372036854775807) (hq : q.length≤9223372036854775807) (hU : qS t p U) : ab Tryz.prog 31 [.pv (bT t),.pv (zs p),.pv (zs q)] [] [] (.pv (B (gP t p q U))):=by
 have cf:=Lz t p U hl hr hp hU
 have ck:=vu t.root q hr hq
 have cb:=yA t hl
 rw [mG] at ck
 unfold gP
 have hff : rK t p=(au t && bO t.root p):=rfl
 rw [← hff]
 cases hF : rK t p with
 |false=>
  rw [AM,hF] at cf
  refine Dp Tryz.func31 ?_
  intro C hP hN
  simp only [Tryz.f31] at hN ⊢
  exact Gy
 |true=>
 rw [AM,hF,if_pos rfl] at cf
 have hv : au t=true:=by rw [hff] at hF;simp at hF;exact hF.1
 rw [hv] at cb
 have hz:=bc.1 (cO hv)
 have hUl:=hU.len
 have hbl:=du hv
 have hU0 : ((t.cells.length : Int)==0)=false:=by simp;intro h;rw [h] at hz;simp at hz
 cases hk : bO t.root q with
 |false=>
  rw [hk] at ck
  refine Dp Tryz.func31 ?_
  intro C hP hN
  simp only [Tryz.f31] at hN ⊢
  exact Gy
 |true=>
 rw [hk] at ck
 refine Dp Tryz.func31 ?_
 intro C hP hN
 simp only [Tryz.f31] at hN ⊢
 refine Gz ?_
 refine WP.loopN [] t.cells.length (fun i st=>st.t 2=.pv (zs q)∧st.t 7=.pv (.sl (U.map B))∧st.t 8=.pv (.sl ((ah t).map iv))∧st.t 10=.pv (Z i)∧(∀ j,j < i→U[j]?=some true→dS t q j=false)) (by simp) ?_
 rintro i st hi ⟨g2,g7,g8,g10,hI⟩
 by_cases hlt : i < t.cells.length
 ·have hw:=ag hlt (by omega)
  have hiU : i < U.length:=by omega
  have hib : i < (ah t).length:=by omega
  obtain ⟨hbi,hbl2,_⟩:=dh hv (c:=(i : Int)) (by simpa using hlt)
  rw [Int.toNat_natCast] at hbi
  have hbi':=aD hbi hib
  have c2:=vu (aE t (i : Int)) q (by omega) hq
  rw [mG] at c2
  have hno:=zU (t:=t) (U:=U) (q:=q) (i:=i)
  have hst : (U[i]?=some true→dS t q i=false)→∀ j,j < i+1→U[j]?=some true→dS t q j=false:=fun h j hj hu=>by
   by_cases e : j=i
   ·subst e;exact h hu
   ·exact hI j (by omega) hu
  have hT : dS t q i=bO (aE t (i : Int)) q:=rfl
  rw [hT] at hno hst
  rcases ub hiU with hm|hm
  ·unfold ff at hm
   have hm':=aD hm hiU
   cases h9 : bO (aE t (i : Int)) q with
   |true=>
    rw [h9] at c2 hno
    have:=hno hm hlt rfl
    rw [this]
    exact Gy
   |false=>
    rw [h9] at c2 hst
    have:=hst (fun _=>rfl)
    refine Gz ?_
    all_goals exact this
  ·have hm':=aD hm hiU
   have:=hst (fun h=>by rw [hm] at h;cases h)
   refine Gz ?_
   all_goals exact this
 ·have:=xy (fun j hj=>hI j (by omega))
  rw [this]
  exact Gy
end Go.Ab
namespace Go.Ab
open Go.Proofs
abbrev U (n : Int) : PV:=.val (.int .u64 n)
theorem jq {n : Int} (h : 0≤n) (h' : n < 18446744073709551616) : IntKind.u64.wrap n=n:=by
 simp only [IntKind.wrap,IntKind.signed,IntKind.bits]
 simp
 omega
theorem sO {a : Int} (h : 0≤a) (h' : a < 18446744073709551616) : qw .and .u64 a 4294967295=a % 4294967296:=by
 obtain ⟨n,rfl⟩ : ∃ n : Nat,a=n:=⟨a.toNat,by omega⟩
 unfold qw
 have e : (BitVec.ofInt IntKind.u64.bits (n : Int) &&& BitVec.ofInt IntKind.u64.bits 4294967295).toNat=n % 4294967296:=by
  rw [BitVec.toNat_and]
  have e1 : (BitVec.ofInt IntKind.u64.bits (n : Int)).toNat=n:=by
   simp only [IntKind.bits,BitVec.toNat_ofInt];omega
  have e2 : (BitVec.ofInt IntKind.u64.bits 4294967295).toNat=2 ^ 32 - 1:=by decide
  rw [e1,e2,Nat.and_two_pow_sub_one_eq_mod]
 simp only [e]
 rw [jq (by omega) (by omega)]
 omega
def ud (x y : Int) : Int:=x * y / 18446744073709551616
def xA (x y : Int) : Int:=x * y % 18446744073709551616
theorem vG {x0 x1 y0 y1 : Int} (h1 : 0≤x0) (h2 : x0 < 4294967296) (h3 : 0≤x1) (h4 : x1 < 4294967296) (h5 : 0≤y0) (h6 : y0 < 4294967296) (h7 : 0≤y1) (h8 : y1 < 4294967296) :
 0≤x0 * y0∧x0 * y0≤18446744065119617025∧0≤x1 * y0∧x1 * y0≤18446744065119617025∧0≤x0 * y1∧x0 * y1≤18446744065119617025∧0≤x1 * y1∧x1 * y1≤18446744065119617025:=by
 have key : ∀ {a b : Int},0≤a→a < 4294967296→0≤b→b < 4294967296→0≤a * b∧a * b≤18446744065119617025:=by
  intro a b ha ha' hb hb'
  refine ⟨Int.mul_nonneg ha hb,?_⟩
  have:=Int.mul_le_mul (show a≤4294967295 by omega) (show b≤4294967295 by omega) hb (by decide)
  simpa using this
 have a:=key h1 h2 h5 h6
 have b:=key h3 h4 h5 h6
 have c:=key h1 h2 h7 h8
 have d:=key h3 h4 h7 h8
 exact ⟨a.1,a.2,b.1,b.2,c.1,c.2,d.1,d.2⟩
theorem Gc {x0 x1 y0 y1 : Int} (h1 : 0≤x0) (h2 : x0 < 4294967296) (h3 : 0≤x1) (h4 : x1 < 4294967296) (h5 : 0≤y0) (h6 : y0 < 4294967296) (h7 : 0≤y1) (h8 : y1 < 4294967296) :
 (x1 * 4294967296+x0) * (y1 * 4294967296+y0) / 18446744073709551616=x1 * y1+(x1 * y0+x0 * y0 / 4294967296) / 4294967296+((x1 * y0+x0 * y0 / 4294967296) % 4294967296+x0 * y1) / 4294967296:=by
 obtain ⟨a1,a2,b1,b2,c1,c2,d1,d2⟩:=vG h1 h2 h3 h4 h5 h6 h7 h8
 have e : (x1 * 4294967296+x0) * (y1 * 4294967296+y0)=x1 * y1 * 18446744073709551616+(x1 * y0) * 4294967296+(x0 * y1) * 4294967296+x0 * y0:=by
  rw [Int.add_mul,Int.mul_add,Int.mul_add]
  have e1 : x1 * 4294967296 * (y1 * 4294967296)=x1 * y1 * 18446744073709551616:=by
   rw [show (18446744073709551616 : Int)=4294967296 * 4294967296 by decide];ac_rfl
  have e2 : x1 * 4294967296 * y0=x1 * y0 * 4294967296:=by ac_rfl
  have e3 : x0 * (y1 * 4294967296)=x0 * y1 * 4294967296:=by ac_rfl
  omega
 rw [e]
 generalize x0 * y0=a at *
 generalize x1 * y0=b at *
 generalize x0 * y1=c at *
 generalize x1 * y1=d at *
 omega
set_option maxRecDepth 10000 in
theorem Ik (x y : Int) (h1 : 0≤x) (h2 : x < 18446744073709551616) (h3 : 0≤y) (h4 : y < 18446744073709551616) : ab Tryz.prog 76 [.pv (U x),.pv (U y)] [] [] (.pv (.tup [U (ud x y),U (xA x y)])):=by
 have ax:=sO h1 h2
 have ay:=sO h3 h4
 obtain ⟨x0,hx0⟩ : ∃ x0,x % 4294967296=x0:=⟨_,rfl⟩
 obtain ⟨x1,hx1⟩ : ∃ x1,x / 4294967296=x1:=⟨_,rfl⟩
 obtain ⟨y0,hy0⟩ : ∃ y0,y % 4294967296=y0:=⟨_,rfl⟩
 obtain ⟨y1,hy1⟩ : ∃ y1,y / 4294967296=y1:=⟨_,rfl⟩
 obtain ⟨a1,a2,b1,b2,c1,c2,d1,d2⟩:=vG (x0:=x0) (x1:=x1) (y0:=y0) (y1:=y1) (by omega) (by omega) (by omega) (by omega) (by omega) (by omega) (by omega) (by omega)
 have hhi:=Gc (x0:=x0) (x1:=x1) (y0:=y0) (y1:=y1) (by omega) (by omega) (by omega) (by omega) (by omega) (by omega) (by omega) (by omega)
 rw [show x1 * 4294967296+x0=x by omega,show y1 * 4294967296+y0=y by omega] at hhi
 have fx : x.fdiv 4294967296=x1:=by rw [Int.fdiv_eq_ediv_of_nonneg _ (by decide)];exact hx1
 have fy : y.fdiv 4294967296=y1:=by rw [Int.fdiv_eq_ediv_of_nonneg _ (by decide)];exact hy1
 have w1 : IntKind.u64.wrap (x0 * y0)=x0 * y0:=jq a1 (by omega)
 have f1 : (x0 * y0).fdiv 4294967296=x0 * y0 / 4294967296:=Int.fdiv_eq_ediv_of_nonneg _ (by decide)
 have w2 : IntKind.u64.wrap (x1 * y0)=x1 * y0:=jq b1 (by omega)
 obtain ⟨t,ht⟩ : ∃ t,x1 * y0+x0 * y0 / 4294967296=t:=⟨_,rfl⟩
 have w3 : IntKind.u64.wrap (x1 * y0+x0 * y0 / 4294967296)=t:=by rw [ht];exact jq (by omega) (by omega)
 have at_:=sO (a:=t) (by omega) (by omega)
 have ft : t.fdiv 4294967296=t / 4294967296:=Int.fdiv_eq_ediv_of_nonneg _ (by decide)
 have w4 : IntKind.u64.wrap (x0 * y1)=x0 * y1:=jq c1 (by omega)
 have w5 : IntKind.u64.wrap (t % 4294967296+x0 * y1)=t % 4294967296+x0 * y1:=jq (by omega) (by omega)
 have f5 : (t % 4294967296+x0 * y1).fdiv 4294967296=(t % 4294967296+x0 * y1) / 4294967296:=Int.fdiv_eq_ediv_of_nonneg _ (by decide)
 have w6 : IntKind.u64.wrap (x1 * y1)=x1 * y1:=jq d1 (by omega)
 have w7 : IntKind.u64.wrap (x1 * y1+t / 4294967296)=x1 * y1+t / 4294967296:=jq (by omega) (by omega)
 rw [ht] at hhi
 have hlt : x * y / 18446744073709551616 < 18446744073709551616:=by
  have : x * y≤18446744073709551615 * 18446744073709551615:=Int.mul_le_mul (by omega) (by omega) h3 (by decide)
  omega
 have hnn : 0≤x * y / 18446744073709551616:=Int.ediv_nonneg (Int.mul_nonneg h1 h3) (by decide)
 have w8 : IntKind.u64.wrap (x1 * y1+t / 4294967296+(t % 4294967296+x0 * y1) / 4294967296)=ud x y:=by
  rw [ud,hhi]
  rw [hhi] at hlt hnn
  exact jq hnn hlt
 have w9 : IntKind.u64.wrap (x * y)=xA x y:=by
  simp only [IntKind.wrap,IntKind.signed,IntKind.bits,xA];simp
 rw [hx0] at ax
 rw [hy0] at ay
 refine Dp Tryz.func76 ?_
 intro C hP hN
 simp only [Tryz.f76] at hN ⊢
 with_reducible repeat' (first|refine Sp.h ?_|((first|refine Ss.h ?_|(refine Sb.h ?_ ?_ ?_<;>(try intro hgd)<;>try exact Xy))<;>simp -implicitDefEqProofs (maxSteps:=2000000) [hP,hN,ax,ay,fx,fy,w1,f1,w2,w3,at_,ft,w4,w5,f5,w6,w7,w8,w9,IntKind.bits])|refine X2 ?_ ?_|(refine Xd ?_ ?_<;>intro hcd<;>try exact Xx))
abbrev Fr:=Int × Int
def kg (f g : Fr) : Bool:=decide (f.1 * g.2 < g.1 * f.2)
def BY (f : Fr) : Prop:=0≤f.1∧f.1 < 9223372036854775808∧0≤f.2∧f.2 < 9223372036854775808
theorem Gd {u v : Int} : (decide (u / 18446744073709551616 < v / 18446744073709551616) || ((u / 18446744073709551616==v / 18446744073709551616) && decide (u % 18446744073709551616 < v % 18446744073709551616)))=decide (u < v):=by
 rw [Bool.eq_iff_iff]
 simp only [Bool.or_eq_true,Bool.and_eq_true,decide_eq_true_eq,beq_iff_eq]
 omega
theorem zV (f g : Fr) (hf : BY f) (hg : BY g) : ab Tryz.prog 43 [.pv (av f),.pv (av g)] [] [] (.pv (B (kg f g))):=by
 obtain ⟨f1,f2,f3,f4⟩:=hf
 obtain ⟨g1,g2,g3,g4⟩:=hg
 have c1:=Ik f.1 g.2 f1 (by omega) g3 (by omega)
 have c2:=Ik g.1 f.2 g1 (by omega) f3 (by omega)
 have k1 : IntKind.u64.wrap f.1=f.1:=jq f1 (by omega)
 have k2 : IntKind.u64.wrap f.2=f.2:=jq f3 (by omega)
 have k3 : IntKind.u64.wrap g.1=g.1:=jq g1 (by omega)
 have k4 : IntKind.u64.wrap g.2=g.2:=jq g3 (by omega)
 have hlex : kg f g=(decide (ud f.1 g.2 < ud g.1 f.2) || ((ud f.1 g.2==ud g.1 f.2) && decide (xA f.1 g.2 < xA g.1 f.2))):=(Gd (u:=f.1 * g.2) (v:=g.1 * f.2)).symm
 rw [hlex]
 generalize ud f.1 g.2=a at *
 generalize ud g.1 f.2=b at *
 generalize xA f.1 g.2=c at *
 generalize xA g.1 f.2=d at *
 refine Dp Tryz.func43 ?_
 intro C hP hN
 simp only [Tryz.f43] at hN ⊢
 with_reducible repeat' (first|refine Sp.h ?_|((first|refine Ss.h ?_|refine Sc.h (c1) ?_|refine Sc.h (c2) ?_|(refine Sb.h ?_ ?_ ?_<;>(try intro hgd)<;>try exact Xy))<;>simp -implicitDefEqProofs (maxSteps:=2000000) [hP,hN,k1,k2,k3,k4])|refine X2 ?_ ?_|(refine Xd ?_ ?_<;>intro hcd<;>try exact Xx))
 all_goals (simp_all)
end Go.Ab
namespace Go.Ab
open Go.Proofs
def fI (a b : Int) : Int:=(Int.gcd a b : Int)
theorem BZ {a b : Int} (hb : 0 < b) (ha : 0≤a) : fI b (a % b)=fI a b:=by
 unfold fI
 congr 1
 rw [Int.gcd_comm a b]
 obtain ⟨n,rfl⟩ : ∃ n : Nat,a=n:=⟨a.toNat,by omega⟩
 obtain ⟨m,rfl⟩ : ∃ m : Nat,b=m:=⟨b.toNat,by omega⟩
 rw [← Int.natCast_emod,Int.gcd_natCast_natCast,Int.gcd_natCast_natCast,Nat.gcd_comm m n,Nat.gcd_comm m (n % m),← Nat.gcd_rec,Nat.gcd_comm]
theorem B0 {a : Int} (ha : 0≤a) : fI a 0=a:=by
 unfold fI;simp;omega
def AN (f : Fr) : Fr:=(f.1 / fI f.1 f.2,f.2 / fI f.1 f.2)
theorem Dq {a b : Int} (hb : 0 < b) : 0 < fI a b:=by
 unfold fI
 have : 0 < Int.gcd a b:=Int.gcd_pos_of_ne_zero_right _ (by omega)
 omega
set_option maxRecDepth 10000 in
theorem LC (f : Fr) (ha : 0≤f.1) (hb : 0 < f.2) (h1 : f.1 < 9223372036854775808) (h2 : f.2 < 9223372036854775808) : ab Tryz.prog 44 [.pv (av f)] [] [] (.pv (av (AN f))):=by
 obtain ⟨a,b⟩:=f
 simp only at ha hb h1 h2
 have hgp:=Dq (a:=a) hb
 have q1 : a.tdiv (fI a b)=a / fI a b:=Int.tdiv_eq_ediv_of_nonneg ha
 have q2 : b.tdiv (fI a b)=b / fI a b:=Int.tdiv_eq_ediv_of_nonneg (by omega)
 have hn1:=Int.ediv_nonneg ha (show 0≤fI a b by omega)
 have hn2:=Int.ediv_nonneg (show 0≤b by omega) (show 0≤fI a b by omega)
 have hl1:=Int.ediv_le_self (fI a b) ha
 have hl2:=Int.ediv_le_self (fI a b) (show 0≤b by omega)
 have w1 : IntKind.i64.wrap (a / fI a b)=a / fI a b:=aa
 have w2 : IntKind.i64.wrap (b / fI a b)=b / fI a b:=aa
 have hg0 : ¬ fI a b=0:=by omega
 simp only [AN]
 generalize hG : fI a b=G at *
 refine Dp Tryz.func44 ?_
 intro C hP hN
 simp only [Tryz.f44] at hN ⊢
 with_reducible repeat' (first|refine Sp.h ?_|((first|refine Wd ?_|refine Ss.h ?_|(refine Sb.h ?_ ?_ ?_<;>(try intro hgd)<;>try exact Xy))<;>simp -implicitDefEqProofs (maxSteps:=2000000) [hP,hN]<;>try refine Ya ?_)|refine X2 ?_ ?_|(refine Xd ?_ ?_<;>intro hcd<;>try exact Xx))
 refine WP.loopN [] b.toNat (fun i st=>∃ x y : Int,0≤x∧0≤y∧y+i≤b∧fI x y=G∧st.t 3=.pv (Z x)∧st.t 4=.pv (Z y)∧st.t 1=.ptr 1 0∧st.t 2=.ptr 2 0∧st.h 1=some (.box [.pv (Z a),.pv (Z b)] true false)∧st.h 2=some (.box [.pv (Z 0),.pv (Z 0)] true false)) (by exact ⟨a,b,ha,by omega,by simp,hG,by simp⟩) ?_
 rintro i st hi ⟨x,y,hx,hy,hyi,hg,g3,g4,g1,g2,hb1,hb2⟩
 by_cases hlt : y=0
 ·subst hlt
  rw [B0 hx] at hg
  subst hg
  with_reducible repeat' (first|refine Sp.h ?_|((first|refine Wd ?_|refine Ss.h ?_|(refine Sb.h ?_ ?_ ?_<;>(try intro hgd)<;>try exact Xy))<;>simp -implicitDefEqProofs (maxSteps:=2000000) [hP,hN,g1,g2,g3,g4,hb1,hb2,q1,q2,w1,w2,hg0]<;>try refine Ya ?_)|refine X2 ?_ ?_|(refine Xd ?_ ?_<;>intro hcd<;>try exact Xx))
 ·have hm : x.tmod y=x % y:=Int.tmod_eq_emod_of_nonneg hx
  have h1:=Int.emod_nonneg x (show y≠0 by omega)
  have h2:=Int.emod_lt_of_pos x (show 0 < y by omega)
  have hs:=BZ (show 0 < y by omega) hx
  have hne : (y !=0)=true:=by simp [hlt]
  with_reducible repeat' (first|refine Sp.h ?_|((first|refine Wd ?_|refine Ss.h ?_|(refine Sb.h ?_ ?_ ?_<;>(try intro hgd)<;>try exact Xy))<;>simp -implicitDefEqProofs (maxSteps:=2000000) [hP,hN,g1,g2,g3,g4,hb1,hb2,hlt,hne,hm]<;>try refine Ya ?_)|refine X2 ?_ ?_|(refine Xd ?_ ?_<;>intro hcd<;>try exact Xx))
  all_goals (refine ⟨by omega,y,by omega,x % y,h1,by omega,by rw [hs];exact hg,rfl,rfl⟩)
end Go.Ab
