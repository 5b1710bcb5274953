/- The contracts and facts that the laws of this seat need, in one text (KR1, KL1, Ab32, K18, K19, KL2, RdW, KL3, KL4, PlR, KL5). -/
import Derived.Test.YtcalbhjelehlgaaGreatS8
set_option linter.all false
namespace Go.Ab
open Go.Proofs
def flR (a b : Int) : Int:=if a.tmod b < 0 then wr (wr (a.tdiv b) - 1) else wr (a.tdiv b)
theorem d103 (a b : Int) (hb : b≠0) : DetH Tryz.prog 103 [.pv (Z a),.pv (Z b)] [] [] (.pv (Z (flR a b))):=by
 refine detP_of Tryz.func103 rfl (by kernel_rfl) (by simp [Tryz.f103]) rfl ?_
 intro C hP hN
 simp only [Tryz.f103] at hN ⊢
 with_reducible repeat' (first|refine Sp.h ?_|((first|refine Ss.h ?_|(refine Sb.h ?_ ?_ ?_<;>(try intro hgd)<;>try exact Xy))<;>simp -implicitDefEqProofs (maxSteps:=2000000) [hP,hN,hb])|refine X2 ?_ ?_|(refine Xd ?_ ?_<;>intro hcd<;>try exact Xx))
 all_goals (first|(simp_all [flR];done)|((try simp_all [flR])<;>(try omega)<;>grind))
theorem ediv_uq {a b k : Int} (hb : 0 < b) (h1 : k * b≤a) (h2 : a < (k+1) * b) : a / b=k:=by
 have:=(Int.le_ediv_iff_mul_le hb).2 h1
 have:=(Int.ediv_lt_iff_lt_mul hb).2 h2
 omega
theorem ediv_bd {a b B : Int} (hb : 0 < b) (hB : 0≤B) (h1 : -B≤a) (h2 : a≤B) : -B≤a / b∧a / b≤B:=by
 constructor
 ·refine (Int.le_ediv_iff_mul_le hb).2 ?_
  have : B * 1≤B * b:=Int.mul_le_mul_of_nonneg_left (by omega) hB
  rw [Int.neg_mul];omega
 ·have h3 : a / b < B+1:=(Int.ediv_lt_iff_lt_mul hb).2 (by
   have : (B+1) * 1≤(B+1) * b:=Int.mul_le_mul_of_nonneg_left (by omega) (by omega)
   omega)
  omega
theorem flR_eq {a b : Int} (hb : 0 < b) (h1 : -4611686018427387904≤a) (h2 : a≤4611686018427387904) : flR a b=a / b:=by
 have hq:=Int.mul_tdiv_add_tmod a b
 have h3 : -b < a.tmod b:=Int.lt_tmod_of_pos a hb
 have h4 : a.tmod b < b:=Int.tmod_lt_of_pos a hb
 have hbd:=ediv_bd (a:=a) (b:=b) (B:=4611686018427387904) hb (by decide) h1 h2
 rw [Int.mul_comm] at hq
 unfold flR
 split
 ·have e : a / b=a.tdiv b - 1:=ediv_uq hb (by rw [Int.sub_mul];omega) (by rw [show a.tdiv b - 1+1=a.tdiv b by omega];omega)
  rw [wr_id (n:=a.tdiv b) (by omega) (by omega),wr_id (by omega) (by omega),e]
 ·have e : a / b=a.tdiv b:=ediv_uq hb (by omega) (by rw [Int.add_mul];omega)
  rw [wr_id (n:=a.tdiv b) (by omega) (by omega),e]
theorem d57 (x : Int × Int) : DetH Tryz.prog 57 [.pv (encI x)] [] [] (.pv (Z (midI x))):=by
 cases hv : validB x.1 x.2 with
 |false=>
  have hr : midI x=0:=by simp [midI,hv]
  rw [hr]
  refine detP_of Tryz.func57 rfl (by kernel_rfl) (by simp [Tryz.f57]) rfl ?_
  intro C hP hN
  simp only [Tryz.f57] at hN ⊢
  with_reducible repeat' (first|refine Sp.h ?_|((first|refine Ss.h ?_|refine Sc.h (d102 _ _) ?_|(refine Sb.h ?_ ?_ ?_<;>(try intro hgd)<;>try exact Xy))<;>simp -implicitDefEqProofs (maxSteps:=2000000) [hP,hN,hv])|refine X2 ?_ ?_|(refine Xd ?_ ?_<;>intro hcd<;>try exact Xx))
 |true=>
  have hb:=valid_iff.1 hv
  have hr : midI x=flR (wr (x.1+x.2)) 2:=by
   rw [midI,hv]
   simp only [if_true]
   rw [wr_id (by omega) (by omega),flR_eq (by decide) (by omega) (by omega),Int.fdiv_eq_ediv_of_nonneg _ (by decide)]
  rw [hr]
  refine detP_of Tryz.func57 rfl (by kernel_rfl) (by simp [Tryz.f57]) rfl ?_
  intro C hP hN
  simp only [Tryz.f57] at hN ⊢
  with_reducible repeat' (first|refine Sp.h ?_|((first|refine Ss.h ?_|refine Sc.h (d102 _ _) ?_|refine Sc.h (d103 _ _ (by decide)) ?_|(refine Sb.h ?_ ?_ ?_<;>(try intro hgd)<;>try exact Xy))<;>simp -implicitDefEqProofs (maxSteps:=2000000) [hP,hN,hv])|refine X2 ?_ ?_|(refine Xd ?_ ?_<;>intro hcd<;>try exact Xx))
set_option maxHeartbeats 4000000 in
theorem d21 (xs : List (Int × Int)) (hl : xs.length≤16777216) : DetH Tryz.prog 21 [.pv (iv xs)] [] [] (.pv (zs (middleL xs))):=by
 cases hv : allB vI xs with
 |false=>
  have hr : middleL xs=[]:=by simp [middleL,hv]
  rw [hr]
  refine detP_of Tryz.func21 rfl (by kernel_rfl) (by simp [Tryz.f21]) rfl ?_
  intro C hP hN
  simp only [Tryz.f21] at hN ⊢
  with_reducible repeat' (first|refine Sp.h ?_|((first|refine Ss.h ?_|refine Sc.h (d56 _ (big hl)) ?_|(refine Sb.h ?_ ?_ ?_<;>(try intro hgd)<;>try exact Xy))<;>simp -implicitDefEqProofs (maxSteps:=2000000) [hP,hN,hv])|refine X2 ?_ ?_|(refine Xd ?_ ?_<;>intro hcd<;>try exact Xx))
 |true=>
  have hr : middleL xs=xs.map midI:=by simp [middleL,hv]
  rw [hr]
  refine detP_of Tryz.func21 rfl (by kernel_rfl) (by simp [Tryz.f21]) rfl ?_
  intro C hP hN
  simp only [Tryz.f21] at hN ⊢
  with_reducible repeat' (first|refine Sp.h ?_|((first|refine Wh [3] ?_|refine Ss.h ?_|refine Sc.h (d56 _ (big hl)) ?_|(refine Sb.h ?_ ?_ ?_<;>(try intro hgd)<;>try exact Xy))<;>simp -implicitDefEqProofs (maxSteps:=2000000) [hP,hN,hv])|refine X2 ?_ ?_|(refine Xd ?_ ?_<;>intro hcd<;>try exact Xx))
  refine WP.loopN [] xs.length (fun i st=>st.t 0=.pv (iv xs)∧st.t 4=.pv (Z i)∧st.t 3=.arr 3 i∧st.h 3=some (.row 2 1 ((xs.map fun x=>Z (midI x)).take i) 0)) (by simp) ?_
  rintro i st hi ⟨g0,g4,g3,hb⟩
  by_cases hlt : i < xs.length
  ·have hw:=wr_succ hlt (big hl)
   have hz : min i xs.length=i:=by omega
   have hs:=take_map_step (f:=fun x=>Z (midI x)) hlt
   with_reducible repeat' (first|refine Sp.h ?_|((first|refine Ss.h ?_|refine Sc.h (d57 _) ?_|(refine Sb.h ?_ ?_ ?_<;>(try intro hgd)<;>try exact Xy))<;>simp -implicitDefEqProofs (maxSteps:=2000000) [hP,hN,g0,g4,g3,hb,hlt,hw,hz,hs,show (i+1) * 8≤140737488355328 by omega,show i+1≤9223372036854775807 by omega])|refine X2 ?_ ?_|(refine Xd ?_ ?_<;>intro hcd<;>try exact Xx))
  ·have hz : min i xs.length=i:=by omega
   with_reducible repeat' (first|refine Sp.h ?_|((first|refine Ss.h ?_|(refine Sb.h ?_ ?_ ?_<;>(try intro hgd)<;>try exact Xy))<;>simp -implicitDefEqProofs (maxSteps:=2000000) [hP,hN,g0,g4,g3,hb,hlt,hz])|refine X2 ?_ ?_|(refine Xd ?_ ?_<;>intro hcd<;>try exact Xx))
   exact take_done (by simp) hlt
end Go.Ab
namespace Go.Ab
open Go.Proofs
theorem d6 (l m o : List Int) : DetH Tryz.prog 6 [.pv (zs l),.pv (zs m),.pv (zs o)] [] [] (.pv (B true)):=by
 have hv:=mkBox_valid (l:=m) (rJs_ok l 0)
 have hs:=within_sub hv o
 have hj:=rJs_len l 0
 refine wHints l m o hv (by rw [hs.1,mkBox_len];omega) fun h=>?_
 obtain ⟨ns,e,hn⟩:=boxV_free h
 rw [e]
 exact ⟨boxV_hints hn,boxV_hints (holdsSep_sub hs hn)⟩
set_option maxHeartbeats 4000000 in
theorem d8 (l m o : List Int) : DetH Tryz.prog 8 [.pv (zs l),.pv (zs m),.pv (zs o)] [] [] (.pv (B true)):=by
 have c0:=d13
 have c1:=d11 l
 have hL:=mkSc_L l
 have hj:=rJs_len l 0
 have c2:=d12 m (rJs l 0) (rMs l 0) (by omega) (rJs_ok l 0)
 have hjs : (mkSc l).js=rJs l 0:=rfl
 have hms : (mkSc l).ms=rMs l 0:=rfl
 have hbl:=mkBox_len m (rJs l 0)
 have hv:=mkBox_valid (l:=m) (rJs_ok l 0)
 generalize mkBoxL m (rJs l 0)=b at *
 rw [← hjs,← hms] at c2
 have c3:=d15 (mkSc l) b [] hL (by omega) (by simp)
 have c4:=d22 b o (by omega) hv
 have hs:=within_sub hv o
 have hwl : (mkWithinL b o).length=b.length:=hs.1
 generalize mkWithinL b o=a at *
 generalize mkSc l=s at *
 simp only [vecs,List.map_nil] at c3
 have hvl:=boxV_len s b []
 have cc:=d18 s b (boxV s b []) hL (by omega) (by omega) (by omega) (by omega)
 have ca:=d18 s a (boxV s b []) hL (by omega) (by omega) (by omega) (by omega)
 have d1:=d27 s b (boxV s b []).ns hL (by omega) (by omega)
 have d2:=d27 s a (boxV s b []).ns hL (by omega) (by omega)
 rw [checkV_box] at cc
 rcases boxV_is s b [] with ⟨w,h1,h2⟩|⟨ns,h1,h2⟩|⟨ns,h1,h2⟩
 ·have h3:=holdsCol_sub hs h2
  have k1 : checkV s a ⟨2,[],w⟩=true:=by simp [checkV,h3]
  have k2 : holdsSep s b []=false:=col_not_sep h2
  have k3 : holdsSep s a []=false:=col_not_sep h3
  have k4 : clrV s b []=0:=by simp [clrV,k2]
  have k5 : clrV s a []=0:=by simp [clrV,k3]
  rw [h1] at c3 cc ca d1 d2
  rw [k1] at ca
  simp only [k2,k3,k4,k5] at d1 d2
  simp only [encVt,vecs,List.map_nil] at c3 cc ca d1 d2
  simp at cc
  refine detP_of Tryz.func8 rfl (by kernel_rfl) (by simp [Tryz.f8]) rfl ?_
  intro C hP hN
  simp only [Tryz.f8] at hN ⊢
  with_reducible repeat' (first|refine Sp.h ?_|((first|refine Ss.h ?_|refine Sc.h (c0) ?_|refine Sc.h (c1) ?_|refine Sc.h (c2) ?_|refine Sc.h (c3) ?_|refine Sc.h (c4) ?_|refine Sc.h (cc) ?_|refine Sc.h (ca) ?_|refine Sc.h (d1) ?_|refine Sc.h (d2) ?_|(refine Sb.h ?_ ?_ ?_<;>(try intro hgd)<;>try exact Xy))<;>simp -implicitDefEqProofs (maxSteps:=2000000) [hP,hN])|refine X2 ?_ ?_|(refine Xd ?_ ?_<;>intro hcd<;>try exact Xx))
 ·have h3:=holdsSep_sub hs h2
  have k1 : checkV s a ⟨1,ns,⟨0,[],[]⟩⟩=true:=by simp [checkV,h3]
  have k4:=clrV_sub hs h2
  rw [h1] at c3 cc ca d1 d2
  rw [k1] at ca
  simp only [h2,h3] at d1 d2
  generalize clrV s b ns=x at *
  generalize clrV s a ns=y at *
  simp at cc
  refine detP_of Tryz.func8 rfl (by kernel_rfl) (by simp [Tryz.f8]) rfl ?_
  intro C hP hN
  simp only [Tryz.f8] at hN ⊢
  with_reducible repeat' (first|refine Sp.h ?_|((first|refine Ss.h ?_|refine Sc.h (c0) ?_|refine Sc.h (c1) ?_|refine Sc.h (c2) ?_|refine Sc.h (c3) ?_|refine Sc.h (c4) ?_|refine Sc.h (cc) ?_|refine Sc.h (ca) ?_|refine Sc.h (d1) ?_|refine Sc.h (d2) ?_|(refine Sb.h ?_ ?_ ?_<;>(try intro hgd)<;>try exact Xy))<;>simp -implicitDefEqProofs (maxSteps:=2000000) [hP,hN,k4])|refine X2 ?_ ?_|(refine Xd ?_ ?_<;>intro hcd<;>try exact Xx))
 ·rw [h1] at c3 cc
  simp at cc
  refine detP_of Tryz.func8 rfl (by kernel_rfl) (by simp [Tryz.f8]) rfl ?_
  intro C hP hN
  simp only [Tryz.f8] at hN ⊢
  with_reducible repeat' (first|refine Sp.h ?_|((first|refine Ss.h ?_|refine Sc.h (c0) ?_|refine Sc.h (c1) ?_|refine Sc.h (c2) ?_|refine Sc.h (c3) ?_|refine Sc.h (cc) ?_|(refine Sb.h ?_ ?_ ?_<;>(try intro hgd)<;>try exact Xy))<;>simp -implicitDefEqProofs (maxSteps:=2000000) [hP,hN])|refine X2 ?_ ?_|(refine Xd ?_ ?_<;>intro hcd<;>try exact Xx))
theorem mid_sub {a : List Iv} (hv : ∀ x ∈ a,validB x.1 x.2=true) : SubB (boxL (middleL a)) a:=by
 have e : ∀ x,validB x.1 x.2=true→x.1≤midI x∧midI x≤x.2∧-2147483648≤midI x∧midI x≤2147483648:=fun x hx=>by
  have h:=valid_iff.1 hx
  simp only [midI,hx,if_true]
  rw [wr_id (by omega) (by omega),Int.fdiv_eq_ediv_of_nonneg _ (by decide)]
  omega
 have h1 : allB vI a=true:=by simp only [allB,List.all_eq_true];exact hv
 have h2 : middleL a=a.map midI:=by simp [middleL,h1]
 have h3 : allB smallB (a.map midI)=true:=by
  simp only [allB,List.all_eq_true]
  intro x hx
  obtain ⟨y,hy,rfl⟩:=List.mem_map.1 hx
  have:=e y (hv y hy)
  simp only [smallB,Bool.and_eq_true,decide_eq_true_eq]
  omega
 have h4 : boxL (middleL a)=a.map fun x=>(midI x,midI x):=by
  rw [h2,boxL,h3]
  simp
 refine ⟨by rw [h4];simp,fun k x y hx hy=>?_⟩
 rw [h4,List.getElem?_map,hy] at hx
 simp only [Option.map_some,Option.some.injEq] at hx
 subst hx
 have h:=valid_iff.1 (hv y (List.mem_of_getElem? hy))
 have:=e y (hv y (List.mem_of_getElem? hy))
 apply subI_of<;>(try simp only [])<;>omega
theorem SubB.trans {a b c : List Iv} (h : SubB a b) (g : SubB b c) : SubB a c:=by
 refine ⟨h.1.trans g.1,fun k x z hx hz=>?_⟩
 have hk : k < a.length:=(List.getElem?_eq_some_iff.1 hx).1
 have hy : b[k]?=some (b[k]'(by rw [← h.1];exact hk)):=List.getElem?_eq_getElem _
 exact (h.2 k x _ hx hy).trans (g.2 k _ z hy hz)
theorem SubB.valid {a b : List Iv} (h : SubB a b) : ∀ x ∈ a,validB x.1 x.2=true:=fun x hx=>by
 obtain ⟨k,hk⟩:=List.getElem?_of_mem hx
 have hlt : k < a.length:=(List.getElem?_eq_some_iff.1 hk).1
 exact (h.2 k x _ hk (List.getElem?_eq_getElem (by rw [← h.1];exact hlt))).vx
theorem kinds_agree {s : Sce} {a b : List Iv} (h : SubB a b) {u v : List Vc} : (boxV s b u).kind=0∨(boxV s a v).kind=0∨(boxV s b u).kind=(boxV s a v).kind:=by
 rcases boxV_is s b u with ⟨w,h1,h2⟩|⟨ns,h1,h2⟩|⟨ns,h1,h2⟩
 ·rcases boxV_is s a v with ⟨w',g1,g2⟩|⟨ns',g1,g2⟩|⟨ns',g1,g2⟩
  ·rw [h1,g1];simp
  ·have:=col_not_sep (ns:=ns') (holdsCol_sub h h2)
   rw [g2] at this;cases this
  ·rw [g1];simp
 ·rcases boxV_is s a v with ⟨w',g1,g2⟩|⟨ns',g1,g2⟩|⟨ns',g1,g2⟩
  ·have:=sep_not_col (w:=w') (holdsSep_sub h h2)
   rw [g2] at this;cases this
  ·rw [h1,g1];simp
  ·rw [g1];simp
 ·rw [h1];simp
set_option maxHeartbeats 4000000 in
theorem d5 (l m o : List Int) : DetH Tryz.prog 5 [.pv (zs l),.pv (zs m),.pv (zs o)] [] [] (.pv (B true)):=by
 have c0:=d13
 have c1:=d11 l
 have hL:=mkSc_L l
 have hj:=rJs_len l 0
 have c2:=d12 m (rJs l 0) (rMs l 0) (by omega) (rJs_ok l 0)
 have hjs : (mkSc l).js=rJs l 0:=rfl
 have hms : (mkSc l).ms=rMs l 0:=rfl
 have hbl:=mkBox_len m (rJs l 0)
 have hv:=mkBox_valid (l:=m) (rJs_ok l 0)
 generalize mkBoxL m (rJs l 0)=b at *
 rw [← hjs,← hms] at c2
 have c3:=d15 (mkSc l) b [] hL (by omega) (by simp)
 have c4:=d22 b o (by omega) hv
 have hs:=within_sub hv o
 have hwl : (mkWithinL b o).length=b.length:=hs.1
 generalize mkWithinL b o=a at *
 generalize mkSc l=s at *
 have hs2:=mid_sub hs.valid
 have c5:=d21 a (by omega)
 have hml : (middleL a).length≤16777216:=by
  unfold middleL;split<;>simp<;>omega
 have c6:=d20 (middleL a) hml
 have hbl2 : (boxL (middleL a)).length=a.length:=hs2.1
 have hs3:=hs2.trans hs
 generalize boxL (middleL a)=d at *
 generalize middleL a=c at *
 have c7:=d15 s d [] hL (by omega) (by simp)
 simp only [vecs,List.map_nil] at c3 c7
 have hk:=kinds_agree (s:=s) hs3 (u:=[]) (v:=[])
 generalize boxV s b []=v at *
 generalize boxV s d []=u at *
 obtain ⟨k,ns,w⟩:=v
 obtain ⟨k',ns',w'⟩:=u
 simp only at hk c3 c7
 by_cases h0 : k=0
 ·subst h0
  refine detP_of Tryz.func5 rfl (by kernel_rfl) (by simp [Tryz.f5]) rfl ?_
  intro C hP hN
  simp only [Tryz.f5] at hN ⊢
  with_reducible repeat' (first|refine Sp.h ?_|((first|refine Wd ?_|refine Ss.h ?_|refine Sc.h (c0) ?_|refine Sc.h (c1) ?_|refine Sc.h (c2) ?_|refine Sc.h (c3) ?_|refine Sc.h (c4) ?_|refine Sc.h (c5) ?_|refine Sc.h (c6) ?_|refine Sc.h (c7) ?_|(refine Sb.h ?_ ?_ ?_<;>(try intro hgd)<;>try exact Xy))<;>simp -implicitDefEqProofs (maxSteps:=2000000) [hP,hN]<;>try refine Ya ?_)|refine X2 ?_ ?_|(refine Xd ?_ ?_<;>intro hcd<;>try exact Xx))
 ·have e0 : (k==0)=false:=by simp [h0]
  have e0' : (k !=0)=true:=by simp [h0]
  by_cases h1 : k'=0
  ·subst h1
   refine detP_of Tryz.func5 rfl (by kernel_rfl) (by simp [Tryz.f5]) rfl ?_
   intro C hP hN
   simp only [Tryz.f5] at hN ⊢
   with_reducible repeat' (first|refine Sp.h ?_|((first|refine Wd ?_|refine Ss.h ?_|refine Sc.h (c0) ?_|refine Sc.h (c1) ?_|refine Sc.h (c2) ?_|refine Sc.h (c3) ?_|refine Sc.h (c4) ?_|refine Sc.h (c5) ?_|refine Sc.h (c6) ?_|refine Sc.h (c7) ?_|(refine Sb.h ?_ ?_ ?_<;>(try intro hgd)<;>try exact Xy))<;>simp -implicitDefEqProofs (maxSteps:=2000000) [hP,hN,h0,e0,e0']<;>try refine Ya ?_)|refine X2 ?_ ?_|(refine Xd ?_ ?_<;>intro hcd<;>try exact Xx))
  ·have e1 : (k'==0)=false:=by simp [h1]
   have e1' : (k' !=0)=true:=by simp [h1]
   have h2 : k=k':=by omega
   subst h2
   refine detP_of Tryz.func5 rfl (by kernel_rfl) (by simp [Tryz.f5]) rfl ?_
   intro C hP hN
   simp only [Tryz.f5] at hN ⊢
   with_reducible repeat' (first|refine Sp.h ?_|((first|refine Wd ?_|refine Ss.h ?_|refine Sc.h (c0) ?_|refine Sc.h (c1) ?_|refine Sc.h (c2) ?_|refine Sc.h (c3) ?_|refine Sc.h (c4) ?_|refine Sc.h (c5) ?_|refine Sc.h (c6) ?_|refine Sc.h (c7) ?_|(refine Sb.h ?_ ?_ ?_<;>(try intro hgd)<;>try exact Xy))<;>simp -implicitDefEqProofs (maxSteps:=2000000) [hP,hN,h0,e0,e0']<;>try refine Ya ?_)|refine X2 ?_ ?_|(refine Xd ?_ ?_<;>intro hcd<;>try exact Xx))
end Go.Ab
namespace Go.Ab
theorem WP.freeze {C : Cx} {c : Code} {Q : Exit→St→Prop} {st : St} (s : Nat) {k e sz fz : Nat} {xs : List PV} (hk : st.h k=some (.row e sz xs fz)) (ht : st.t s=.arr k xs.length) (h : WP C c Q ⟨upd st.t s (.pv (.sl xs)),upd st.h k (some (.row e sz xs xs.length))⟩) : WP C c Q st:=by
 intro a w hs
 obtain ⟨L,hm,hN,hdf,htm⟩:=hs
 obtain ⟨hA,hR⟩:=freeze_row hm hk
 refine h a w ⟨L,hA.1,hN,hdf,fun n=>?_⟩
 have hold:=(htm n).mono hA.2.1 hA.2.2
 show RepA w _ L _ (upd st.t s (.pv (.sl xs)) n) _
 by_cases hn : n=s
 ·subst hn
  rw [upd_same]
  have hv:=htm n
  rw [ht] at hv
  cases hv with
  |arr hk2 hn2 hu=>
   rw [hk] at hk2;injection hk2 with hk2;injection hk2 with _ _ a3 _
   subst a3
   rw [hu rfl]
   exact .pv hR
 ·rw [upd_ne hn];exact hold
theorem evPure_neqB {P : Program} {o : Oper} {ρ : Operand→AV} {t t' : TypeId} {x y : Operand} {a b c : Bool} (ho : o.op=.binOp .neq t x y t') (hx : ρ x=.pv (.val (.bool a))) (hy : ρ y=.pv (.val (.bool b)))
 (hg : P.eqGuardType P.depth t=false) (h : runPure P (Op.equal t (.bool a) (.bool b))=some c) : evPure P o ρ=some (.pv (.val (.bool !c)),[]):=by
 refine evPure_of (by rw [ho];simp [Op.operands,hx,hy,valOf]) ?_
 unfold execOp
 rw [ho]
 simp only [(valOf_some hx).2,(valOf_some hy).2]
 have h1 : runPure P (eqGuard .neq t x y (.bool a) (.bool b))=some ():=by
  unfold eqGuard;simp only [Bool.not_true,Bool.false_eq_true,if_false,runPure_bind,runPure_program,Option.bind_some,hg,Bool.not_false,if_true];rfl
 have h2 : runPure P (binOp .neq t (.bool a) (.bool b))=some (.bool !c):=by
  simp only [binOp,runPure_bind,h,Option.bind_some];rfl
 simp only [runPure_bind,h1,h2,Option.bind_some];rfl
theorem WP.nilsl {C : Cx} {c : Code} {Q : Exit→St→Prop} {st : St} (s : Nat) (ht : st.t s=.pv (.val (.slice none 0 0))) (h : WP C c Q ⟨upd st.t s (.pv (.sl [])),st.h⟩) : WP C c Q st:=by
 intro a w hs
 obtain ⟨L,hm,hN,hdf,htm⟩:=hs
 refine h a w ⟨L,hm,hN,hdf,fun n=>?_⟩
 show RepA w _ L _ (upd st.t s (.pv (.sl [])) n) _
 by_cases hn : n=s
 ·subst hn
  rw [upd_same]
  have hv:=htm n
  rw [ht] at hv
  cases hv with
  |pv hr=>rw [rep_val_inv hr];exact .pv (.sl0 none 0)
 ·rw [upd_ne hn];exact htm n
end Go.Ab
namespace Go.Ab
open Go.Proofs
theorem d98 (js : List J) (ms : List Ms) (l : Int) (hl : js.length≤9223372036854775807) : DetH Tryz.prog 98 [.pv (encR js ms),.pv (Z l)] [] [] (.pv (B (linkB js.length l))):=by
 refine detP_of Tryz.func98 rfl (by kernel_rfl) (by simp [Tryz.f98]) rfl ?_
 intro C hP hN
 simp only [Tryz.f98] at hN ⊢
 with_reducible repeat' (first|refine Sp.h ?_|((first|refine Ss.h ?_|(refine Sb.h ?_ ?_ ?_<;>(try intro hgd)<;>try exact Xy))<;>simp -implicitDefEqProofs (maxSteps:=2000000) [hP,hN])|refine X2 ?_ ?_|(refine Xd ?_ ?_<;>intro hcd<;>try exact Xx))
 all_goals (simp only [linkB,decide_eq_true_eq,decide_eq_false_iff_not] at *;first|done|(simp;intros;omega)|(simp;omega)|omega)
theorem eqBo (a b : Bool) : runPure Tryz.prog (Op.equal 4 (.bool a) (.bool b))=some (a==b):=by cases a<;>cases b<;>kernel_rfl
def boB (x : AV) : Option Bool:=match x with
 |.pv (.val (.bool a))=>some a
 |_=>none
theorem boB_some {x : AV} {a : Bool} (h : boB x=some a) : x=.pv (B a):=by
 unfold boB at h
 split at h
 ·injection h with h;subst h;rfl
 ·cases h
def cmpBn (x y : AV) (fb : Option Eff) : Option Eff:=match boB x,boB y with
 |some a,some b=>some (.pv (.val (.bool !(a==b))),[])
 |_,_=>fb
@[simp] theorem cmpBn_some (a b : Bool) (fb : Option Eff) : cmpBn (.pv (.val (.bool a))) (.pv (.val (.bool b))) fb=some (.pv (.val (.bool !(a==b))),[]):=rfl
@[simp] theorem neqBo {dst : Option Nat} {ty : TypeId} {pos : String} {aft : Array Edge} {g : Option (Nat × Bool)} {ρ : Operand→AV} (x y : Operand) :
 evPure Tryz.prog ⟨dst,.binOp .neq 4 x y 4,ty,pos,aft,g⟩ ρ=cmpBn (ρ x) (ρ y) (evPureX Tryz.prog ⟨dst,.binOp .neq 4 x y 4,ty,pos,aft,g⟩ ρ):=by
 unfold cmpBn
 split
 ·rename_i a b hx hy
  exact evPure_neqB rfl (boB_some hx) (boB_some hy) (by kernel_rfl) (eqBo a b)
 ·rfl
def memB (xs : List Int) (x : Int) : Bool:=xs.any (fun y=>y==x)
theorem d150 (xs : List Int) (x : Int) (hl : xs.length≤9223372036854775807) : DetH Tryz.prog 150 [.pv (zs xs),.pv (Z x)] [] [] (.pv (B (memB xs x))):=by
 have hd : memB xs x=xs.any (fun y=>y==x):=rfl
 rw [hd]
 refine detP_of Tryz.func150 rfl (by kernel_rfl) (by simp [Tryz.f150]) rfl ?_
 intro C hP hN
 simp only [Tryz.f150] at hN ⊢
 with_reducible repeat' (first|refine Sp.h ?_|((first|refine Ss.h ?_|(refine Sb.h ?_ ?_ ?_<;>(try intro hgd)<;>try exact Xy))<;>simp -implicitDefEqProofs (maxSteps:=2000000) [hP,hN])|refine X2 ?_ ?_|(refine Xd ?_ ?_<;>intro hcd<;>try exact Xx))
 refine WP.loopN [] xs.length (fun i st=>st.t 0=.pv (zs xs)∧st.t 1=.pv (Z x)∧st.t 5=.pv (Z i)∧∀ k y,k < i→xs[k]?=some y→(y==x)=false) (by simp) ?_
 rintro i st hi ⟨g0,g1,g5,hq⟩
 by_cases hlt : i < xs.length
 ·have hw:=wr_succ hlt hl
  generalize hxe : xs[i]=v at *
  have hx : xs[i]?=some v:=by rw [List.getElem?_eq_getElem hlt,hxe]
  have hst:=anyS (p:=fun y=>y==x) hx hq
  have hY:=anyY (p:=fun y=>y==x) hx
  cases hc : (v==x) with
  |true=>
   have hy:=hY hc
   with_reducible repeat' (first|refine Sp.h ?_|((first|refine Ss.h ?_|(refine Sb.h ?_ ?_ ?_<;>(try intro hgd)<;>try exact Xy))<;>simp -implicitDefEqProofs (maxSteps:=2000000) [hP,hN,g0,g1,g5,hlt,hw,hx,hxe,hc,hy])|refine X2 ?_ ?_|(refine Xd ?_ ?_<;>intro hcd<;>try exact Xx))
  |false=>
   have hst':=hst hc
   with_reducible repeat' (first|refine Sp.h ?_|((first|refine Ss.h ?_|(refine Sb.h ?_ ?_ ?_<;>(try intro hgd)<;>try exact Xy))<;>simp -implicitDefEqProofs (maxSteps:=2000000) [hP,hN,g0,g1,g5,hlt,hw,hx,hxe,hc])|refine X2 ?_ ?_|(refine Xd ?_ ?_<;>intro hcd<;>try exact Xx))
   all_goals (intro k y hk hy;simpa using hst' k y hk hy)
 ·have hn:=anyN hq hlt
  with_reducible repeat' (first|refine Sp.h ?_|((first|refine Ss.h ?_|(refine Sb.h ?_ ?_ ?_<;>(try intro hgd)<;>try exact Xy))<;>simp -implicitDefEqProofs (maxSteps:=2000000) [hP,hN,g0,g1,g5,hlt,hn])|refine X2 ?_ ?_|(refine Xd ?_ ?_<;>intro hcd<;>try exact Xx))
def parO (js : List J) (k : Int) : Int:=((js[k.toNat]?).map J.parent).getD (-1)
def chL (js : List J) : Nat→Int→List Int
 |0,_=>[]
 |f+1,k=>if k=-1 then [] else chL js f (parO js k)++[k]
theorem parO_at {js : List J} (hj : jsOk js) {k : Int} (h0 : 0≤k) (h1 : k < js.length) : ∃ j,js[k.toNat]?=some j∧parO js k=j.parent∧-1≤j.parent∧j.parent < k:=by
 have hx : js[k.toNat]?=some (js[k.toNat]'(by omega)):=List.getElem?_eq_getElem _
 have:=hj _ _ hx
 unfold jOk1 at this
 refine ⟨_,hx,by simp [parO,hx],by omega,by omega⟩
theorem chL_more {js : List J} (hj : jsOk js) : ∀ (f : Nat) (k : Int),-1≤k→k < js.length→(k+1).toNat≤f→chL js (f+1) k=chL js f k
 |0,k,h0,h1,hf=>by
  have : k=-1:=by omega
  subst this
  simp [chL]
 |f+1,k,h0,h1,hf=>by
  by_cases hk : k=-1
  ·subst hk;simp [chL]
  ·obtain ⟨j,_,hp,a,b⟩:=parO_at hj (by omega) h1
   rw [chL,if_neg hk,chL_more hj f (parO js k) (by omega) (by omega) (by omega),chL,if_neg hk]
theorem chL_step {js : List J} (hj : jsOk js) (hl : js.length≤10) {k : Int} (h0 : 0≤k) (h1 : k < js.length) : chL js 11 k=chL js 11 (parO js k)++[k]:=by
 obtain ⟨j,_,hp,a,b⟩:=parO_at hj h0 h1
 rw [chL,if_neg (by omega),chL_more hj 10 (parO js k) (by omega) (by omega) (by omega)]
theorem chL_len {js : List J} : ∀ (f : Nat) (k : Int),(chL js f k).length≤f
 |0,k=>by simp [chL]
 |f+1,k=>by
  have:=chL_len (js:=js) f (parO js k)
  rw [chL]
  split
  ·simp
  ·simp;omega
set_option maxHeartbeats 4000000 in
theorem d149 (js : List J) (ms : List Ms) (l : Int) (hl : js.length≤10) (hm : ms.length≤9223372036854775807) (h0 : checkR js ms=0) (hk : linkB js.length l=true) : DetH Tryz.prog 149 [.pv (encR js ms),.pv (Z l)] [] [] (.pv (zs (chL js 11 l))):=by
 have cr:=d97 js ms (by omega) hm
 have ci:=d98 js ms l (by omega)
 rw [h0] at cr
 rw [hk] at ci
 obtain ⟨hj,_,_⟩:=checkR_ok h0
 simp only [linkB,Bool.and_eq_true,decide_eq_true_eq] at hk
 refine detP_of Tryz.func149 rfl (by kernel_rfl) (by simp [Tryz.f149]) rfl ?_
 intro C hP hN
 simp only [Tryz.f149] at hN ⊢
 with_reducible repeat' (first|refine Sp.h ?_|((first|refine Ss.h ?_|refine Sc.h (cr) ?_|refine Sc.h (ci) ?_|(refine Sb.h ?_ ?_ ?_<;>(try intro hgd)<;>try exact Xy))<;>simp -implicitDefEqProofs (maxSteps:=2000000) [hP,hN])|refine X2 ?_ ?_|(refine Xd ?_ ?_<;>intro hcd<;>try exact Xx))
 refine WP.nilsl 5 (by simp) ?_
 refine WP.loopN [26] (l+1).toNat (fun i st=>∃ (A : List Int) (k : Int),st.t 2=.ptr 2 0∧st.h 2=some (.box [.pv (.sl (js.map encJ)),.pv (.sl (ms.map encM))] true false)∧st.t 5=.pv (zs A)∧st.t 6=.pv (Z k)∧st.h 26=none∧st.h 28=none∧chL js 11 k++A=chL js 11 l∧-1≤k∧k < js.length∧(k+1).toNat+i≤(l+1).toNat∧A.length≤i) ⟨[],l,by simp;omega⟩ ?_
 rintro i st hi ⟨A,k,g2,hb2,g5,g6,hb26,hb28,hA,k0,k1,kN,hAl⟩
 by_cases hlt : k=-1
 ·subst hlt
  have hA' : A=chL js 11 l:=by rw [← hA];simp [chL]
  subst hA'
  with_reducible repeat' (first|refine Sp.h ?_|((first|refine Ss.h ?_|(refine Sb.h ?_ ?_ ?_<;>(try intro hgd)<;>try exact Xy))<;>simp -implicitDefEqProofs (maxSteps:=2000000) [hP,hN,g2,hb2,g5,g6,hb26,hb28])|refine X2 ?_ ?_|(refine Xd ?_ ?_<;>intro hcd<;>try exact Xx))
 ·obtain ⟨j,hx,hp,pa,pb⟩:=parO_at hj (by omega) k1
  have hlt' : (k !=-1)=true:=by simp [hlt]
  obtain ⟨n,rfl⟩ : ∃ n : Nat,k=n:=⟨k.toNat,by omega⟩
  have hnl : n < js.length:=by omega
  have hxe : ∀ h,js[n]'h=j:=fun h=>by rw [Int.toNat_natCast,List.getElem?_eq_getElem h] at hx;exact Option.some.inj hx
  rw [Int.toNat_natCast] at hx
  have hst:=chL_step hj hl (k:=n) (by omega) k1
  rw [hst,List.append_assoc,hp] at hA
  have hAl2 : A.length≤9:=by omega
  have hZ : (A.map Z).length=A.length:=by simp
  with_reducible iterate 8 any_goals (first|refine Sp.h ?_|((first|refine Wh [26] ?_|refine Ss.h ?_|(refine Sb.h ?_ ?_ ?_<;>(try intro hgd)<;>try exact Xy))<;>simp -implicitDefEqProofs (maxSteps:=2000000) [hP,hN,g2,hb2,g5,g6,hb26,hb28,hlt,hlt',hx,hxe,hnl,show (1+A.length) * 8≤140737488355328 by omega,show (A.length+1) * 8≤140737488355328 by omega,show 1+A.length≤9223372036854775807 by omega,show A.length+1≤9223372036854775807 by omega])|refine X2 ?_ ?_|(refine Xd ?_ ?_<;>intro hcd<;>try exact Xx))
  refine WP.freeze 5 (k:=26) (e:=3) (sz:=1) (fz:=0) (xs:=((n : Int) :: A).map Z) (by simp) (by simp;omega) ?_
  with_reducible repeat' (first|refine Sp.h ?_|((first|refine Ss.h ?_|(refine Sb.h ?_ ?_ ?_<;>(try intro hgd)<;>try exact Xy))<;>simp -implicitDefEqProofs (maxSteps:=2000000) [hP,hN,g2,hb2,g5,g6,hb26,hb28,hlt,hlt',hx,hxe,hnl])|refine X2 ?_ ?_|(refine Xd ?_ ?_<;>intro hcd<;>try exact Xx))
  exact ⟨by omega,(n : Int) :: A,by simp,by simpa using hA,pa,by omega,by omega,by simp;omega⟩
def btw (js : List J) (a b : Int) (k : Nat) : Bool:=memB (chL js 11 a) k !=memB (chL js 11 b) k
def btL (js : List J) (a b : Int) (n : Nat) : List Int:=((List.range n).filter (btw js a b)).map Int.ofNat
theorem btL_succ (js : List J) (a b : Int) (n : Nat) : btL js a b (n+1)=btL js a b n++(if btw js a b n=true then [(n : Int)] else []):=by
 simp only [btL,List.range_succ,List.filter_append,List.map_append]
 congr 1
 cases h : btw js a b n<;>simp [h]
theorem btL_len (js : List J) (a b : Int) (n : Nat) : (btL js a b n).length≤n:=by
 simp only [btL,List.length_map]
 exact Nat.le_trans (List.length_filter_le _ _) (by simp)
set_option maxHeartbeats 4000000 in
theorem d101 (js : List J) (ms : List Ms) (a b : Int) (hl : js.length≤10) (hm : ms.length≤9223372036854775807) (h0 : checkR js ms=0) (ha : linkB js.length a=true) (hb : linkB js.length b=true) : DetH Tryz.prog 101 [.pv (encR js ms),.pv (Z a),.pv (Z b)] [] [] (.pv (zs (btL js a b js.length))):=by
 have cr:=d97 js ms (by omega) hm
 have ca:=d98 js ms a (by omega)
 have cb:=d98 js ms b (by omega)
 have ka:=d149 js ms a hl hm h0 ha
 have kb:=d149 js ms b hl hm h0 hb
 have na:=chL_len (js:=js) 11 a
 have nb:=chL_len (js:=js) 11 b
 rw [h0] at cr
 rw [ha] at ca
 rw [hb] at cb
 refine detP_of Tryz.func101 rfl (by kernel_rfl) (by simp [Tryz.f101]) rfl ?_
 intro C hP hN
 simp only [Tryz.f101] at hN ⊢
 with_reducible repeat' (first|refine Sp.h ?_|((first|refine Wh [9] ?_|refine Wi [9] ?_|refine Ss.h ?_|refine Sc.h (cr) ?_|refine Sc.h (ca) ?_|refine Sc.h (cb) ?_|refine Sc.h (ka) ?_|refine Sc.h (kb) ?_|(refine Sb.h ?_ ?_ ?_<;>(try intro hgd)<;>try exact Xy))<;>simp -implicitDefEqProofs (maxSteps:=2000000) [hP,hN]<;>try refine Ya ?_)|refine X2 ?_ ?_|(refine Xd ?_ ?_<;>intro hcd<;>try exact Xx))
 refine WP.loopN [] js.length (fun i st=>st.t 3=.ptr 3 0∧st.h 3=some (.box [.pv (.sl (js.map encJ)),.pv (.sl (ms.map encM))] true false)∧st.t 7=.pv (zs (chL js 11 a))∧st.t 8=.pv (zs (chL js 11 b))∧st.t 10=.pv (Z i)∧st.t 9=.arr 9 (btL js a b i).length∧st.h 9=some (.row 3 1 ((btL js a b i).map Z) 0)) (by simp [btL]) ?_
 rintro i st hi ⟨g3,hb3,g7,g8,g10,g9,hb9⟩
 by_cases hlt : i < js.length
 ·have hw:=wr_succ hlt (by omega)
  have hS:=btL_succ js a b i
  have hL:=btL_len js a b i
  have hd : btw js a b i=(memB (chL js 11 a) i !=memB (chL js 11 b) i):=rfl
  have c1:=d150 (chL js 11 a) i (by omega)
  have c2:=d150 (chL js 11 b) i (by omega)
  have hlt' : (i : Int) < (js.length : Int):=by omega
  generalize chL js 11 a=A at *
  generalize chL js 11 b=B' at *
  cases h1 : memB A i<;>cases h2 : memB B' i<;>rw [h1] at c1 hd<;>rw [h2] at c2 hd<;>rw [hd] at hS<;>simp only [bne_self_eq_false,Bool.false_eq_true,if_false,List.append_nil,show (true !=false)=true from rfl,show (false !=true)=true from rfl,if_true] at hS
  all_goals (generalize btL js a b i=P at *;rw [hS])
  ·skip
   with_reducible repeat' (first|refine Sp.h ?_|((first|refine Wd ?_|refine Ss.h ?_|refine Sc.h (c1) ?_|refine Sc.h (c2) ?_|(refine Sb.h ?_ ?_ ?_<;>(try intro hgd)<;>try exact Xy))<;>simp -implicitDefEqProofs (maxSteps:=2000000) [hP,hN,g3,hb3,g7,g8,g10,g9,hb9,hlt,hlt',hw]<;>try refine Ya ?_)|refine X2 ?_ ?_|(refine Xd ?_ ?_<;>intro hcd<;>try exact Xx))
  ·skip
   with_reducible repeat' (first|refine Sp.h ?_|((first|refine Wd ?_|refine Ss.h ?_|refine Sc.h (c1) ?_|refine Sc.h (c2) ?_|(refine Sb.h ?_ ?_ ?_<;>(try intro hgd)<;>try exact Xy))<;>simp -implicitDefEqProofs (maxSteps:=2000000) [hP,hN,g3,hb3,g7,g8,g10,g9,hb9,hlt,hlt',hw,show (P.length+1) * 8≤140737488355328 by omega,show P.length≤9223372036854775806 by omega]<;>try refine Ya ?_)|refine X2 ?_ ?_|(refine Xd ?_ ?_<;>intro hcd<;>try exact Xx))
  ·skip
   with_reducible repeat' (first|refine Sp.h ?_|((first|refine Wd ?_|refine Ss.h ?_|refine Sc.h (c1) ?_|refine Sc.h (c2) ?_|(refine Sb.h ?_ ?_ ?_<;>(try intro hgd)<;>try exact Xy))<;>simp -implicitDefEqProofs (maxSteps:=2000000) [hP,hN,g3,hb3,g7,g8,g10,g9,hb9,hlt,hlt',hw,show (P.length+1) * 8≤140737488355328 by omega,show P.length≤9223372036854775806 by omega]<;>try refine Ya ?_)|refine X2 ?_ ?_|(refine Xd ?_ ?_<;>intro hcd<;>try exact Xx))
  ·skip
   with_reducible repeat' (first|refine Sp.h ?_|((first|refine Wd ?_|refine Ss.h ?_|refine Sc.h (c1) ?_|refine Sc.h (c2) ?_|(refine Sb.h ?_ ?_ ?_<;>(try intro hgd)<;>try exact Xy))<;>simp -implicitDefEqProofs (maxSteps:=2000000) [hP,hN,g3,hb3,g7,g8,g10,g9,hb9,hlt,hlt',hw]<;>try refine Ya ?_)|refine X2 ?_ ?_|(refine Xd ?_ ?_<;>intro hcd<;>try exact Xx))
 ·have hin : i=js.length:=by omega
  subst hin
  with_reducible repeat' (first|refine Sp.h ?_|((first|refine Wd ?_|refine Ss.h ?_|(refine Sb.h ?_ ?_ ?_<;>(try intro hgd)<;>try exact Xy))<;>simp -implicitDefEqProofs (maxSteps:=2000000) [hP,hN,g3,hb3,g7,g8,g10,g9,hb9]<;>try refine Ya ?_)|refine X2 ?_ ?_|(refine Xd ?_ ?_<;>intro hcd<;>try exact Xx))
def mvB (js : List J) (k : Nat) : Bool:=match js[k]? with
 |some j=>decide (j.lo < j.hi)
 |none=>false
def rgR (js : List J) (a b : Int) : Bool:=(btL js a b js.length).all fun k=>!mvB js k.toNat
set_option maxHeartbeats 4000000 in
theorem d53 (js : List J) (ms : List Ms) (a b : Int) (hl : js.length≤10) (hm : ms.length≤9223372036854775807) (h0 : checkR js ms=0) (ha : linkB js.length a=true) (hb : linkB js.length b=true) : DetH Tryz.prog 53 [.pv (encR js ms),.pv (Z a),.pv (Z b)] [] [] (.pv (B (rgR js a b))):=by
 have cr:=d97 js ms (by omega) hm
 have ca:=d98 js ms a (by omega)
 have cb:=d98 js ms b (by omega)
 have kb:=d101 js ms a b hl hm h0 ha hb
 have nb:=btL_len js a b js.length
 rw [h0] at cr
 rw [ha] at ca
 rw [hb] at cb
 have hd : rgR js a b=(btL js a b js.length).all fun k=>!mvB js k.toNat:=rfl
 have hmem : ∀ x ∈ btL js a b js.length,∃ n : Nat,x=n∧n < js.length:=fun x hx=>by
  simp only [btL,List.mem_map,List.mem_filter,List.mem_range] at hx
  obtain ⟨n,hn,rfl⟩:=hx
  exact ⟨n,rfl,hn.1⟩
 rw [hd]
 generalize btL js a b js.length=P at *
 refine detP_of Tryz.func53 rfl (by kernel_rfl) (by simp [Tryz.f53]) rfl ?_
 intro C hP hN
 simp only [Tryz.f53] at hN ⊢
 with_reducible repeat' (first|refine Sp.h ?_|((first|refine Wd ?_|refine Ss.h ?_|refine Sc.h (cr) ?_|refine Sc.h (ca) ?_|refine Sc.h (cb) ?_|refine Sc.h (kb) ?_|(refine Sb.h ?_ ?_ ?_<;>(try intro hgd)<;>try exact Xy))<;>simp -implicitDefEqProofs (maxSteps:=2000000) [hP,hN]<;>try refine Ya ?_)|refine X2 ?_ ?_|(refine Xd ?_ ?_<;>intro hcd<;>try exact Xx))
 refine WP.loopN [] P.length (fun i st=>st.t 3=.ptr 3 0∧st.h 3=some (.box [.pv (.sl (js.map encJ)),.pv (.sl (ms.map encM))] true false)∧st.t 7=.pv (zs P)∧st.t 8=.pv (Z i)∧∀ k x,k < i→P[k]?=some x→(!mvB js x.toNat)=true) (by simp) ?_
 rintro i st hi ⟨g3,hb3,g7,g8,hq⟩
 by_cases hlt : i < P.length
 ·have hw:=wr_succ hlt (by omega)
  obtain ⟨n,hxn,hnl⟩:=hmem P[i] (List.getElem_mem hlt)
  generalize hxe : P[i]=v at *
  have hx : P[i]?=some v:=by rw [List.getElem?_eq_getElem hlt,hxe]
  have hst:=allS (p:=fun k=>!mvB js k.toNat) hx hq
  subst hxn
  obtain ⟨j,hj⟩ : ∃ j,js[n]?=some j:=⟨_,List.getElem?_eq_getElem hnl⟩
  have hje : ∀ h,js[n]'h=j:=fun h=>by rw [List.getElem?_eq_getElem h] at hj;exact Option.some.inj hj
  have hmv : mvB js n=decide (j.lo < j.hi):=by simp [mvB,hj]
  by_cases hc : j.lo < j.hi
  ·have hall : (P.all fun k=>!mvB js k.toNat)=false:=by
    rw [List.all_eq_false]
    exact ⟨_,List.mem_of_getElem? hx,by simp [hmv,hc]⟩
   with_reducible repeat' (first|refine Sp.h ?_|((first|refine Wd ?_|refine Ss.h ?_|(refine Sb.h ?_ ?_ ?_<;>(try intro hgd)<;>try exact Xy))<;>simp -implicitDefEqProofs (maxSteps:=2000000) [hP,hN,g3,hb3,g7,g8,hlt,hw,hx,hxe,hj,hje,hnl,hc,hall]<;>try refine Ya ?_)|refine X2 ?_ ?_|(refine Xd ?_ ?_<;>intro hcd<;>try exact Xx))
  ·have hst':=hst (by simp [hmv,hc])
   with_reducible repeat' (first|refine Sp.h ?_|((first|refine Wd ?_|refine Ss.h ?_|(refine Sb.h ?_ ?_ ?_<;>(try intro hgd)<;>try exact Xy))<;>simp -implicitDefEqProofs (maxSteps:=2000000) [hP,hN,g3,hb3,g7,g8,hlt,hw,hx,hxe,hj,hje,hnl,hc]<;>try refine Ya ?_)|refine X2 ?_ ?_|(refine Xd ?_ ?_<;>intro hcd<;>try exact Xx))
   all_goals (intro k x hk hx;simpa using hst' k x hk hx)
 ·have hall : (P.all fun k=>!mvB js k.toNat)=true:=allL hq hlt
  with_reducible repeat' (first|refine Sp.h ?_|((first|refine Wd ?_|refine Ss.h ?_|(refine Sb.h ?_ ?_ ?_<;>(try intro hgd)<;>try exact Xy))<;>simp -implicitDefEqProofs (maxSteps:=2000000) [hP,hN,g3,hb3,g7,g8,hlt,hall]<;>try refine Ya ?_)|refine X2 ?_ ?_|(refine Xd ?_ ?_<;>intro hcd<;>try exact Xx))
theorem d54 (s : Sce) (a b : Int) (hl : s.sks.length≤9223372036854775807) : DetH Tryz.prog 54 [.pv (encSc s),.pv (Z a),.pv (Z b)] [] [] (.pv (B (skipped s a b))):=by
 have hsk : skipped s a b=s.sks.any (skP a b):=rfl
 rw [hsk]
 refine detP_of Tryz.func54 rfl (by kernel_rfl) (by simp [Tryz.f54]) rfl ?_
 intro C hP hN
 simp only [Tryz.f54] at hN ⊢
 with_reducible repeat' (first|refine Sp.h ?_|((first|refine Ss.h ?_|(refine Sb.h ?_ ?_ ?_<;>(try intro hgd)<;>try exact Xy))<;>simp -implicitDefEqProofs (maxSteps:=2000000) [hP,hN])|refine X2 ?_ ?_|(refine Xd ?_ ?_<;>intro hcd<;>try exact Xx))
 refine WP.loopN [8] s.sks.length (fun i st=>st.t 3=.ptr 3 0∧st.h 3=some (.box [.pv (.sl (s.js.map encJ)),.pv (.sl (s.ms.map encM)),.pv (.sl (s.shs.map encSh)),.pv (.sl (s.sks.map encI))] true false)∧st.t 1=.pv (Z a)∧st.t 2=.pv (Z b)∧st.t 7=.pv (Z i)∧st.h 8=none∧∀ k x,k < i→s.sks[k]?=some x→skP a b x=false) (by simp) ?_
 rintro i st hi ⟨g3,hb3,g1,g2,g7,hb8,hq⟩
 by_cases hlt : i < s.sks.length
 ·have hw:=wr_succ hlt hl
  have hlt' : (i : Int) < (s.sks.length : Int):=by omega
  generalize hxe : s.sks[i]=v at *
  have hx : s.sks[i]?=some v:=by rw [List.getElem?_eq_getElem hlt,hxe]
  have hst:=anyS (p:=skP a b) hx hq
  have hY:=anyY (p:=skP a b) hx
  have hp : skP a b v=((v.1==a && v.2==b) || (v.1==b && v.2==a)):=rfl
  cases c1 : (v.1==a)<;>cases c2 : (v.2==b)<;>cases c3 : (v.1==b)<;>cases c4 : (v.2==a)<;>rw [c1,c2,c3,c4] at hp<;>simp only [Bool.and_self,Bool.and_false,Bool.false_and,Bool.or_false,Bool.false_or,Bool.or_self,Bool.or_true,Bool.true_or] at hp
  all_goals (first|(have hst':=hst hp;clear hst hY)|(have hy:=hY hp;clear hst hY))
  all_goals
   with_reducible repeat' (first|refine Sp.h ?_|((first|refine Ss.h ?_|(refine Sb.h ?_ ?_ ?_<;>(try intro hgd)<;>try exact Xy))<;>simp -implicitDefEqProofs (maxSteps:=2000000) [hP,hN,g3,hb3,g1,g2,g7,hb8,hlt,hlt',hw,hx,hxe,c1,c2,c3,c4])|refine X2 ?_ ?_|(refine Xd ?_ ?_<;>intro hcd<;>try exact Xx))
  all_goals (first|exact fun k u v hk hx=>hst' k (u,v) (by omega) hx|exact ⟨_,_,List.mem_of_getElem? hx,hp⟩)
 ·have:=anyN hq hlt
  have hlt' : ¬ (i : Int) < (s.sks.length : Int):=by omega
  with_reducible repeat' (first|refine Sp.h ?_|((first|refine Ss.h ?_|(refine Sb.h ?_ ?_ ?_<;>(try intro hgd)<;>try exact Xy))<;>simp -implicitDefEqProofs (maxSteps:=2000000) [hP,hN,g3,hb3,g1,g2,g7,hb8,hlt,hlt',this])|refine X2 ?_ ?_|(refine Xd ?_ ?_<;>intro hcd<;>try exact Xx))
set_option maxHeartbeats 8000000 in
theorem d52 (s : Sce) (hs : ScL s) : DetH Tryz.prog 52 [.pv (encSc s)] [] [] (.pv (Z (checkS s))):=by
 have cr:=d97 s.js s.ms hs.js hs.ms
 obtain ⟨l1,l2,l3,l4,l5⟩:=hs
 by_cases h0 : checkR s.js s.ms=0
 case neg=>
  have hf : checkS s=checkR s.js s.ms:=by simp [checkS,h0]
  have h0' : (checkR s.js s.ms !=0)=true:=by simp [h0]
  rw [hf]
  generalize checkR s.js s.ms=r at *
  refine detP_of Tryz.func52 rfl (by kernel_rfl) (by simp [Tryz.f52]) rfl ?_
  intro C hP hN
  simp only [Tryz.f52] at hN ⊢
  with_reducible repeat' (first|refine Sp.h ?_|((first|refine Wd ?_|refine Ss.h ?_|refine Sc.h (cr) ?_|(refine Sb.h ?_ ?_ ?_<;>(try intro hgd)<;>try exact Xy))<;>simp -implicitDefEqProofs (maxSteps:=2000000) [hP,hN,h0',h0]<;>try refine Ya ?_)|refine X2 ?_ ?_|(refine Xd ?_ ?_<;>intro hcd<;>try exact Xx))
 rw [h0] at cr
 by_cases h1 : 24 < s.shs.length
 ·have hf : checkS s=901:=by simp [checkS,h0,h1]
  have h1' : (24 : Int) < s.shs.length:=by omega
  rw [hf]
  refine detP_of Tryz.func52 rfl (by kernel_rfl) (by simp [Tryz.f52]) rfl ?_
  intro C hP hN
  simp only [Tryz.f52] at hN ⊢
  with_reducible repeat' (first|refine Sp.h ?_|((first|refine Wd ?_|refine Ss.h ?_|refine Sc.h (cr) ?_|(refine Sb.h ?_ ?_ ?_<;>(try intro hgd)<;>try exact Xy))<;>simp -implicitDefEqProofs (maxSteps:=2000000) [hP,hN,h1,h1']<;>try refine Ya ?_)|refine X2 ?_ ?_|(refine Xd ?_ ?_<;>intro hcd<;>try exact Xx))
 have h1' : ¬ (24 : Int) < s.shs.length:=by omega
 have hf : checkS s=if firstSh s.js.length s.shs≠0 then firstSh s.js.length s.shs else if 64 < s.sks.length then 903 else if s.sks.all (skipB s.js.length)=true then 0 else 903:=by simp only [checkS,h0,h1,if_false,ne_eq,not_true_eq_false]
 rw [hf]
 refine detP_of Tryz.func52 rfl (by kernel_rfl) (by simp [Tryz.f52]) rfl ?_
 intro C hP hN
 simp only [Tryz.f52] at hN ⊢
 with_reducible repeat' (first|refine Sp.h ?_|((first|refine Wd ?_|refine Ss.h ?_|refine Sc.h (cr) ?_|(refine Sb.h ?_ ?_ ?_<;>(try intro hgd)<;>try exact Xy))<;>simp -implicitDefEqProofs (maxSteps:=2000000) [hP,hN,h1,h1']<;>try refine Ya ?_)|refine X2 ?_ ?_|(refine Xd ?_ ?_<;>intro hcd<;>try exact Xx))
 refine WP.loopN [5] s.shs.length (fun i st=>st.t 1=.ptr 1 0∧st.h 1=some (.box [.pv (.sl (s.js.map encJ)),.pv (.sl (s.ms.map encM)),.pv (.sl (s.shs.map encSh)),.pv (.sl (s.sks.map encI))] true false)∧st.t 4=.pv (Z i)∧st.h 5=none∧∀ k x,k < i→s.shs[k]?=some x→errSh s.js.length x=0) (by simp) ?_
 rintro i st hi ⟨g1,hb1,g4,hb5,hq⟩
 by_cases hlt : i < s.shs.length
 ·have hw:=wr_succ hlt l3
  have hlt' : (i : Int) < (s.shs.length : Int):=by omega
  have hfd:=firstSh_found (n:=s.js.length) hlt hq
  have hst:=fun he=>allS (p:=fun x=>errSh s.js.length x==0) (List.getElem?_eq_getElem hlt) (fun k x hk hx=>by simp [hq k x hk hx]) he
  generalize hxe : s.shs[i]=v at *
  have hx : s.shs[i]?=some v:=by rw [List.getElem?_eq_getElem hlt,hxe]
  have ci:=d98 s.js s.ms v.link l1
  have cb:=d99 v.rad 1 1048576
  have lv:=l5 v (List.mem_of_getElem? hx)
  cases hk : linkB s.js.length v.link with
  |false=>
   have hev : errSh s.js.length v=902:=by simp [errSh,hk]
   have hfe:=hfd (by rw [hev];decide)
   rw [hev] at hfe
   rw [hk] at ci
   with_reducible repeat' (first|refine Sp.h ?_|((first|refine Wd ?_|refine Ss.h ?_|refine Sc.h (ci) ?_|(refine Sb.h ?_ ?_ ?_<;>(try intro hgd)<;>try exact Xy))<;>simp -implicitDefEqProofs (maxSteps:=2000000) [hP,hN,g1,hb1,g4,hb5,hlt,hlt',hw,hx,hxe]<;>try refine Ya ?_)|refine X2 ?_ ?_|(refine Xd ?_ ?_<;>intro hcd<;>try exact Xx))
   all_goals simp [hfe]
  |true=>
   rw [hk] at ci
   cases hr : fromB v.rad 1 1048576 with
   |false=>
    have hev : errSh s.js.length v=902:=by
     unfold errSh
     rw [if_neg]
     simp only [fromB] at hr
     simp only [Bool.and_eq_true,decide_eq_true_eq]
     simp at hr
     omega
    have hfe:=hfd (by rw [hev];decide)
    rw [hev] at hfe
    rw [hr] at cb
    with_reducible repeat' (first|refine Sp.h ?_|((first|refine Wd ?_|refine Ss.h ?_|refine Sc.h (ci) ?_|refine Sc.h (cb) ?_|(refine Sb.h ?_ ?_ ?_<;>(try intro hgd)<;>try exact Xy))<;>simp -implicitDefEqProofs (maxSteps:=2000000) [hP,hN,g1,hb1,g4,hb5,hlt,hlt',hw,hx,hxe]<;>try refine Ya ?_)|refine X2 ?_ ?_|(refine Xd ?_ ?_<;>intro hcd<;>try exact Xx))
    all_goals simp [hfe]
   |true=>
    rw [hr] at cb
    by_cases h3 : (v.pts.length : Int) < 1
    ·have hev : errSh s.js.length v=902:=by
      unfold errSh
      rw [if_neg]
      simp only [Bool.and_eq_true,decide_eq_true_eq]
      omega
     have hfe:=hfd (by rw [hev];decide)
     rw [hev] at hfe
     with_reducible repeat' (first|refine Sp.h ?_|((first|refine Wd ?_|refine Ss.h ?_|refine Sc.h (ci) ?_|refine Sc.h (cb) ?_|(refine Sb.h ?_ ?_ ?_<;>(try intro hgd)<;>try exact Xy))<;>simp -implicitDefEqProofs (maxSteps:=2000000) [hP,hN,g1,hb1,g4,hb5,hlt,hlt',hw,hx,hxe,h3]<;>try refine Ya ?_)|refine X2 ?_ ?_|(refine Xd ?_ ?_<;>intro hcd<;>try exact Xx))
     all_goals simp [hfe]
    by_cases h4 : (8 : Int) < v.pts.length
    ·have hev : errSh s.js.length v=902:=by
      unfold errSh
      rw [if_neg]
      simp only [Bool.and_eq_true,decide_eq_true_eq]
      omega
     have hfe:=hfd (by rw [hev];decide)
     rw [hev] at hfe
     with_reducible repeat' (first|refine Sp.h ?_|((first|refine Wd ?_|refine Ss.h ?_|refine Sc.h (ci) ?_|refine Sc.h (cb) ?_|(refine Sb.h ?_ ?_ ?_<;>(try intro hgd)<;>try exact Xy))<;>simp -implicitDefEqProofs (maxSteps:=2000000) [hP,hN,g1,hb1,g4,hb5,hlt,hlt',hw,hx,hxe,h3,h4]<;>try refine Ya ?_)|refine X2 ?_ ?_|(refine Xd ?_ ?_<;>intro hcd<;>try exact Xx))
     all_goals simp [hfe]
    have h3' : ¬ v.pts.length < 1:=by omega
    have h4' : ¬ 8 < v.pts.length:=by omega
    have hev : errSh s.js.length v=if v.pts.all (nearV 4194304)=true then 0 else 805:=by
     unfold errSh
     rw [if_pos]
     simp only [fromB,Bool.and_eq_true,decide_eq_true_eq] at hr ⊢
     exact ⟨⟨⟨⟨hk,by omega⟩,by omega⟩,by omega⟩,by omega⟩
    rw [hev] at hfd hst
    with_reducible repeat' (first|refine Sp.h ?_|((first|refine Wd ?_|refine Ss.h ?_|refine Sc.h (ci) ?_|refine Sc.h (cb) ?_|(refine Sb.h ?_ ?_ ?_<;>(try intro hgd)<;>try exact Xy))<;>simp -implicitDefEqProofs (maxSteps:=2000000) [hP,hN,g1,hb1,g4,hb5,hlt,hlt',hw,hx,hxe,h3,h4,h3',h4']<;>try refine Ya ?_)|refine X2 ?_ ?_|(refine Xd ?_ ?_<;>intro hcd<;>try exact Xx))
    refine WP.loopN [] v.pts.length (fun k st=>st.t 1=.ptr 1 0∧st.h 1=some (.box [.pv (.sl (s.js.map encJ)),.pv (.sl (s.ms.map encM)),.pv (.sl (s.shs.map encSh)),.pv (.sl (s.sks.map encI))] true false)∧st.t 4=.pv (Z i)∧st.t 5=.ptr 5 0∧st.h 5=some (.box [.pv (Z v.link),.pv (Z v.rad),.pv (vecs v.pts)] true false)∧st.t 6=.pv (Z k)∧∀ j x,j < k→v.pts[j]?=some x→nearV 4194304 x=true) (by simp [g1,hb1,g4]) ?_
    clear g1 hb1 g4 hb5
    rintro k st hk2 ⟨g1,hb1,g4,g5,hb5,g6,hn⟩
    by_cases hkl : k < v.pts.length
    ·have hwk:=wr_succ hkl lv
     have hkl' : (k : Int) < (v.pts.length : Int):=by omega
     generalize hye : v.pts[k]=p at *
     have hy : v.pts[k]?=some p:=by rw [List.getElem?_eq_getElem hkl,hye]
     have cn:=d100 p.1 p.2.1 p.2.2 4194304 (by decide) (by decide)
     have hnp : nearV 4194304 p=nearB p.1 p.2.1 p.2.2 4194304:=rfl
     rw [← hnp] at cn
     have hstn:=allS (p:=nearV 4194304) hy hn
     cases hc : nearV 4194304 p with
     |true=>
      rw [hc] at cn
      have hst2:=hstn hc
      with_reducible repeat' (first|refine Sp.h ?_|((first|refine Wd ?_|refine Ss.h ?_|refine Sc.h (cn) ?_|(refine Sb.h ?_ ?_ ?_<;>(try intro hgd)<;>try exact Xy))<;>simp -implicitDefEqProofs (maxSteps:=2000000) [hP,hN,g1,hb1,g4,g5,hb5,g6,hkl,hkl',hwk,hy,hye]<;>try refine Ya ?_)|refine X2 ?_ ?_|(refine Xd ?_ ?_<;>intro hcd<;>try exact Xx))
      all_goals (intro j a b c hj hx2;exact hst2 j (a,b,c) (by omega) hx2)
     |false=>
      rw [hc] at cn
      have hall : v.pts.all (nearV 4194304)=false:=by
       rw [List.all_eq_false]
       exact ⟨p,List.mem_of_getElem? hy,by simp [hc]⟩
      rw [hall] at hfd
      have hfe:=hfd (by decide)
      simp only [Bool.false_eq_true,if_false] at hfe
      with_reducible repeat' (first|refine Sp.h ?_|((first|refine Wd ?_|refine Ss.h ?_|refine Sc.h (cn) ?_|(refine Sb.h ?_ ?_ ?_<;>(try intro hgd)<;>try exact Xy))<;>simp -implicitDefEqProofs (maxSteps:=2000000) [hP,hN,g1,hb1,g4,g5,hb5,g6,hkl,hkl',hwk,hy,hye]<;>try refine Ya ?_)|refine X2 ?_ ?_|(refine Xd ?_ ?_<;>intro hcd<;>try exact Xx))
      all_goals simp [hfe]
    ·have hall : v.pts.all (nearV 4194304)=true:=allL hn hkl
     have hkl' : ¬ (k : Int) < (v.pts.length : Int):=by omega
     rw [hall] at hst
     have hst2 : ∀ k x,k < i+1→s.shs[k]?=some x→errSh s.js.length x=0:=fun k x hk hx=>by simpa using hst (by simp) k x hk hx
     with_reducible repeat' (first|refine Sp.h ?_|((first|refine Wd ?_|refine Ss.h ?_|(refine Sb.h ?_ ?_ ?_<;>(try intro hgd)<;>try exact Xy))<;>simp -implicitDefEqProofs (maxSteps:=2000000) [hP,hN,g1,hb1,g4,g5,hb5,g6,hkl,hkl',hw,hlt]<;>try refine Ya ?_)|refine X2 ?_ ?_|(refine Xd ?_ ?_<;>intro hcd<;>try exact Xx))
     all_goals exact hst2
 ·have hz : firstSh s.js.length s.shs=0:=firstSh_none (fun k x hx=>hq k x (by have:=(List.getElem?_eq_some_iff.1 hx).1;omega) hx)
  have hlt' : ¬ (i : Int) < (s.shs.length : Int):=by omega
  rw [hz]
  by_cases h64 : 64 < s.sks.length
  ·have h64' : (64 : Int) < s.sks.length:=by omega
   with_reducible repeat' (first|refine Sp.h ?_|((first|refine Wd ?_|refine Ss.h ?_|(refine Sb.h ?_ ?_ ?_<;>(try intro hgd)<;>try exact Xy))<;>simp -implicitDefEqProofs (maxSteps:=2000000) [hP,hN,g1,hb1,g4,hb5,hlt,hlt',h64,h64']<;>try refine Ya ?_)|refine X2 ?_ ?_|(refine Xd ?_ ?_<;>intro hcd<;>try exact Xx))
  ·have h64' : ¬ (64 : Int) < s.sks.length:=by omega
   with_reducible repeat' (first|refine Sp.h ?_|((first|refine Wd ?_|refine Ss.h ?_|(refine Sb.h ?_ ?_ ?_<;>(try intro hgd)<;>try exact Xy))<;>simp -implicitDefEqProofs (maxSteps:=2000000) [hP,hN,g1,hb1,g4,hb5,hlt,hlt',h64,h64']<;>try refine Ya ?_)|refine X2 ?_ ?_|(refine Xd ?_ ?_<;>intro hcd<;>try exact Xx))
   refine WP.loopN [] s.sks.length (fun i st=>st.t 1=.ptr 1 0∧st.h 1=some (.box [.pv (.sl (s.js.map encJ)),.pv (.sl (s.ms.map encM)),.pv (.sl (s.shs.map encSh)),.pv (.sl (s.sks.map encI))] true false)∧st.t 7=.pv (Z i)∧∀ k x,k < i→s.sks[k]?=some x→skipB s.js.length x=true) (by simp [g1,hb1]) ?_
   clear g1 hb1 g4 hb5 hq hlt hlt'
   rintro i st hi ⟨g1,hb1,g7,hq⟩
   by_cases hlt : i < s.sks.length
   ·have hw:=wr_succ hlt l4
    have hlt' : (i : Int) < (s.sks.length : Int):=by omega
    generalize hxe : s.sks[i]=v at *
    have hx : s.sks[i]?=some v:=by rw [List.getElem?_eq_getElem hlt,hxe]
    have hst:=allS (p:=skipB s.js.length) hx hq
    have hp : skipB s.js.length v=(linkB s.js.length v.1 && linkB s.js.length v.2):=rfl
    have c1:=d98 s.js s.ms v.1 l1
    have c2:=d98 s.js s.ms v.2 l1
    cases hc : skipB s.js.length v with
    |true=>
     have hp':=hp
     rw [hc] at hp'
     simp only [Bool.true_eq,Bool.and_eq_true] at hp'
     rw [hp'.1] at c1
     rw [hp'.2] at c2
     have hst2:=hst hc
     with_reducible repeat' (first|refine Sp.h ?_|((first|refine Wd ?_|refine Ss.h ?_|refine Sc.h (c1) ?_|refine Sc.h (c2) ?_|(refine Sb.h ?_ ?_ ?_<;>(try intro hgd)<;>try exact Xy))<;>simp -implicitDefEqProofs (maxSteps:=2000000) [hP,hN,g1,hb1,g7,hlt,hlt',hw,hx,hxe]<;>try refine Ya ?_)|refine X2 ?_ ?_|(refine Xd ?_ ?_<;>intro hcd<;>try exact Xx))
     all_goals (intro j a b hj hx2;exact hst2 j (a,b) (by omega) hx2)
    |false=>
     have hall : s.sks.all (skipB s.js.length)=false:=by
      rw [List.all_eq_false]
      exact ⟨v,List.mem_of_getElem? hx,by simp [hc]⟩
     rw [hall]
     rw [hc] at hp
     cases k1 : linkB s.js.length v.1<;>cases k2 : linkB s.js.length v.2<;>rw [k1] at c1 hp<;>rw [k2] at c2 hp<;>try (exact absurd hp (by decide))
     all_goals
      with_reducible repeat' (first|refine Sp.h ?_|((first|refine Wd ?_|refine Ss.h ?_|refine Sc.h (c1) ?_|refine Sc.h (c2) ?_|(refine Sb.h ?_ ?_ ?_<;>(try intro hgd)<;>try exact Xy))<;>simp -implicitDefEqProofs (maxSteps:=2000000) [hP,hN,g1,hb1,g7,hlt,hlt',hw,hx,hxe]<;>try refine Ya ?_)|refine X2 ?_ ?_|(refine Xd ?_ ?_<;>intro hcd<;>try exact Xx))
   ·have hall : s.sks.all (skipB s.js.length)=true:=allL hq hlt
    have hlt' : ¬ (i : Int) < (s.sks.length : Int):=by omega
    rw [hall]
    with_reducible repeat' (first|refine Sp.h ?_|((first|refine Wd ?_|refine Ss.h ?_|(refine Sb.h ?_ ?_ ?_<;>(try intro hgd)<;>try exact Xy))<;>simp -implicitDefEqProofs (maxSteps:=2000000) [hP,hN,g1,hb1,g7,hlt,hlt']<;>try refine Ya ?_)|refine X2 ?_ ?_|(refine Xd ?_ ?_<;>intro hcd<;>try exact Xx))
end Go.Ab
namespace Go.Ab
open Go.Proofs
theorem errJ_lohi {js : List J} {i : Nat} {j : J} (h : errJ js i j=0) : j.lo≤j.hi:=by
 unfold errJ at h
 repeat' split at h
 all_goals (try (cases h;done))
 all_goals omega
theorem checkR_lohi {js : List J} {ms : List Ms} (h : checkR js ms=0) : ∀ (i : Nat) j,js[i]?=some j→j.lo≤j.hi:=by
 unfold checkR at h
 split at h
 ·cases h
 ·split at h
  ·rename_i hne;exact absurd h hne
  ·rename_i he
   intro i j hij
   have he' : firstE js=0:=by simpa using he
   rw [firstE_eq] at he'
   by_cases hz : errJ js i j=0
   ·exact errJ_lohi hz
   ·exfalso
    cases hf : (js.mapIdx (errJ js)).find? (fun e=>e !=0) with
    |none=>
     rw [List.find?_eq_none] at hf
     have hm : errJ js i j ∈ js.mapIdx (errJ js):=by
      rw [List.mem_mapIdx]
      obtain ⟨h1,h2⟩:=List.getElem?_eq_some_iff.1 hij
      exact ⟨i,h1,by rw [h2]⟩
     exact hf _ hm (by simpa using hz)
    |some e=>
     rw [hf] at he'
     have:=List.find?_some hf
     simp only at he'
     rw [he'] at this
     simp at this
def cr1 (js : List J) (n : Nat) : Int:=((carL js)[n]?).getD 0
theorem cr1_zero (js : List J) : cr1 js 0=-1:=by
 have h:=carN_pre (js:=js) (k:=0) js.length (Nat.zero_le _) (Nat.le_refl _) 0 (Nat.le_refl _)
 have : (carL js)[0]?=some (-1):=by rw [carL,h];rfl
 simp [cr1,this]
theorem cr1_succ {js : List J} (hj : jsOk js) {n : Nat} {j : J} (h : js[n]?=some j) : cr1 js (n+1)=if j.lo=j.hi then cr1 js (j.parent+1).toNat else (n : Int):=by
 have:=carL_at h (hj n j h)
 simp [cr1,this]
def mvIn (js : List J) (l : Int) (k : Nat) : Prop:=memB (chL js 11 l) k=true∧mvB js k=true
theorem memB_iff {xs : List Int} {x : Int} : memB xs x=true↔x ∈ xs:=by
 simp [memB]
theorem chL_world (js : List J) : chL js 11 (-1)=[]:=by simp [chL]
theorem mvIn_succ {js : List J} (hj : jsOk js) (hl : js.length≤10) {n : Nat} {j : J} (h : js[n]?=some j) (k : Nat) : mvIn js n k↔mvIn js j.parent k∨(k=n∧mvB js n=true):=by
 have hlt : n < js.length:=(List.getElem?_eq_some_iff.1 h).1
 have hst:=chL_step hj hl (k:=n) (by omega) (by omega)
 have hp : parO js n=j.parent:=by simp [parO,h]
 rw [hp] at hst
 simp only [mvIn,hst,memB_iff,List.mem_append,List.mem_singleton]
 constructor
 ·rintro ⟨h1|h1,h2⟩
  ·exact .inl ⟨h1,h2⟩
  ·have : k=n:=by omega
   subst this;exact .inr ⟨rfl,h2⟩
 ·rintro (⟨h1,h2⟩|⟨rfl,h2⟩)
  ·exact ⟨.inl h1,h2⟩
  ·exact ⟨.inr rfl,h2⟩
theorem mvB_eq {js : List J} {n : Nat} {j : J} (h : js[n]?=some j) (hle : j.lo≤j.hi) : mvB js n=!decide (j.lo=j.hi):=by
 simp only [mvB,h]
 by_cases he : j.lo=j.hi
 ·simp [he]
 ·simp [he];omega
theorem car_is {js : List J} (hj : jsOk js) (hl : js.length≤10) (hle : ∀ (i : Nat) j,js[i]?=some j→j.lo≤j.hi) : ∀ (m n : Nat),n≤m→n≤js.length→(cr1 js n=-1∧∀ k,¬ mvIn js ((n : Int) - 1) k)∨(∃ c : Nat,cr1 js n=c∧c < js.length∧mvIn js ((n : Int) - 1) c∧∀ k,mvIn js ((n : Int) - 1) k↔mvIn js c k)
 |m,0,_,_=>by
  left
  refine ⟨cr1_zero js,fun k h=>?_⟩
  have:=h.1
  rw [show ((0 : Nat) : Int) - 1=-1 by omega,chL_world] at this
  cases this
 |0,n+1,h,_=>by omega
 |m+1,n+1,hm,hn=>by
  have hx : js[n]?=some (js[n]'(by omega)):=List.getElem?_eq_getElem _
  generalize js[n]'(by omega)=j at hx
  have hok:=hj n j hx
  unfold jOk1 at hok
  have hs:=cr1_succ hj hx
  have hmv:=mvB_eq hx (hle n j hx)
  rw [show ((n+1 : Nat) : Int) - 1=(n : Int) by omega]
  by_cases he : j.lo=j.hi
  ·rw [if_pos he] at hs
   simp only [he,decide_true,Bool.not_true] at hmv
   have hiff : ∀ k,mvIn js n k↔mvIn js j.parent k:=fun k=>by
    rw [mvIn_succ hj hl hx k,hmv];simp
   have ih:=car_is hj hl hle m (j.parent+1).toNat (by omega) (by omega)
   rw [show (((j.parent+1).toNat : Nat) : Int) - 1=j.parent by omega,← hs] at ih
   rcases ih with ⟨h1,h2⟩|⟨c,h1,h2,h3,h4⟩
   ·exact .inl ⟨h1,fun k hk=>h2 k ((hiff k).1 hk)⟩
   ·exact .inr ⟨c,h1,h2,(hiff c).2 h3,fun k=>(hiff k).trans (h4 k)⟩
  ·rw [if_neg he] at hs
   simp only [he,decide_false,Bool.not_false] at hmv
   exact .inr ⟨n,hs,by omega,(mvIn_succ hj hl hx n).2 (.inr ⟨rfl,hmv⟩),fun k=>Iff.rfl⟩
theorem chL_le {js : List J} (hj : jsOk js) : ∀ (f : Nat) (l : Int),-1≤l→l < js.length→∀ x ∈ chL js f l,0≤x∧x≤l
 |0,l,_,_,x,hx=>by cases hx
 |f+1,l,h0,h1,x,hx=>by
  rw [chL] at hx
  split at hx
  ·cases hx
  ·obtain ⟨j,_,hp,a,b⟩:=parO_at hj (k:=l) (by omega) h1
   rcases List.mem_append.1 hx with hx|hx
   ·have:=chL_le hj f (parO js l) (by omega) (by omega) x hx;omega
   ·rw [List.mem_singleton] at hx;omega
theorem rgR_iff {js : List J} {a b : Int} : rgR js a b=true↔∀ k,k < js.length→mvB js k=true→(memB (chL js 11 a) k=memB (chL js 11 b) k):=by
 simp only [rgR,btL,List.all_eq_true,List.mem_map,List.mem_filter,List.mem_range]
 constructor
 ·intro h k hk hm
  cases hc : (memB (chL js 11 a) k !=memB (chL js 11 b) k) with
  |false=>simpa using hc
  |true=>
   have:=h (k : Int) ⟨k,⟨hk,hc⟩,rfl⟩
   rw [Int.toNat_natCast,hm] at this
   cases this
 ·rintro h x ⟨k,⟨hk,hc⟩,rfl⟩
  cases hm : mvB js k with
  |false=>rw [show (Int.ofNat k).toNat=k from rfl,hm];rfl
  |true=>
   have:=h k hk hm
   simp only [btw,this,bne_self_eq_false] at hc
   cases hc
theorem mv_lt {js : List J} {k : Nat} (h : mvB js k=true) : k < js.length:=by
 unfold mvB at h
 split at h
 ·rename_i j hj;exact (List.getElem?_eq_some_iff.1 hj).1
 ·cases h
theorem rigid_eq {js : List J} {ms : List Ms} (h0 : checkR js ms=0) {a b : Int} (ha : linkB js.length a=true) (hb : linkB js.length b=true) : (cr1 js (a+1).toNat==cr1 js (b+1).toNat)=rgR js a b:=by
 obtain ⟨hj,hl,_⟩:=checkR_ok h0
 have hle:=checkR_lohi h0
 simp only [linkB,Bool.and_eq_true,decide_eq_true_eq] at ha hb
 have ca:=car_is hj hl hle _ (a+1).toNat (Nat.le_refl _) (by omega)
 have cb:=car_is hj hl hle _ (b+1).toNat (Nat.le_refl _) (by omega)
 rw [show (((a+1).toNat : Nat) : Int) - 1=a by omega] at ca
 rw [show (((b+1).toNat : Nat) : Int) - 1=b by omega] at cb
 have e : (cr1 js (a+1).toNat==cr1 js (b+1).toNat)=true↔rgR js a b=true:=by
  rw [rgR_iff,beq_iff_eq]
  have hR : (∀ k,k < js.length→mvB js k=true→(memB (chL js 11 a) k=memB (chL js 11 b) k))↔∀ k,mvIn js a k↔mvIn js b k:=by
   constructor
   ·intro h k
    simp only [mvIn]
    constructor
    ·rintro ⟨h1,h2⟩;rw [h k (mv_lt h2) h2] at h1;exact ⟨h1,h2⟩
    ·rintro ⟨h1,h2⟩;rw [← h k (mv_lt h2) h2] at h1;exact ⟨h1,h2⟩
   ·intro h k hk hm
    have:=h k
    simp only [mvIn,hm,and_true] at this
    cases h1 : memB (chL js 11 a) k<;>cases h2 : memB (chL js 11 b) k<;>simp_all
  rw [hR]
  rcases ca with ⟨a1,a2⟩|⟨c,a1,a2,a3,a4⟩<;>rcases cb with ⟨b1,b2⟩|⟨d,b1,b2,b3,b4⟩<;>rw [a1,b1]
  ·exact ⟨fun _ k=>⟨fun h=>absurd h (a2 k),fun h=>absurd h (b2 k)⟩,fun _=>rfl⟩
  ·exact ⟨fun h=>by omega,fun h=>absurd ((h d).2 b3) (a2 d)⟩
  ·exact ⟨fun h=>by omega,fun h=>absurd ((h c).1 a3) (b2 c)⟩
  ·constructor
   ·intro h k
    have : c=d:=by omega
    subst this
    rw [a4,b4]
   ·intro h
    have h1:=(h c).1 a3
    have h2:=(h d).2 b3
    rw [b4] at h1
    rw [a4] at h2
    have k1:=chL_le hj 11 d (by omega) (by omega) c (memB_iff.1 h1.1)
    have k2:=chL_le hj 11 c (by omega) (by omega) d (memB_iff.1 h2.1)
    omega
 cases h1 : (cr1 js (a+1).toNat==cr1 js (b+1).toNat)<;>cases h2 : rgR js a b<;>simp_all
theorem pairB_eq {s : Sce} (h0 : checkS s=0) {a b : Sh} (ha : linkB s.js.length a.link=true) (hb : linkB s.js.length b.link=true) : pairB s a b=(!(a.link==b.link) && !rgR s.js a.link b.link && !skipped s a.link b.link):=by
 have hr : checkR s.js s.ms=0:=by
  unfold checkS at h0
  split at h0
  ·rename_i h;exact absurd h0 h
  ·rename_i h;simpa using h
 have e:=rigid_eq hr ha hb
 have hrig : rigB (carL s.js) a b=rgR s.js a.link b.link:=e
 unfold pairB
 rw [hrig]
 by_cases he : a.link=b.link
 ·have : rgR s.js a.link b.link=true:=by
   rw [rgR_iff,he];exact fun _ _ _=>rfl
  rw [this]
  simp
 ·have : (a.link==b.link)=false:=by simp [he]
  rw [this]
  simp
set_option maxHeartbeats 8000000 in
theorem d19 (s : Sce) (hs : ScL s) : DetH Tryz.prog 19 [.pv (encSc s)] [] [] (.pv (.sl ((pairsL s).map encPr))):=by
 have cc:=d52 s hs
 have csk:=fun a b=>d54 s a b hs.sks
 by_cases h0 : checkS s=0
 case neg=>
  have h0' : (checkS s !=0)=true:=by simp [h0]
  have hf : pairsL s=[]:=by simp [pairsL,h0]
  rw [hf]
  generalize checkS s=r at *
  refine detP_of Tryz.func19 rfl (by kernel_rfl) (by simp [Tryz.f19]) rfl ?_
  intro C hP hN
  simp only [Tryz.f19] at hN ⊢
  with_reducible repeat' (first|refine Sp.h ?_|((first|refine Wd ?_|refine Ss.h ?_|refine Sc.h (cc) ?_|(refine Sb.h ?_ ?_ ?_<;>(try intro hgd)<;>try exact Xy))<;>simp -implicitDefEqProofs (maxSteps:=2000000) [hP,hN,h0',h0]<;>try refine Ya ?_)|refine X2 ?_ ?_|(refine Xd ?_ ?_<;>intro hcd<;>try exact Xx))
 have hr : checkR s.js s.ms=0:=by
  unfold checkS at h0
  split at h0
  ·rename_i h;exact absurd h0 h
  ·rename_i h;simpa using h
 obtain ⟨v1,v2,v3,v4,v5,v6,v7⟩:=checkS_ok h0
 have crg:=fun a b=>d53 s.js s.ms a b v2 hs.ms hr
 have hpb:=fun a b=>pairB_eq h0 (a:=a) (b:=b)
 have hf : pairsL s=prN s s.shs.length:=by simp [pairsL,h0]
 rw [hf]
 rw [h0] at cc
 have nL:=prN_len s
 have iL:=prI_len s
 refine detP_of Tryz.func19 rfl (by kernel_rfl) (by simp [Tryz.f19]) rfl ?_
 intro C hP hN
 simp only [Tryz.f19] at hN ⊢
 with_reducible repeat' (first|refine Sp.h ?_|((first|refine Wh [3] ?_|refine Wi [3] ?_|refine Ss.h ?_|refine Sc.h (cc) ?_|(refine Sb.h ?_ ?_ ?_<;>(try intro hgd)<;>try exact Xy))<;>simp -implicitDefEqProofs (maxSteps:=2000000) [hP,hN]<;>try refine Ya ?_)|refine X2 ?_ ?_|(refine Xd ?_ ?_<;>intro hcd<;>try exact Xx))
 refine WP.loopN [] s.shs.length (fun i st=>st.t 1=.ptr 1 0∧st.h 1=some (.box [.pv (.sl (s.js.map encJ)),.pv (.sl (s.ms.map encM)),.pv (.sl (s.shs.map encSh)),.pv (.sl (s.sks.map encI))] true false)∧st.t 4=.pv (Z i)∧st.t 3=.arr 3 (prN s i).length∧st.h 3=some (.row 113 2 ((prN s i).map encPr) 0)) (by simp [prN]) ?_
 rintro i st hi ⟨g1,hb1,g4,g3,hb3⟩
 by_cases hlt : i < s.shs.length
 ·have hw:=wr_succ hlt (by omega)
  have hlt' : (i : Int) < (s.shs.length : Int):=by omega
  generalize hxe : s.shs[i]=a at *
  have hx : s.shs[i]?=some a:=by rw [List.getElem?_eq_getElem hlt,hxe]
  have hla:=(v6 a (List.mem_of_getElem? hx)).1
  have hsucc : prN s (i+1)=prN s i++prI s i s.shs.length:=rfl
  have nLi:=nL i
  have hnn : i * s.shs.length≤24 * 24:=Nat.mul_le_mul (by omega) (by omega)
  have hI0:=prI_nil s i (i+1) (Nat.le_refl _)
  with_reducible repeat' (first|refine Sp.h ?_|((first|refine Wd ?_|refine Ss.h ?_|(refine Sb.h ?_ ?_ ?_<;>(try intro hgd)<;>try exact Xy))<;>simp -implicitDefEqProofs (maxSteps:=2000000) [hP,hN,g1,hb1,g4,g3,hb3,hlt,hlt',hw]<;>try refine Ya ?_)|refine X2 ?_ ?_|(refine Xd ?_ ?_<;>intro hcd<;>try exact Xx))
  refine WP.loopN [] (s.shs.length - (i+1)) (fun q st=>st.t 1=.ptr 1 0∧st.h 1=some (.box [.pv (.sl (s.js.map encJ)),.pv (.sl (s.ms.map encM)),.pv (.sl (s.shs.map encSh)),.pv (.sl (s.sks.map encI))] true false)∧st.t 4=.pv (Z i)∧st.t 5=.pv (Z ((i+1+q : Nat) : Int))∧st.t 3=.arr 3 (prN s i++prI s i (i+1+q)).length∧st.h 3=some (.row 113 2 ((prN s i++prI s i (i+1+q)).map encPr) 0)) (by simp [g1,hb1,g4,g3,hb3,hI0]) ?_
  clear g1 hb1 g4 g3 hb3
  rintro q st hq ⟨g1,hb1,g4,g5,g3,hb3⟩
  obtain ⟨k,hk⟩ : ∃ k,k=i+1+q:=⟨_,rfl⟩
  have hk2 : i+1+(q+1)=k+1:=by omega
  rw [← hk] at g5 g3 hb3
  rw [hk2]
  have hIk : prI s i (k+1)=prI s i k++(if i < k∧pairAt s i k=true then [(i,k)] else []):=rfl
  have hlk:=iL i k
  by_cases hkl : k < s.shs.length
  ·have hkl' : (k : Int) < (s.shs.length : Int):=by omega
   have hwk : IntKind.i64.wrap ((k : Int)+1)=(k : Int)+1:=wr_id (by omega) (by omega)
   generalize hye : s.shs[k]=b at *
   have hy : s.shs[k]?=some b:=by rw [List.getElem?_eq_getElem hkl,hye]
   have hlb:=(v6 b (List.mem_of_getElem? hy)).1
   have hpa : pairAt s i k=(!(a.link==b.link) && !rgR s.js a.link b.link && !skipped s a.link b.link):=by
    simp only [pairAt,hx,hy];exact hpb a b hla hlb
   have cs:=csk a.link b.link
   have cg:=crg a.link b.link hla hlb
   have hik : i < k:=by omega
   have hlen : (prN s i++prI s i k).length≤1000:=by simp only [List.length_append];omega
   generalize hPdef : prN s i++prI s i k=P at *
   have hq2 : q < s.shs.length - (i+1):=by omega
   have hPs : prN s i++prI s i (k+1)=P++(if pairAt s i k=true then [(i,k)] else []):=by
    rw [hIk,← List.append_assoc,hPdef]
    simp [hik]
   rw [hPs]
   generalize skipped s a.link b.link=sk at *
   generalize rgR s.js a.link b.link=rg at *
   by_cases hab : a.link=b.link
   ·have hpa' : pairAt s i k=false:=by rw [hpa,hab];simp
    rw [hpa']
    with_reducible repeat' (first|refine Sp.h ?_|((first|refine Wd ?_|refine Ss.h ?_|(refine Sb.h ?_ ?_ ?_<;>(try intro hgd)<;>try exact Xy))<;>simp -implicitDefEqProofs (maxSteps:=2000000) [hP,hN,g1,hb1,g4,g5,g3,hb3,hkl,hkl',hwk,hx,hxe,hy,hye,hab,hlt,hlt',hq2]<;>try refine Ya ?_)|refine X2 ?_ ?_|(refine Xd ?_ ?_<;>intro hcd<;>try exact Xx))
   ·have hab' : (a.link !=b.link)=true:=by simp [hab]
    have hab2 : (a.link==b.link)=false:=by simp [hab]
    rw [hab2] at hpa
    cases rg with
    |true=>
     have hpa' : pairAt s i k=false:=by rw [hpa];rfl
     rw [hpa']
     with_reducible repeat' (first|refine Sp.h ?_|((first|refine Wd ?_|refine Ss.h ?_|refine Sc.h (cs) ?_|refine Sc.h (cg) ?_|(refine Sb.h ?_ ?_ ?_<;>(try intro hgd)<;>try exact Xy))<;>simp -implicitDefEqProofs (maxSteps:=2000000) [hP,hN,g1,hb1,g4,g5,g3,hb3,hkl,hkl',hwk,hx,hxe,hy,hye,hab,hab',hlt,hlt',hq2]<;>try refine Ya ?_)|refine X2 ?_ ?_|(refine Xd ?_ ?_<;>intro hcd<;>try exact Xx))
    |false=>
     cases sk with
     |true=>
      have hpa' : pairAt s i k=false:=by rw [hpa];rfl
      rw [hpa']
      with_reducible repeat' (first|refine Sp.h ?_|((first|refine Wd ?_|refine Ss.h ?_|refine Sc.h (cs) ?_|refine Sc.h (cg) ?_|(refine Sb.h ?_ ?_ ?_<;>(try intro hgd)<;>try exact Xy))<;>simp -implicitDefEqProofs (maxSteps:=2000000) [hP,hN,g1,hb1,g4,g5,g3,hb3,hkl,hkl',hwk,hx,hxe,hy,hye,hab,hab',hlt,hlt',hq2]<;>try refine Ya ?_)|refine X2 ?_ ?_|(refine Xd ?_ ?_<;>intro hcd<;>try exact Xx))
     |false=>
      have hpa' : pairAt s i k=true:=by rw [hpa];rfl
      rw [hpa']
      with_reducible repeat' (first|refine Sp.h ?_|((first|refine Wd ?_|refine Ss.h ?_|refine Sc.h (cs) ?_|refine Sc.h (cg) ?_|(refine Sb.h ?_ ?_ ?_<;>(try intro hgd)<;>try exact Xy))<;>simp -implicitDefEqProofs (maxSteps:=2000000) [hP,hN,g1,hb1,g4,g5,g3,hb3,hkl,hkl',hwk,hx,hxe,hy,hye,hab,hab',hlt,hlt',hq2,show (P.length+1) * 16≤140737488355328 by omega,show P.length≤9223372036854775806 by omega]<;>try refine Ya ?_)|refine X2 ?_ ?_|(refine Xd ?_ ?_<;>intro hcd<;>try exact Xx))
  ·have hkn : k=s.shs.length:=by omega
   have hkl' : ¬ (k : Int) < (s.shs.length : Int):=by omega
   rw [hkn,← hsucc] at g3 hb3
   with_reducible repeat' (first|refine Sp.h ?_|((first|refine Wd ?_|refine Ss.h ?_|(refine Sb.h ?_ ?_ ?_<;>(try intro hgd)<;>try exact Xy))<;>simp -implicitDefEqProofs (maxSteps:=2000000) [hP,hN,g1,hb1,g4,g5,g3,hb3,hkl,hkl',hw,hlt]<;>try refine Ya ?_)|refine X2 ?_ ?_|(refine Xd ?_ ?_<;>intro hcd<;>try exact Xx))
 ·have hin : i=s.shs.length:=by omega
  subst hin
  with_reducible repeat' (first|refine Sp.h ?_|((first|refine Wd ?_|refine Ss.h ?_|(refine Sb.h ?_ ?_ ?_<;>(try intro hgd)<;>try exact Xy))<;>simp -implicitDefEqProofs (maxSteps:=2000000) [hP,hN,g1,hb1,g4,g3,hb3]<;>try refine Ya ?_)|refine X2 ?_ ?_|(refine Xd ?_ ?_<;>intro hcd<;>try exact Xx))
end Go.Ab
namespace Go.Ab
open Go.Proofs
theorem box_ok {s : Sce} {bx : List Iv} (hl : bx.length=s.js.length) (hv : ∀ x ∈ bx,validB x.1 x.2=true) : isBoxB s.js bx=true:=by
 simp only [isBoxB,allB,Bool.and_eq_true,decide_eq_true_eq,List.all_eq_true]
 exact ⟨hl,hv⟩
theorem boxV_zero_len {s : Sce} {bx : List Iv} {hs ns : List Vc} (hb : isBoxB s.js bx=true) (h : boxV s bx hs=⟨0,ns,⟨0,[],[]⟩⟩) (hc : ns.length=(pairsL s).length∨placeOk s bx=false) : ns.length=(pairsL s).length:=by
 rcases hc with hc|hc
 ·exact hc
 ·rw [boxV,if_neg (by simp [hc])] at h
  injection h with _ h2 _
  subst h2
  have : checkS s≠0:=fun h0=>by simp [placeOk,h0,hb] at hc
  simp [pairsL,this]
theorem hintsL_len (l : List Int) : (hintsL l).length≤6:=by
 have hx:=nx_range l 0 (k:=6) (by decide) (by decide)
 unfold hintsL
 rw [hintL_len]
 unfold hintK
 omega
set_option maxHeartbeats 4000000 in
theorem d4 (l m o : List Int) : DetH Tryz.prog 4 [.pv (zs l),.pv (zs m),.pv (zs o)] [] [] (.pv (B true)):=by
 have c0:=d13
 have c1:=d11 l
 have hL:=mkSc_L l
 have hj:=rJs_len l 0
 have c2:=d12 m (rJs l 0) (rMs l 0) (by omega) (rJs_ok l 0)
 have hjs : (mkSc l).js=rJs l 0:=rfl
 have hms : (mkSc l).ms=rMs l 0:=rfl
 have hbl:=mkBox_len m (rJs l 0)
 have hv:=mkBox_valid (l:=m) (rJs_ok l 0)
 generalize mkBoxL m (rJs l 0)=b at *
 rw [← hjs,← hms] at c2
 have hh:=hintsL_len o
 have ch:=d17 o
 generalize hintsL o=H at *
 have c3:=d15 (mkSc l) b H hL (by omega) (by omega)
 have hbx:=box_ok (s:=mkSc l) hbl hv
 have c4:=d19 (mkSc l) hL
 have hpl : (pairsL (mkSc l)).length≤9223372036854775807:=by
  have h1:=prN_len (mkSc l) (mkSc l).shs.length
  by_cases h0 : checkS (mkSc l)=0
  ·obtain ⟨v1,v2,v3,v4,_⟩:=checkS_ok h0
   have hm : (mkSc l).shs.length * (mkSc l).shs.length≤24 * 24:=Nat.mul_le_mul v4 v4
   unfold pairsL;rw [if_pos h0];omega
  ·simp [pairsL,h0]
 generalize mkSc l=s at *
 have hvl:=boxV_len s b H
 have cc:=d18 s b (boxV s b H) hL (by omega) (by omega) (by omega) (by omega)
 rw [checkV_box] at cc
 have hlen : (boxV s b H).kind≠2→(boxV s b H).ns.length=(pairsL s).length:=by
  intro hk
  rcases boxV_is s b H with ⟨w,h1,h2⟩|⟨ns,h1,h2⟩|⟨ns,h1,h2⟩
  ·rw [h1] at hk;exact absurd rfl hk
  ·rw [h1]
   simp only [holdsSep,Bool.and_eq_true,sepAll_iff] at h2
   exact h2.2.1
  ·have:=boxV_zero_len hbx h1 h2
   rw [h1];exact this
 generalize pairsL s=P at *
 generalize boxV s b H=v at *
 obtain ⟨k,ns,w⟩:=v
 simp only at hlen c3 cc
 by_cases h1 : k=1
 ·subst h1
  have hl:=hlen (by decide)
  simp at cc
  refine detP_of Tryz.func4 rfl (by kernel_rfl) (by simp [Tryz.f4]) rfl ?_
  intro C hP hN
  simp only [Tryz.f4] at hN ⊢
  with_reducible repeat' (first|refine Sp.h ?_|((first|refine Wd ?_|refine Ss.h ?_|refine Sc.h (c0) ?_|refine Sc.h (c1) ?_|refine Sc.h (c2) ?_|refine Sc.h (ch) ?_|refine Sc.h (c3) ?_|refine Sc.h (cc) ?_|refine Sc.h (c4) ?_|(refine Sb.h ?_ ?_ ?_<;>(try intro hgd)<;>try exact Xy))<;>simp -implicitDefEqProofs (maxSteps:=2000000) [hP,hN,hl]<;>try refine Ya ?_)|refine X2 ?_ ?_|(refine Xd ?_ ?_<;>intro hcd<;>try exact Xx))
 ·by_cases h2 : k=2
  ·subst h2
   simp at cc
   refine detP_of Tryz.func4 rfl (by kernel_rfl) (by simp [Tryz.f4]) rfl ?_
   intro C hP hN
   simp only [Tryz.f4] at hN ⊢
   with_reducible repeat' (first|refine Sp.h ?_|((first|refine Wd ?_|refine Ss.h ?_|refine Sc.h (c0) ?_|refine Sc.h (c1) ?_|refine Sc.h (c2) ?_|refine Sc.h (ch) ?_|refine Sc.h (c3) ?_|refine Sc.h (cc) ?_|refine Sc.h (c4) ?_|(refine Sb.h ?_ ?_ ?_<;>(try intro hgd)<;>try exact Xy))<;>simp -implicitDefEqProofs (maxSteps:=2000000) [hP,hN]<;>try refine Ya ?_)|refine X2 ?_ ?_|(refine Xd ?_ ?_<;>intro hcd<;>try exact Xx))
  ·have hl:=hlen h2
   have e1 : (k==1)=false:=by simp [h1]
   have e2 : (k==2)=false:=by simp [h2]
   simp [h1,h2] at cc
   refine detP_of Tryz.func4 rfl (by kernel_rfl) (by simp [Tryz.f4]) rfl ?_
   intro C hP hN
   simp only [Tryz.f4] at hN ⊢
   with_reducible repeat' (first|refine Sp.h ?_|((first|refine Wd ?_|refine Ss.h ?_|refine Sc.h (c0) ?_|refine Sc.h (c1) ?_|refine Sc.h (c2) ?_|refine Sc.h (ch) ?_|refine Sc.h (c3) ?_|refine Sc.h (cc) ?_|refine Sc.h (c4) ?_|(refine Sb.h ?_ ?_ ?_<;>(try intro hgd)<;>try exact Xy))<;>simp -implicitDefEqProofs (maxSteps:=2000000) [hP,hN,hl,e1,e2,h1,h2]<;>try refine Ya ?_)|refine X2 ?_ ?_|(refine Xd ?_ ?_<;>intro hcd<;>try exact Xx))
end Go.Ab
namespace Go.Ab
open Go.Proofs Go.Proofs.YtcalbhjelehlgaaGreat
section
variable {H : Type}
theorem one_slW {t te : TypeId} {d : DataW H} {l : List PV} (hu : Tryz.prog.underlying t=some (.slice te)) (hf : Fit Tryz.prog t d) (h : rd1 d=.sl l) : rdC d=[.sl l]:=by
 obtain ⟨n,hf⟩:=hf
 cases n with
 |zero=>exact hf.elim
 |succ n=>
  simp only [FitD,hu] at hf
  rcases hf with rfl|⟨es,sp,rfl,_⟩
  ·simp only [rd1] at h;simp [rdC,← h]
  ·simp only [rd1] at h;simp [rdC,← h]
def wtSz (w : Wit) : Nat:=w.a.length+w.b.length
def wtQ (w : Wit) : Prop:=w.a.length≤9223372036854775807∧w.b.length≤9223372036854775807
theorem rd_witness : Reads H Tryz.prog 39 encWt wtQ wtSz:=by
 intro d h
 obtain ⟨ws,rfl,w1,w2⟩:=fit_struct Tryz.underlying39 h
 obtain ⟨b0,b1,b2,rfl⟩:=len3 w1
 obtain ⟨pr,rfl,_⟩:=fit_int (H:=H) Tryz.underlying3 (w2 0 _ _ rfl rfl)
 have f3 : Fit Tryz.prog 37 b1:=w2 1 _ _ rfl rfl
 have f4 : Fit Tryz.prog 37 b2:=w2 2 _ _ rfl rfl
 obtain ⟨l1,e3,q3,s3⟩:=rd_int64s (H:=H) b1 f3
 obtain ⟨l2,e4,q4,s4⟩:=rd_int64s (H:=H) b2 f4
 have c3:=one_slW Tryz.underlying37 f3 e3
 have c4:=one_slW Tryz.underlying37 f4 e4
 have n3:=sum_len (fun _ : Int=>1) (fun _=>Nat.le_refl _) l1
 have n4:=sum_len (fun _ : Int=>1) (fun _=>Nat.le_refl _) l2
 refine ⟨⟨pr,l1,l2⟩,by simp [rd1,rdC,rdA,c3,c4,mkAgg,vals?],⟨q3.1,q4.1⟩,?_⟩
 simp only [wtSz,bulk,bulkL] at *
 omega
end
end Go.Ab
namespace Go.Ab
open Go.Proofs
set_option maxHeartbeats 4000000 in
theorem r17 (l : List Int) : DetH Tryz.prog 17 [.pv (zs l)] [] [] (.row 55 3 ((hintsL l).map encVec)):=by
 have hx:=nx_range l 0 (k:=6) (by decide) (by decide)
 have hk : nx l 0 6=((hintK l : Nat) : Int):=by unfold hintK;omega
 have hk3 : hintK l < 6:=by unfold hintK;omega
 have hl1:=nn_le l 0
 refine detP_of Tryz.func17 rfl (by kernel_rfl) (by simp [Tryz.f17]) rfl ?_
 intro C hP hN
 simp only [Tryz.f17] at hN ⊢
 with_reducible repeat' (first|refine Sp.h ?_|((first|refine Wh [4] ?_|refine Ss.h ?_|refine Sc.h (d29 _) ?_|refine Sc.h (d31 l 0 6 (by decide) (by omega)) ?_|(refine Sb.h ?_ ?_ ?_<;>(try intro hgd)<;>try exact Xy))<;>simp -implicitDefEqProofs (maxSteps:=2000000) [hP,hN,srcP,hk])|refine X2 ?_ ?_|(refine Xd ?_ ?_<;>intro hcd<;>try exact Xx))
 refine WP.loopN [] (hintK l) (fun i st=>st.t 3=.ptr 7 0∧st.t 5=.pv (Z ((hintK l : Int) - i))∧
  st.h 7=some (.box [.pv (zs l),.pv (Z (mpS l (nn l 0) i))] true false)∧st.t 4=.arr 4 i∧st.h 4=some (.row 55 3 ((hintL l (nn l 0) i).map encVec) 0)) (by simp [mpS,hintL]) ?_
 rintro i st hi ⟨h3,h5,hb7,h4,hb23⟩
 have hz:=hintL_len l (nn l 0) i
 by_cases hlt : i < hintK l
 ·have hw : IntKind.i64.wrap ((hintK l : Int) - i - 1)=(hintK l : Int) - ((i : Int)+1):=by rw [IntKind.wrap_i64];omega
  have hgt : (0 : Int) < (hintK l : Int) - i:=by omega
  have hm2:=mpS_le l (nn l 0) i
  have l1:=nn_le l (mpS l (nn l 0) i)
  have l2:=nn_le l (nn l (mpS l (nn l 0) i))
  have hJ:=hintL_succ l (nn l 0) i
  have hS : mpS l (nn l 0) (i+1)=nn l (nn l (nn l (mpS l (nn l 0) i))):=rfl
  with_reducible repeat' (first|refine Sp.h ?_|((first|refine Ss.h ?_|refine Sc.h (d31 l _ 1048576 (by decide) (by omega)) ?_|refine Sc.h (d25 _ _ _) ?_|(refine Sb.h ?_ ?_ ?_<;>(try intro hgd)<;>try exact Xy))<;>simp -implicitDefEqProofs (maxSteps:=2000000) [hP,hN,h3,h4,h5,hb7,hb23,hlt,hw,hgt,hS,hz,show (i+1) * 24≤140737488355328 by omega,show i≤9223372036854775806 by omega])|refine X2 ?_ ?_|(refine Xd ?_ ?_<;>intro hcd<;>try exact Xx))
  all_goals simp [hJ,hintF]
 ·have hir : i=hintK l:=by omega
  subst hir
  with_reducible repeat' (first|refine Sp.h ?_|((first|refine Ss.h ?_|(refine Sb.h ?_ ?_ ?_<;>(try intro hgd)<;>try exact Xy))<;>simp -implicitDefEqProofs (maxSteps:=2000000) [hP,hN,h3,h4,h5,hb7,hb23,hz])|refine X2 ?_ ?_|(refine Xd ?_ ?_<;>intro hcd<;>try exact Xx))
  exact ⟨4,⟨rfl,by simp [hintsL,hz]⟩,by rw [hb23];rfl⟩
def altA (l : List Int) (j k : Nat) : List Int:=(l.set j (wr ((l[j]?).getD 0 - wr (((l[j]?).getD 0).tdiv 2)))).set k (wr (((l.set j (wr ((l[j]?).getD 0 - wr (((l[j]?).getD 0).tdiv 2))))[k]?).getD 0+wr (((l[j]?).getD 0).tdiv 2)))
theorem mapZ_set (l : List Int) (i : Nat) (y : Int) : (List.map Z l).set i (PV.val (Value.int IntKind.i64 y))=List.map Z (l.set i y):=by simp
set_option maxHeartbeats 8000000 in
theorem altEx (w : Wit) (how at' x : Int) (ha : w.a.length≤1048576) (hb : w.b.length≤1048576) : ∃ k ns w',DetH Tryz.prog 23 [.pv (.agg [Z 2,.sl [],Z w.pair,zs w.a,zs w.b]),.pv (Z how),.pv (Z at'),.pv (Z x)] [] [] (.pv (encVt ⟨k,ns,w'⟩))∧w'.a.length≤2000000∧w'.b.length≤2000000:=by
 have r7:=round_rng how (k:=7) (by decide) (by decide)
 have r5:=round_rng x (k:=5) (by decide) (by decide)
 have r3:=round_rng x (k:=3) (by decide) (by decide)
 have e5 : IntKind.i64.wrap (roundI x 5 - 1)=roundI x 5 - 1:=wr_id (by omega) (by omega)
 have e3 : IntKind.i64.wrap (roundI x 3 - 1)=roundI x 3 - 1:=wr_id (by omega) (by omega)
 have e3' : IntKind.i64.wrap (roundI x 3)=roundI x 3:=wr_id (by omega) (by omega)
 obtain ⟨pr,A,B'⟩:=w
 simp only at ha hb ⊢
 have key : roundI how 7=0∨roundI how 7=1∨roundI how 7=2∨roundI how 7=3∨roundI how 7=4∨roundI how 7=5∨roundI how 7=6:=by omega
 have c7:=d28 how 7 (by decide)
 generalize roundI how 7=r at *
 have f1 : A.length * 8≤140737488355328:=by omega
 have f2 : A.length≤9223372036854775807:=by omega
 have f3 : B'.length * 8≤140737488355328:=by omega
 have f4 : B'.length≤9223372036854775807:=by omega
 have f5 : (B'.length+1) * 8≤140737488355328:=by omega
 have f6 : B'.length≤9223372036854775806:=by omega
 rcases key with rfl|rfl|rfl|rfl|rfl|rfl|rfl
 ·refine ⟨roundI x 5 - 1,[],⟨pr,A,B'⟩,?_,by simp only [];omega,by simp only [];omega⟩
  refine detP_of Tryz.func23 rfl (by kernel_rfl) (by simp [Tryz.f23]) rfl ?_
  intro C hP hN
  simp only [Tryz.f23] at hN ⊢
  with_reducible repeat' (first|refine Sp.h ?_|((first|refine Wd ?_|refine Ss.h ?_|refine Sc.h (c7) ?_|refine Sc.h (d28 x 5 (by decide)) ?_|(refine Sb.h ?_ ?_ ?_<;>(try intro hgd)<;>try exact Xy))<;>simp -implicitDefEqProofs (maxSteps:=2000000) [hP,hN,e5,f1,f2,f3,f4]<;>try refine Ya ?_)|refine X2 ?_ ?_|(refine Xd ?_ ?_<;>intro hcd<;>try exact Xx))
 ·refine ⟨2,[],⟨wr (pr+(roundI x 3 - 1)),A,B'⟩,?_,by simp only [];omega,by simp only [];omega⟩
  refine detP_of Tryz.func23 rfl (by kernel_rfl) (by simp [Tryz.f23]) rfl ?_
  intro C hP hN
  simp only [Tryz.f23] at hN ⊢
  with_reducible repeat' (first|refine Sp.h ?_|((first|refine Wd ?_|refine Ss.h ?_|refine Sc.h (c7) ?_|refine Sc.h (d28 x 3 (by decide)) ?_|(refine Sb.h ?_ ?_ ?_<;>(try intro hgd)<;>try exact Xy))<;>simp -implicitDefEqProofs (maxSteps:=2000000) [hP,hN,e3,f1,f2,f3,f4]<;>try refine Ya ?_)|refine X2 ?_ ?_|(refine Xd ?_ ?_<;>intro hcd<;>try exact Xx))
 ·refine ⟨2,[],⟨pr,A,B'⟩,?_,by simp only [];omega,by simp only [];omega⟩
  refine detP_of Tryz.func23 rfl (by kernel_rfl) (by simp [Tryz.f23]) rfl ?_
  intro C hP hN
  simp only [Tryz.f23] at hN ⊢
  with_reducible repeat' (first|refine Sp.h ?_|((first|refine Wd ?_|refine Ss.h ?_|refine Sc.h (c7) ?_|(refine Sb.h ?_ ?_ ?_<;>(try intro hgd)<;>try exact Xy))<;>simp -implicitDefEqProofs (maxSteps:=2000000) [hP,hN,f1,f2,f3,f4]<;>try refine Ya ?_)|refine X2 ?_ ?_|(refine Xd ?_ ?_<;>intro hcd<;>try exact Xx))
 ·refine ⟨2,[],⟨pr,A,B'⟩,?_,by simp only [];omega,by simp only [];omega⟩
  refine detP_of Tryz.func23 rfl (by kernel_rfl) (by simp [Tryz.f23]) rfl ?_
  intro C hP hN
  simp only [Tryz.f23] at hN ⊢
  with_reducible repeat' (first|refine Sp.h ?_|((first|refine Wd ?_|refine Ss.h ?_|refine Sc.h (c7) ?_|(refine Sb.h ?_ ?_ ?_<;>(try intro hgd)<;>try exact Xy))<;>simp -implicitDefEqProofs (maxSteps:=2000000) [hP,hN,f1,f2,f3,f4]<;>try refine Ya ?_)|refine X2 ?_ ?_|(refine Xd ?_ ?_<;>intro hcd<;>try exact Xx))
 ·refine ⟨2,[(1,0,0)],⟨pr,A,B'⟩,?_,by simp only [];omega,by simp only [];omega⟩
  refine detP_of Tryz.func23 rfl (by kernel_rfl) (by simp [Tryz.f23]) rfl ?_
  intro C hP hN
  simp only [Tryz.f23] at hN ⊢
  with_reducible repeat' (first|refine Sp.h ?_|((first|refine Wd ?_|refine Ss.h ?_|refine Sc.h (c7) ?_|(refine Sb.h ?_ ?_ ?_<;>(try intro hgd)<;>try exact Xy))<;>simp -implicitDefEqProofs (maxSteps:=2000000) [hP,hN,f1,f2,f3,f4]<;>try refine Ya ?_)|refine X2 ?_ ?_|(refine Xd ?_ ?_<;>intro hcd<;>try exact Xx))
 ·by_cases hA : A.length=0
  ·refine ⟨2,[],⟨pr,A,B'⟩,?_,by simp only [];omega,by simp only [];omega⟩
   have hA2 : A=[]:=List.eq_nil_of_length_eq_zero hA
   subst hA2
   refine detP_of Tryz.func23 rfl (by kernel_rfl) (by simp [Tryz.f23]) rfl ?_
   intro C hP hN
   simp only [Tryz.f23] at hN ⊢
   with_reducible repeat' (first|refine Sp.h ?_|((first|refine Wd ?_|refine Ss.h ?_|refine Sc.h (c7) ?_|(refine Sb.h ?_ ?_ ?_<;>(try intro hgd)<;>try exact Xy))<;>simp -implicitDefEqProofs (maxSteps:=2000000) [hP,hN,f1,f2,f3,f4]<;>try refine Ya ?_)|refine X2 ?_ ?_|(refine Xd ?_ ?_<;>intro hcd<;>try exact Xx))
  ·obtain ⟨n,hn⟩ : ∃ n,A.length=n:=⟨_,rfl⟩
   have q1:=round_rng at' (k:=n) (by omega) (by omega)
   have q2:=round_rng (wr (at'+1)) (k:=n) (by omega) (by omega)
   have c1:=d28 at' n (by omega)
   have c2:=d28 (wr (at'+1)) n (by omega)
   obtain ⟨j,hj⟩ : ∃ j : Nat,roundI at' n=j:=⟨(roundI at' n).toNat,by omega⟩
   obtain ⟨k,hk⟩ : ∃ k : Nat,roundI (wr (at'+1)) n=k:=⟨(roundI (wr (at'+1)) n).toNat,by omega⟩
   rw [hj] at c1
   rw [hk] at c2
   have hjl : j < n:=by omega
   have hkl : k < n:=by omega
   have hn0 : 0 < n:=by omega
   rw [hn] at f1 f2
   refine ⟨2,[],⟨pr,altA A j k,B'⟩,?_,by simp only [altA,List.length_set];omega,by simp only [];omega⟩
   refine detP_of Tryz.func23 rfl (by kernel_rfl) (by simp [Tryz.f23]) rfl ?_
   intro C hP hN
   simp only [Tryz.f23] at hN ⊢
   have hxj : A[j]?=some (A[j]'(by omega)):=List.getElem?_eq_getElem _
   generalize A[j]'(by omega)=v at hxj
   have hxj' : ∀ h,A[j]'h=v:=fun h=>by rw [List.getElem?_eq_getElem h] at hxj;exact Option.some.inj hxj
   obtain ⟨A2,hA2⟩ : ∃ A2,A2=A.set j (wr (v - wr (v.tdiv 2))):=⟨_,rfl⟩
   have hA2l : A2.length=n:=by rw [hA2,List.length_set,hn]
   have hxk : A2[k]?=some (A2[k]'(by omega)):=List.getElem?_eq_getElem _
   generalize A2[k]'(by omega)=u at hxk
   have hxk' : ∀ h,A2[k]'h=u:=fun h=>by rw [List.getElem?_eq_getElem h] at hxk;exact Option.some.inj hxk
   have hal : altA A j k=A2.set k (wr (u+wr (v.tdiv 2))):=by
    simp only [altA,hxj,Option.getD_some]
    rw [← hA2,hxk,Option.getD_some]
   rw [hal]
   have hm : (List.map Z A).set j (PV.val (Value.int IntKind.i64 (IntKind.i64.wrap (v - IntKind.i64.wrap (v.tdiv 2)))))=List.map Z A2:=by rw [hA2];exact mapZ_set _ _ _
   with_reducible repeat' (first|refine Sp.h ?_|((first|refine Wd ?_|refine Ss.h ?_|refine Sc.h (c7) ?_|refine Sc.h (c1) ?_|refine Sc.h (c2) ?_|(refine Sb.h ?_ ?_ ?_<;>(try intro hgd)<;>try exact Xy))<;>simp -implicitDefEqProofs (maxSteps:=2000000) [hP,hN,f1,f2,f3,f4,hn,hjl,hkl,hn0,hxj,hxj',hm,hA2l,hxk,hxk',mapZ_set,-List.map_set]<;>try refine Ya ?_)|refine X2 ?_ ?_|(refine Xd ?_ ?_<;>intro hcd<;>try exact Xx))
 ·refine ⟨2,[],⟨pr,A,B'++[roundI x 3]⟩,?_,by simp only [];omega,by simp;omega⟩
  refine detP_of Tryz.func23 rfl (by kernel_rfl) (by simp [Tryz.f23]) rfl ?_
  intro C hP hN
  simp only [Tryz.f23] at hN ⊢
  with_reducible repeat' (first|refine Sp.h ?_|((first|refine Wd ?_|refine Ss.h ?_|refine Sc.h (c7) ?_|refine Sc.h (d28 x 3 (by decide)) ?_|(refine Sb.h ?_ ?_ ?_<;>(try intro hgd)<;>try exact Xy))<;>simp -implicitDefEqProofs (maxSteps:=2000000) [hP,hN,e3',f1,f2,f3,f4,f5,f6]<;>try refine Ya ?_)|refine X2 ?_ ?_|(refine Xd ?_ ?_<;>intro hcd<;>try exact Xx))
end Go.Ab
namespace Go.Ab
open Go.Proofs
theorem pairs_few (s : Sce) : (pairsL s).length≤576:=by
 have h1:=prN_len s s.shs.length
 by_cases h0 : checkS s=0
 ·obtain ⟨v1,v2,v3,v4,_⟩:=checkS_ok h0
  have hm : s.shs.length * s.shs.length≤24 * 24:=Nat.mul_le_mul v4 v4
  unfold pairsL;rw [if_pos h0];omega
 ·simp [pairsL,h0]
theorem takeSl {R : List PV} (h : R.all (okE 3)=true) {k : Nat} (hk : k≤R.length) (z : Option Value) (e n : Nat) (y : Option Value) : evSlice { size:=n,zero:=z,kind:=TK.slice e 3 24 y } (.pv (.sl R)) none (some (.pv (.val (.int .i64 (k : Int)))))=some (.pv (.sl (R.take k))):=by
 have h2 : (0 : Int)≤(k : Int):=by omega
 simp only [evSlice,if_pos h2,Int.toNat_natCast]
 rw [if_pos ⟨by omega,hk,by decide,h⟩,List.drop_zero]
set_option maxHeartbeats 8000000 in
theorem d7 (l m o : List Int) (w : Wit) (how at' x : Int) (ha : w.a.length≤1048576) (hb : w.b.length≤1048576) : DetH Tryz.prog 7 [.pv (zs l),.pv (zs m),.pv (zs o),.pv (encWt w),.pv (Z how),.pv (Z at'),.pv (Z x)] [] [] (.pv (B true)):=by
 have c0:=d13
 have c1:=d11 l
 have hL:=mkSc_L l
 have hj:=rJs_len l 0
 have c2:=d12 m (rJs l 0) (rMs l 0) (by omega) (rJs_ok l 0)
 have hjs : (mkSc l).js=rJs l 0:=rfl
 have hms : (mkSc l).ms=rMs l 0:=rfl
 have hbl:=mkBox_len m (rJs l 0)
 generalize mkBoxL m (rJs l 0)=b at *
 rw [← hjs,← hms] at c2
 have c3:=d15 (mkSc l) b [] hL (by omega) (by simp)
 have c4:=d19 (mkSc l) hL
 have hpl:=pairs_few (mkSc l)
 generalize mkSc l=s at *
 simp only [vecs,List.map_nil] at c3
 rcases boxV_is s b [] with ⟨w1,h1,h2⟩|⟨ns,h1,h2⟩|⟨ns,h1,h2⟩
 ·rw [h1] at c3
  simp only [encVt,vecs,List.map_nil] at c3
  have hh:=hintsL_len o
  have ch:=r17 o
  generalize hintsL o=H at *
  have cn:=d25 how at' x
  generalize nmV how at' x=nv at *
  have cf:=fun ns (hn : ns.length≤10000)=>d26 s b ns hL (by omega) (by omega)
  simp only [col_not_sep h2] at cf
  have hPd : ∀ P,P=pairsL s→True:=fun _ _=>trivial
  generalize pairsL s=P at *
  refine detP_of Tryz.func7 rfl (by kernel_rfl) (by simp [Tryz.f7]) rfl ?_
  intro C hP hN
  simp only [Tryz.f7] at hN ⊢
  with_reducible repeat' (first|refine Sp.h ?_|((first|refine Wd ?_|refine Ss.h ?_|refine Sc.h (c1) ?_|refine Sc.h (c2) ?_|refine Sc.h (c3) ?_|refine Sc.h (ch) ?_|(refine Sb.h ?_ ?_ ?_<;>(try intro hgd)<;>try exact Xy))<;>simp -implicitDefEqProofs (maxSteps:=2000000) [hP,hN]<;>try refine Ya ?_)|refine X2 ?_ ?_|(refine Xd ?_ ?_<;>intro hcd<;>try exact Xx))
  refine WP.loopN [] (P.length - H.length) (fun i st=>st.t 10=.ptr 10 0∧st.t 15=.ptr 15 0∧st.h 15=some (.box [.pv (.sl (s.js.map encJ)),.pv (.sl (s.ms.map encM)),.pv (.sl (s.shs.map encSh)),.pv (.sl (s.sks.map encI))] true false)∧st.t 16=.pv (iv b)∧st.t 4=.pv (Z how)∧st.t 5=.pv (Z at')∧st.t 6=.pv (Z x)∧st.t 19=.arr 58 (H.length+i)∧st.h 58=some (.row 55 3 ((H++List.replicate i nv).map encVec) 0)) (by simp) ?_
  rintro i st hi ⟨g10,g15,hb15,g16,g4,g5,g6,g19,hb58⟩
  have hz : ((H++List.replicate i nv).map encVec).length=H.length+i:=by simp
  have hzl : (H++List.replicate i nv).length=H.length+i:=by simp
  by_cases hlt : ((H.length+i : Nat) : Int) < (P.length : Int)
  ·have hr : List.replicate (i+1) nv=List.replicate i nv++[nv]:=List.replicate_succ'
   have hlt2 : i < P.length - H.length:=by omega
   have hlt3 : (H.length : Int)+(i : Int) < (P.length : Int):=by omega
   have hJ : (H++List.replicate (i+1) nv).map encVec=(H++List.replicate i nv).map encVec++[encVec nv]:=by rw [hr,← List.append_assoc,List.map_append];rfl
   rw [hJ]
   generalize (H++List.replicate i nv).map encVec=R at *
   with_reducible repeat' (first|refine Sp.h ?_|((first|refine Wd ?_|refine Ss.h ?_|refine Sc.h (c4) ?_|refine Sc.h (cn) ?_|(refine Sb.h ?_ ?_ ?_<;>(try intro hgd)<;>try exact Xy))<;>simp -implicitDefEqProofs (maxSteps:=2000000) [hP,hN,g10,g15,hb15,g16,g4,g5,g6,g19,hb58,hz,hlt,hlt2,hlt3,show (H.length+i+1) * 24≤140737488355328 by omega,show H.length+i≤9223372036854775806 by omega]<;>try refine Ya ?_)|refine X2 ?_ ?_|(refine Xd ?_ ?_<;>intro hcd<;>try exact Xx))
   all_goals (try omega)
  ·have hlt3 : ¬ (H.length : Int)+(i : Int) < (P.length : Int):=by omega
   have d1:=cf (H++List.replicate i nv) (by rw [hzl];omega)
   have d2:=cf ((H++List.replicate i nv).take P.length) (by rw [List.length_take,hzl];omega)
   rw [vecs,List.map_take] at d2
   simp only [vecs] at d1
   have hPl : P.length≤H.length+i:=by omega
   have hok:=vec_okE (H++List.replicate i nv)
   have hts:=takeSl hok (k:=P.length) (by rw [hz];exact hPl)
   generalize (H++List.replicate i nv).map encVec=R at *
   refine WP.freeze 19 (k:=58) hb58 (by rw [g19,hz]) ?_
   with_reducible repeat' (first|refine Sp.h ?_|((first|refine Wd ?_|refine Ss.h ?_|refine Sc.h (c0) ?_|refine Sc.h (c4) ?_|refine Sc.h (d1) ?_|refine Sc.h (d2) ?_|(refine Sb.h ?_ ?_ ?_<;>(try intro hgd)<;>try exact Xy))<;>simp -implicitDefEqProofs (maxSteps:=2000000) [hP,hN,g10,g15,hb15,g16,g4,g5,g6,hz,hlt,hlt3,hPl,hts]<;>try refine Ya ?_)|refine X2 ?_ ?_|(refine Xd ?_ ?_<;>intro hcd<;>try exact Xx))
 ·rw [h1] at c3
  obtain ⟨k,ns',w',c5,l1,l2⟩:=altEx w how at' x ha hb
  have k1:=d24 s b w hL (by omega) (by omega) (by omega)
  have k2:=d24 s b w' hL (by omega) (by omega) (by omega)
  rw [sep_not_col h2] at k1 k2
  refine detP_of Tryz.func7 rfl (by kernel_rfl) (by simp [Tryz.f7]) rfl ?_
  intro C hP hN
  simp only [Tryz.f7] at hN ⊢
  with_reducible repeat' (first|refine Sp.h ?_|((first|refine Wd ?_|refine Ss.h ?_|refine Sc.h (c0) ?_|refine Sc.h (c1) ?_|refine Sc.h (c2) ?_|refine Sc.h (c3) ?_|refine Sc.h (c5) ?_|refine Sc.h (k1) ?_|refine Sc.h (k2) ?_|(refine Sb.h ?_ ?_ ?_<;>(try intro hgd)<;>try exact Xy))<;>simp -implicitDefEqProofs (maxSteps:=2000000) [hP,hN]<;>try refine Ya ?_)|refine X2 ?_ ?_|(refine Xd ?_ ?_<;>intro hcd<;>try exact Xx))
 ·rw [h1] at c3
  refine detP_of Tryz.func7 rfl (by kernel_rfl) (by simp [Tryz.f7]) rfl ?_
  intro C hP hN
  simp only [Tryz.f7] at hN ⊢
  with_reducible repeat' (first|refine Sp.h ?_|((first|refine Wd ?_|refine Ss.h ?_|refine Sc.h (c0) ?_|refine Sc.h (c1) ?_|refine Sc.h (c2) ?_|refine Sc.h (c3) ?_|(refine Sb.h ?_ ?_ ?_<;>(try intro hgd)<;>try exact Xy))<;>simp -implicitDefEqProofs (maxSteps:=2000000) [hP,hN]<;>try refine Ya ?_)|refine X2 ?_ ?_|(refine Xd ?_ ?_<;>intro hcd<;>try exact Xx))
end Go.Ab
namespace Go.Ab
theorem let_name {i : Nat} (h : i < 3) : nameB (letB i)=true:=by
 have : i=0∨i=1∨i=2:=by omega
 rcases this with rfl|rfl|rfl<;>decide +kernel
theorem let_ne {i k : Nat} (h : i < 3) (hk : k < i) : sameN (letB k) (letB i)=false:=by
 have : (i=1∧k=0)∨(i=2∧k=0)∨(i=2∧k=1):=by omega
 rcases this with ⟨rfl,rfl⟩|⟨rfl,rfl⟩|⟨rfl,rfl⟩<;>decide +kernel
theorem kind_range (l : List Int) (n : Nat) : 0≤jKind l n∧jKind l n≤5:=by
 unfold jKind kindOf
 repeat' split
 all_goals omega
theorem joint_reach (l : List Int) (n i : Nat) : (jointF l n i).lo≤(jointF l n i).hi∧-reachI (jointF l n i).kind≤(jointF l n i).lo∧(jointF l n i).hi≤reachI (jointF l n i).kind:=by
 have h1:=nx_range l (jN5 l n i) (k:=3) (by decide) (by decide)
 have h2:=nx_range l (jN5 l n i) (k:=5) (by decide) (by decide)
 have h3:=nx_range l (nn l (jN5 l n i)) (k:=4) (by decide) (by decide)
 have h4:=nx_range l (nn l (nn l (jN5 l n i))) (k:=3) (by decide) (by decide)
 have hk:=kind_range l n
 have ok:=joint_ok l n i
 simp only [jointF] at ok ⊢
 refine ⟨by have:=ok.1.2.1;exact this,?_⟩
 unfold jLo jHi reachI
 generalize jKind l n=kd at *
 generalize nx l (jN5 l n i) 3=a at *
 generalize nx l (jN5 l n i) 5=b at *
 generalize nx l (nn l (jN5 l n i)) 4=c at *
 generalize nx l (nn l (nn l (jN5 l n i))) 3=d at *
 have hb : ∀ b : Int,0≤b→b < 5→-32768≤wr ((wr (wr (-b) * 65536)).tdiv 8):=by
  intro b h0 h5
  have : b=0∨b=1∨b=2∨b=3∨b=4:=by omega
  rcases this with rfl|rfl|rfl|rfl|rfl<;>decide
 have hc : ∀ c : Int,0≤c→c < 4→0≤wr ((wr (wr (1+c) * 65536)).tdiv 8)∧wr ((wr (wr (1+c) * 65536)).tdiv 8)≤32768:=by
  intro c h0 h4
  have : c=0∨c=1∨c=2∨c=3:=by omega
  rcases this with rfl|rfl|rfl|rfl<;>decide
 have hb':=hb b h2.1 h2.2
 have hc':=hc c h3.1 h3.2
 have hd : kd=0∨kd=1∨kd=2∨kd=3∨kd=4∨kd=5:=by omega
 have e1 : wr (wr (-a) * 65536)=-a * 65536:=by rw [wr_id (n:=-a) (by omega) (by omega),wr_id (by omega) (by omega)]
 have e2 : wr (c * 32768)=c * 32768:=wr_id (by omega) (by omega)
 have e3 : wr (wr ((wr (wr (1+c) * 65536)).tdiv 8)+d)=wr ((wr (wr (1+c) * 65536)).tdiv 8)+d:=wr_id (by omega) (by omega)
 rcases hd with rfl|rfl|rfl|rfl|rfl|rfl
 ·simp
 ·simp only [e3];simp;omega
 ·simp only [e3];simp;omega
 ·simp only [e3];simp;omega
 ·simp only [e1,e2];simp;omega
 ·simp only [e1,e2];simp;omega
theorem joint_err (l : List Int) (n i : Nat) (h : i < 3) (js : List J) (hd : dupB js i (letB i)=false) : errJ js i (jointF l n i)=0:=by
 have hk:=kind_range l n
 obtain ⟨r1,r2,r3⟩:=joint_reach l n i
 have a1:=nx_range l n (k:=4) (by decide) (by decide)
 have a2:=nx_range l (nn l n) (k:=3) (by decide) (by decide)
 have a3:=nx_range l (jN4 l n) (k:=5) (by decide) (by decide)
 have a4:=nx_range l (nn l (jN4 l n)) (k:=3) (by decide) (by decide)
 have w1 : wr (1+nx l n 4)=1+nx l n 4:=wr_id (by omega) (by omega)
 have w2 : wr (65536+nx l (nn l n) 3)=65536+nx l (nn l n) 3:=wr_id (by omega) (by omega)
 have w3 : wr (wr (nx l (jN4 l n) 5 - 2) * 32768)=(nx l (jN4 l n) 5 - 2) * 32768:=by rw [wr_id (n:=nx l (jN4 l n) 5 - 2) (by omega) (by omega),wr_id (by omega) (by omega)]
 have w4 : wr (wr (nx l (nn l (jN4 l n)) 3 - 1) * 32768)=(nx l (nn l (jN4 l n)) 3 - 1) * 32768:=by rw [wr_id (n:=nx l (nn l (jN4 l n)) 3 - 1) (by omega) (by omega),wr_id (by omega) (by omega)]
 have w5 : wr ((i : Int) - 1)=(i : Int) - 1:=wr_id (by omega) (by omega)
 have hp : ¬ ((jointF l n i).parent < -1∨(i : Int)≤(jointF l n i).parent):=by
  simp only [jointF,w5];split<;>omega
 have hv : nearB (jointF l n i).ox (jointF l n i).oy (jointF l n i).oz 4194304=true:=by
  simp only [jointF,w3,w4,nearB,inB,Bool.and_eq_true,decide_eq_true_eq]
  repeat' split
  all_goals omega
 rw [errJ,if_neg (by simp [jointF,let_name h,hd]),if_neg (by show ¬ (jKind l n < 0∨6 < jKind l n);omega),if_neg hp,if_neg (by simp [hv]),if_neg (by omega),if_neg]
 simp only [jointF,w1,w2,fromB]
 simp
 omega
theorem rJs_getElem (l : List Int) {i : Nat} (h : i < (rJs l 0).length) : (rJs l 0)[i]=jointF l (jSt l (nn l 0) i) i:=by simp [rJs,jsF]
theorem robot_ok (l : List Int) : checkR (rJs l 0) (rMs l 0)=0:=by
 have hlen:=rJs_len l 0
 have hf : firstE (rJs l 0)=0:=by
  refine first_none (fun k x hx=>?_)
  have hk:=(List.getElem?_eq_some_iff.1 hx)
  have hk1:=hk.1
  rw [← hk.2,rJs_getElem l hk.1]
  refine joint_err l _ k (by omega) _ (dup_no (fun m y hm hy=>?_))
  have hy':=(List.getElem?_eq_some_iff.1 hy)
  rw [← hy'.2,rJs_getElem l hy'.1]
  exact let_ne (by omega) hm
 have hms : (rMs l 0).length≤2:=by
  have:=nx_range l (rM l 0) (k:=3) (by decide) (by decide)
  rw [rMs,msF_len,rK];omega
 have hany : ((rMs l 0).any fun m=>!massOk (rJs l 0).length m)=false:=by
  rw [List.any_eq_false]
  intro m hm
  simp only [rMs,msF,List.mem_map] at hm
  obtain ⟨i,_,rfl⟩:=hm
  have hn : (rN l 0 : Int)=((rJs l 0).length : Int):=by rw [rJs,jsF_len]
  generalize mSt l (nn l (rM l 0)) i=st
  have b1:=nx_range l st (k:=(rN l 0 : Int)) (by omega) (by omega)
  have b2:=nx_range l (nn l st) (k:=9000) (by decide) (by decide)
  have b3:=nx_range l (nn l (nn l st)) (k:=7) (by decide) (by decide)
  have b4:=nx_range l (nn l (nn l (nn l st))) (k:=5) (by decide) (by decide)
  have w2 : wr (1+nx l (nn l st) 9000)=1+nx l (nn l st) 9000:=wr_id (by omega) (by omega)
  have w3 : wr (wr (nx l (nn l (nn l st)) 7 - 3) * 32768)=(nx l (nn l (nn l st)) 7 - 3) * 32768:=by rw [wr_id (n:=nx l (nn l (nn l st)) 7 - 3) (by omega) (by omega),wr_id (by omega) (by omega)]
  have w4 : wr (wr (nx l (nn l (nn l (nn l st))) 5 - 2) * 32768)=(nx l (nn l (nn l (nn l st))) 5 - 2) * 32768:=by rw [wr_id (n:=nx l (nn l (nn l (nn l st))) 5 - 2) (by omega) (by omega),wr_id (by omega) (by omega)]
  have : massOk (rJs l 0).length (massF l st (rN l 0))=true:=by
   simp only [massOk,massF,w2,w3,w4,fromB,nearB,inB,Bool.and_eq_true,decide_eq_true_eq]
   omega
  simp [this]
 unfold checkR
 rw [if_neg (by omega),hf,if_neg (by simp),hany]
 simp;omega
end Go.Ab
namespace Go.Ab
open Go.Proofs
def stJ (j : J) : J:={ j with lo:=j.hi }
def stillS (s : Sce) : Sce:={ s with js:=s.js.map stJ }
theorem still_L {s : Sce} (h : ScL s) : ScL (stillS s):=⟨by simpa [stillS] using h.js,h.ms,h.shs,h.sks,h.pts⟩
theorem hw8 {c : Int} (h0 : 0≤c) (h4 : c < 5) : 1≤wr ((wr (wr (1+c) * 65536)).tdiv 8)∧wr ((wr (wr (1+c) * 65536)).tdiv 8)≤1048576:=by
 have : c=0∨c=1∨c=2∨c=3∨c=4:=by omega
 rcases this with rfl|rfl|rfl|rfl|rfl<;>decide
theorem hf8 {c k : Int} (h0 : -20≤c - k) (h4 : c - k≤20) : wr (wr (c - k) * 32768)=(c - k) * 32768:=by
 rw [wr_id (n:=c - k) (by omega) (by omega),wr_id (by omega) (by omega)]
theorem mpL_near {l : List Int} {n : Nat} {c : Vc} (h1 : -655360≤c.1∧c.1≤655360) (h2 : -655360≤c.2.1∧c.2.1≤655360) (h3 : -655360≤c.2.2∧c.2.2≤655360) : ∀ p ∈ mpL l n c,nearV 4194304 p=true:=by
 intro p hp
 have hN : ∀ v : Vc,(-1310720≤v.1∧v.1≤1310720)→(-1310720≤v.2.1∧v.2.1≤1310720)→(-1310720≤v.2.2∧v.2.2≤1310720)→nearV 4194304 v=true:=fun v a b d=>by
  rw [nearV_iff,inB_iff,inB_iff,inB_iff];omega
 rcases List.mem_cons.1 hp with rfl|hp
 ·exact hN _ (by omega) (by omega) (by omega)
 ·obtain ⟨i,_,rfl⟩:=List.mem_map.1 hp
  generalize mpS l (nn l n) i=m
  have a1:=nx_range l m (k:=7) (by decide) (by decide)
  have a2:=nx_range l (nn l m) (k:=5) (by decide) (by decide)
  have a3:=nx_range l (nn l (nn l m)) (k:=5) (by decide) (by decide)
  have e1:=hf8 (c:=nx l m 7) (k:=3) (by omega) (by omega)
  have e2:=hf8 (c:=nx l (nn l m) 5) (k:=2) (by omega) (by omega)
  have e3:=hf8 (c:=nx l (nn l (nn l m)) 5) (k:=2) (by omega) (by omega)
  refine hN _ ?_ ?_ ?_<;>simp only [mpV,e1,e2,e3]<;>rw [wr_id (by omega) (by omega)]<;>omega
theorem errSh_ok {n : Nat} {h : Sh} (h1 : linkB n h.link=true) (h2 : 1≤h.rad) (h3 : h.rad≤1048576) (h4 : 1≤h.pts.length) (h5 : h.pts.length≤8) (h6 : ∀ p ∈ h.pts,nearV 4194304 p=true) : errSh n h=0:=by
 unfold errSh
 rw [if_pos (by simp only [Bool.and_eq_true,decide_eq_true_eq];exact ⟨⟨⟨⟨h1,h2⟩,h3⟩,h4⟩,h5⟩),if_pos (List.all_eq_true.2 h6)]
theorem mpL_len1 (l : List Int) (n : Nat) (c : Vc) : 1≤(mpL l n c).length:=by simp [mpL,mpF]
theorem scJ_ok (l : List Int) (n m : Nat) : ∀ i,i≤m→∀ h ∈ (scJ l n i).1,errSh m h=0
 |0,_,h,hm=>by cases hm
 |i+1,hi,h,hm=>by
  simp only [scJ] at hm
  split at hm
  ·rcases List.mem_append.1 hm with hm|hm
   ·exact scJ_ok l n m i (by omega) h hm
   ·rw [List.mem_singleton] at hm
    subst hm
    generalize nn l (scJ l n i).2=q
    have a1:=nx_range l q (k:=3) (by decide) (by decide)
    have a2:=nx_range l (nn l q) (k:=4) (by decide) (by decide)
    have e2 : wr (nx l (nn l q) 4 * 32768)=nx l (nn l q) 4 * 32768:=wr_id (by omega) (by omega)
    have hr:=hw8 (c:=nx l q 3) (by omega) (by omega)
    have hl4:=mpL_len l (nn l (nn l q)) (wr (nx l (nn l q) 4 * 32768),0,0)
    refine errSh_ok (by show linkB m (i : Int)=true;simp only [linkB,Bool.and_eq_true,decide_eq_true_eq];omega) hr.1 hr.2 (mpL_len1 _ _ _) (by show (mpL _ _ _).length≤8;omega) (mpL_near ?_ ?_ ?_)
    ·simp only [e2];omega
    ·simp
    ·simp
  ·exact scJ_ok l n m i (by omega) h hm
theorem scO_ok (l : List Int) (xs : List Sh) (n m : Nat) (hx : ∀ h ∈ xs,errSh m h=0) : ∀ i,∀ h ∈ (scO l xs n i).1,errSh m h=0
 |0,h,hm=>hx h hm
 |i+1,h,hm=>by
  simp only [scO] at hm
  rcases List.mem_append.1 hm with hm|hm
  ·exact scO_ok l xs n m hx i h hm
  ·rw [List.mem_singleton] at hm
   subst hm
   generalize (scO l xs n i).2=q
   have a1:=nx_range l q (k:=19) (by decide) (by decide)
   have a2:=nx_range l (nn l q) (k:=19) (by decide) (by decide)
   have a3:=nx_range l (nn l (nn l q)) (k:=5) (by decide) (by decide)
   have a4:=nx_range l (nn l (nn l (nn l q))) (k:=4) (by decide) (by decide)
   have hr:=hw8 (c:=nx l (nn l (nn l (nn l q))) 4) (by omega) (by omega)
   have e1:=hf8 (c:=nx l q 19) (k:=9) (by omega) (by omega)
   have e2:=hf8 (c:=nx l (nn l q) 19) (k:=9) (by omega) (by omega)
   have e3:=hf8 (c:=nx l (nn l (nn l q)) 5) (k:=2) (by omega) (by omega)
   refine errSh_ok (by show linkB m (-1)=true;simp only [linkB,Bool.and_eq_true,decide_eq_true_eq];omega) hr.1 hr.2 (mpL_len1 _ _ _) (by
    show (mpL _ _ _).length≤8
    have:=mpL_len l (nn l (nn l (nn l (nn l q)))) (wr (wr (nx l q 19 - 9) * 32768),wr (wr (nx l (nn l q) 19 - 9) * 32768),wr (wr (nx l (nn l (nn l q)) 5 - 2) * 32768))
    omega) (mpL_near ?_ ?_ ?_)
   ·simp only [e1];omega
   ·simp only [e2];omega
   ·simp only [e3];omega
theorem scene_ok (l : List Int) : checkS (mkSc l)=0:=by
 have hr:=robot_ok l
 have hj:=rJs_len l 0
 have hN : (rN l 0 : Int)=((rJs l 0).length : Int):=by rw [rJs,jsF_len]
 have h5:=(scJ_le l (rEnd l 0) (rN l 0)).2
 have h6:=(scO_le l (mA l).1 (nn l (mA l).2) (scK l (mA l).2)).2
 have hx3:=nx_range l (mA l).2 (k:=3) (by decide) (by decide)
 have h7 : scK l (mA l).2≤3:=by unfold scK;omega
 have h8 : (mA l).1.length≤3:=by unfold mA;omega
 have hs : (mkSc l).shs.length≤24:=by show (mB l).1.length≤24;unfold mB;omega
 have hf : firstSh (mkSc l).js.length (mkSc l).shs=0:=by
  refine firstSh_none fun k x hx=>?_
  refine scO_ok l _ _ _ ?_ _ x (List.mem_of_getElem? hx)
  intro h hm
  refine scJ_ok l _ _ (rN l 0) ?_ h hm
  show rN l 0≤(rJs l 0).length
  omega
 have hk : (mkSc l).sks.length≤1∧(mkSc l).sks.all (skipB (mkSc l).js.length)=true:=by
  show (if nx l (mB l).2 5=1 then [((-1 : Int),nx l (nn l (mB l).2) (rN l 0))] else []).length≤1∧(if nx l (mB l).2 5=1 then [((-1 : Int),nx l (nn l (mB l).2) (rN l 0))] else []).all (skipB (rJs l 0).length)=true
  split
  ·have hb:=nx_range l (nn l (mB l).2) (k:=(rN l 0 : Int)) (by omega) (by omega)
   refine ⟨by simp,?_⟩
   simp only [List.all_cons,List.all_nil,skipB,linkB,Bool.and_true,Bool.and_eq_true,decide_eq_true_eq]
   omega
  ·simp
 unfold checkS
 rw [show checkR (mkSc l).js (mkSc l).ms=0 from hr,hf,if_neg (by simp),if_neg (by omega),if_neg (by simp),if_neg (by omega),if_pos hk.2]
theorem checkR_all {js : List J} {ms : List Ms} (h : checkR js ms=0) : (∀ (i : Nat) j,js[i]?=some j→errJ js i j=0)∧¬ (js.length=0∨10 < js.length)∧(decide (32 < ms.length) || ms.any fun m=>!massOk js.length m)=false:=by
 unfold checkR at h
 split at h
 ·cases h
 ·rename_i hl
  split at h
  ·rename_i hne;exact absurd h hne
  ·rename_i he
   split at h
   ·cases h
   ·rename_i hm
    refine ⟨fun i j hij=>?_,hl,by simpa using hm⟩
    have he' : firstE js=0:=by simpa using he
    rw [firstE_eq] at he'
    by_cases hz : errJ js i j=0
    ·exact hz
    ·exfalso
     cases hf : (js.mapIdx (errJ js)).find? (fun e=>e !=0) with
     |none=>
      rw [List.find?_eq_none] at hf
      have hm : errJ js i j ∈ js.mapIdx (errJ js):=by
       rw [List.mem_mapIdx]
       obtain ⟨h1,h2⟩:=List.getElem?_eq_some_iff.1 hij
       exact ⟨i,h1,by rw [h2]⟩
      exact hf _ hm (by simpa using hz)
     |some e=>
      rw [hf] at he'
      have:=List.find?_some hf
      simp only at he'
      rw [he'] at this
      simp at this
theorem dup_map (js : List J) (i : Nat) (n : ByteArray) : dupB (js.map stJ) i n=dupB js i n:=by
 unfold dupB
 rw [← List.map_take,List.any_map]
 rfl
theorem errJ_still {js : List J} {i : Nat} {j : J} (h : errJ js i j=0) : errJ (js.map stJ) i (stJ j)=0:=by
 have hlo:=errJ_lohi h
 have e : errJ (js.map stJ) i (stJ j)=if (!nameB j.name || dupB js i j.name)=true then 802 else if j.kind < 0∨6 < j.kind then 803 else if j.parent < -1∨(i : Int)≤j.parent then 804 else if nearB j.ox j.oy j.oz 4194304=false then 805
  else if j.hi < j.hi∨j.hi < -reachI j.kind∨reachI j.kind < j.hi then 806 else if (fromB j.w 1 1024 && fromB j.sp 1 1048576 && fromB j.ac 1 1048576 && fromB j.tq 1 1099511627776)=false then 807 else 0:=by
  rw [← dup_map js i j.name];rfl
 rw [e]
 unfold errJ at h
 repeat' split at h
 all_goals (try (cases h;done))
 rename_i h1 h2 h3 h4 h5 h6
 rw [if_neg h1,if_neg h2,if_neg h3,if_neg h4,if_neg (by omega),if_neg h6]
theorem still_ok {s : Sce} (h : checkS s=0) : checkS (stillS s)=0:=by
 unfold checkS at h
 split at h
 ·rename_i hne;exact absurd h hne
 ·rename_i h0
  have h0 : checkR s.js s.ms=0:=by simpa using h0
  have h0' : checkR (stillS s).js (stillS s).ms=0:=by
   obtain ⟨a1,a2,a3⟩:=checkR_all h0
   have hf : firstE (stillS s).js=0:=by
    refine first_none fun k x hx=>?_
    simp only [stillS,List.getElem?_map,Option.map_eq_some_iff] at hx
    obtain ⟨j,hj,rfl⟩:=hx
    exact errJ_still (a1 k j hj)
   unfold checkR
   have hl : (stillS s).js.length=s.js.length:=by simp [stillS]
   rw [hl,if_neg a2,hf,if_neg (by simp),if_neg (by rw [show (stillS s).ms=s.ms from rfl,a3];simp)]
  have hl : (stillS s).js.length=s.js.length:=by simp [stillS]
  unfold checkS
  rw [h0',if_neg (by simp),hl]
  exact h
theorem cr1_still {js : List J} (hj : jsOk js) (hs : ∀ (i : Nat) j,js[i]?=some j→j.lo=j.hi) : ∀ (m n : Nat),n≤m→n≤js.length→cr1 js n=-1
 |m,0,_,_=>cr1_zero js
 |0,n+1,h,_=>by omega
 |m+1,n+1,hm,hn=>by
  have hx : js[n]?=some (js[n]'(by omega)):=List.getElem?_eq_getElem _
  generalize js[n]'(by omega)=j at hx
  have hok:=hj n j hx
  unfold jOk1 at hok
  rw [cr1_succ hj hx,if_pos (hs n j hx)]
  exact cr1_still hj hs m (j.parent+1).toNat (by omega) (by omega)
theorem prI_none {s : Sce} (h : ∀ i k,pairAt s i k=false) (i : Nat) : ∀ k,prI s i k=[]
 |0=>rfl
 |k+1=>by rw [prI,prI_none h i k,if_neg (by rw [h];simp)];rfl
theorem prN_none {s : Sce} (h : ∀ i k,pairAt s i k=false) : ∀ i,prN s i=[]
 |0=>rfl
 |i+1=>by rw [prN,prN_none h i,prI_none h];rfl
theorem still_pairs {s : Sce} (h : checkS s=0) : pairsL (stillS s)=[]:=by
 have h':=still_ok h
 obtain ⟨v1,v2,v3,v4,v5,v6,v7⟩:=checkS_ok h'
 unfold pairsL
 rw [if_pos h']
 refine prN_none (fun i k=>?_) _
 unfold pairAt
 split
 ·rename_i a b ha hb
  have la:=(v6 a (List.mem_of_getElem? ha)).1
  have lb:=(v6 b (List.mem_of_getElem? hb)).1
  simp only [linkB,Bool.and_eq_true,decide_eq_true_eq] at la lb
  have hs : ∀ (i : Nat) j,(stillS s).js[i]?=some j→j.lo=j.hi:=fun i j hj=>by
   simp only [stillS,List.getElem?_map,Option.map_eq_some_iff] at hj
   obtain ⟨x,_,rfl⟩:=hj
   rfl
  have ca:=cr1_still v1 hs _ (lk1 a) (Nat.le_refl _) (by unfold lk1;omega)
  have cb:=cr1_still v1 hs _ (lk1 b) (Nat.le_refl _) (by unfold lk1;omega)
  have : rigB (carL (stillS s).js) a b=true:=by
   show (cr1 (stillS s).js (lk1 a)==cr1 (stillS s).js (lk1 b))=true
   rw [ca,cb];rfl
  unfold pairB
  rw [this];rfl
 ·rfl
theorem still_box {s : Sce} {bx : List Iv} (h : checkS s=0) (hb : isBoxB (stillS s).js bx=true) : boxV (stillS s) bx []=⟨1,[],⟨0,[],[]⟩⟩∧clrV (stillS s) bx []=2147483648∧holdsSep (stillS s) bx []=true∧checkV (stillS s) bx ⟨1,[],⟨0,[],[]⟩⟩=true:=by
 have hp : placeOk (stillS s) bx=true:=by simp [placeOk,still_ok h,hb]
 have hl:=still_pairs h
 have hs : holdsSep (stillS s) bx []=true:=by simp [holdsSep,hp,sepAllB,hl]
 refine ⟨?_,?_,hs,?_⟩
 ·unfold boxV
  rw [if_pos hp,hl]
  rfl
 ·unfold clrV
  rw [if_pos hs]
  rfl
 ·simp [checkV,hs]
def stN (js : List J) (i : Nat) : List J:=js.mapIdx fun k j=>if k < i then stJ j else j
theorem stN_len (js : List J) (i : Nat) : (stN js i).length=js.length:=by simp [stN]
theorem stN_zero (js : List J) : stN js 0=js:=by
 apply List.ext_getElem?
 intro k
 simp [stN,List.getElem?_mapIdx]
theorem stN_at (js : List J) {i : Nat} (h : i < js.length) : (stN js i)[i]?=some js[i]:=by
 simp [stN,List.getElem?_mapIdx,h]
theorem stN_all (js : List J) : stN js js.length=js.map stJ:=by
 apply List.ext_getElem?
 intro k
 simp only [stN,List.getElem?_mapIdx,List.getElem?_map]
 cases h : js[k]? with
 |none=>rfl
 |some j=>simp [(List.getElem?_eq_some_iff.1 h).1]
theorem stN_succ (js : List J) {i : Nat} {j : J} (h : js[i]?=some j) : stN js (i+1)=(stN js i).set i (stJ j):=by
 apply List.ext_getElem?
 intro k
 rw [List.getElem?_set]
 simp only [stN,List.getElem?_mapIdx,List.length_mapIdx]
 by_cases hk : i=k
 ·subst hk
  simp only [h,Option.map_some,(List.getElem?_eq_some_iff.1 h).1,if_true]
  simp
 ·rw [if_neg hk]
  cases js[k]? with
  |none=>rfl
  |some x=>
   simp only [Option.map_some]
   congr 1
   by_cases hki : k < i
   ·rw [if_pos (by omega),if_pos hki]
   ·rw [if_neg (by omega),if_neg hki]
set_option maxHeartbeats 4000000 in
theorem d9 (l m : List Int) : DetH Tryz.prog 9 [.pv (zs l),.pv (zs m)] [] [] (.pv (B true)):=by
 have c0:=d13
 have c1:=d11 l
 have hL:=mkSc_L l
 have hj:=rJs_len l 0
 have c2:=d12 m (rJs l 0) (rMs l 0) (by omega) (rJs_ok l 0)
 have hjs : (mkSc l).js=rJs l 0:=rfl
 have hms : (mkSc l).ms=rMs l 0:=rfl
 have hbl':=mkBox_len m (rJs l 0)
 have hbl:=hbl'
 rw [← hjs] at hj
 rw [← hjs] at hbl
 have h0:=scene_ok l
 have hv:=mkBox_valid (l:=m) (rJs_ok l 0)
 have hLt:=still_L hL
 have hbx:=box_ok (s:=stillS (mkSc l)) (bx:=mkBoxL m (rJs l 0)) (by rw [hbl'];simp [stillS,hjs]) hv
 obtain ⟨f1,f2,f3,f4⟩:=still_box (s:=mkSc l) h0 hbx
 rw [hjs] at hj
 generalize mkBoxL m (rJs l 0)=b at *
 have hb9 : b.length≤9:=by omega
 rw [← hjs] at hj
 rw [← hjs,← hms] at c2
 have c3:=d15 (stillS (mkSc l)) b [] hLt (by omega) (by simp)
 have c4:=d27 (stillS (mkSc l)) b [] hLt (by omega) (by simp)
 have c5:=d18 (stillS (mkSc l)) b ⟨1,[],⟨0,[],[]⟩⟩ hLt (by omega) (by simp) (by simp) (by simp)
 rw [f1] at c3
 rw [f2,f3] at c4
 rw [f4] at c5
 simp only [encVt,vecs,List.map_nil,encSc,stillS,List.map_map] at c3 c4 c5
 generalize mkSc l=s at *
 refine detP_of Tryz.func9 rfl (by kernel_rfl) (by simp [Tryz.f9]) rfl ?_
 intro C hP hN
 simp only [Tryz.f9] at hN ⊢
 with_reducible repeat' (first|refine Sp.h ?_|((first|refine Wd ?_|refine Ss.h ?_|refine Sc.h (c1) ?_|(refine Sb.h ?_ ?_ ?_<;>(try intro hgd)<;>try exact Xy))<;>simp -implicitDefEqProofs (maxSteps:=2000000) [hP,hN,show s.js.length * 96≤140737488355328 by omega,show s.js.length * 104≤140737488355328 by omega,show s.js.length * 112≤140737488355328 by omega,show s.js.length≤9223372036854775807 by omega]<;>try refine Ya ?_)|refine X2 ?_ ?_|(refine Xd ?_ ?_<;>intro hcd<;>try exact Xx))
 refine WP.loopN [] s.js.length (fun i st=>st.t 5=.ptr 5 0∧st.t 6=.ptr 6 0∧st.t 1=.pv (zs m)∧st.t 7=.pv (Z i)∧st.h 5=some (.box [.pv (.sl (s.js.map encJ)),.pv (.sl (s.ms.map encM)),.pv (.sl (s.shs.map encSh)),.pv (.sl (s.sks.map encI))] true false)∧st.h 6=some (.box [.arr 18 s.js.length,.pv (.sl (s.ms.map encM)),.pv (.sl (s.shs.map encSh)),.pv (.sl (s.sks.map encI))] true false)∧st.h 18=some (.row 62 12 ((stN s.js i).map encJ) 0)∧st.h 9=none) (by simp [stN_zero]) ?_
 rintro i st hi ⟨g5,g6,g1,g7,hb5,hb6,hb18,hb9'⟩
 have hz:=stN_len s.js i
 by_cases hlt : i < s.js.length
 ·have hw:=wr_succ hlt (by omega)
  have hlt' : (i : Int) < (s.js.length : Int):=by omega
  have hx : (stN s.js i)[i]?=some (s.js[i]):=stN_at s.js hlt
  have hx0 : s.js[i]?=some s.js[i]:=List.getElem?_eq_getElem hlt
  generalize s.js[i]=j at hx hx0
  have hxe : ∀ h,(stN s.js i)[i]'h=j:=fun h=>by rw [List.getElem?_eq_getElem h] at hx;exact Option.some.inj hx
  generalize hR : stN s.js i=R at *
  with_reducible repeat' (first|refine Sp.h ?_|((first|refine Wd ?_|refine Ss.h ?_|(refine Sb.h ?_ ?_ ?_<;>(try intro hgd)<;>try exact Xy))<;>simp -implicitDefEqProofs (maxSteps:=2000000) [hP,hN,g5,g6,g1,g7,hb5,hb6,hb18,hb9',hz,hlt,hlt',hw,hx,hxe]<;>try refine Ya ?_)|refine X2 ?_ ?_|(refine Xd ?_ ?_<;>intro hcd<;>try exact Xx))
  rw [stN_succ s.js hx0,hR,List.map_set]
  rfl
 ·have hir : i=s.js.length:=by omega
  subst hir
  have hlt' : ¬ (s.js.length : Int) < (s.js.length : Int):=by omega
  rw [stN_all] at hb18
  with_reducible repeat' (first|refine Sp.h ?_|((first|refine Wd ?_|refine Ss.h ?_|refine Sc.h (c0) ?_|refine Sc.h (c2) ?_|refine Sc.h (c3) ?_|refine Sc.h (c4) ?_|refine Sc.h (c5) ?_|(refine Sb.h ?_ ?_ ?_<;>(try intro hgd)<;>try exact Xy))<;>simp -implicitDefEqProofs (maxSteps:=2000000) [hP,hN,g5,g6,g1,g7,hb5,hb6,hb18,hb9',hlt']<;>try refine Ya ?_)|refine X2 ?_ ?_|(refine Xd ?_ ?_<;>intro hcd<;>try exact Xx))
end Go.Ab
