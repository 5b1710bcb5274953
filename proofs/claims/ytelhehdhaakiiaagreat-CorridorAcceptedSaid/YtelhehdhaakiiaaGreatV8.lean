/- The contracts and facts that the laws of this seat need, in one text (KR6, KR7, KR8, KR9, KR10, KR11, KR12, KR13, KR14, KR15, KR16, KR17, K19, KR18, KR19, KR20, De1, De2, De3, De4, CoS, Co1, Co2, Ab33, Co3, Co4, Co5, Co6, Co7, Co13). -/
import Derived.Test.YtelhehdhaakiiaaGreatV7
set_option linter.all false
set_option maxHeartbeats 16000000
namespace Go.Ab
open Go.Proofs
theorem Ik (s : Sh) (hl : s.pts.length≤9223372036854775807) : ab Tryz.prog 189 [.pv (du s)] [] [] (.pv (B (iw s))):=by
 have hd : iw s=(decide (1≤s.rad) && decide (s.rad≤1048576) && decide (1≤s.pts.length) && decide (s.pts.length≤8) && s.pts.all (aA 4194304)):=rfl
 by_cases hh : s.rad < 1∨1048576 < s.rad∨(s.pts.length : Int) < 1∨(8 : Int) < s.pts.length
 ·have hf : iw s=false:=by
   cases h : iw s with
   |false=>rfl
   |true=>
    rw [hd] at h
    simp only [Bool.and_eq_true,decide_eq_true_eq] at h
    omega
  rw [hf]
  rcases hh with h1|h1|h1|h1
  all_goals
   refine Dp Tryz.func189 ?_
   intro C hP hN
   simp only [Tryz.f189] at hN ⊢
   exact Gy
 have h1 : ¬ s.rad < 1:=by omega
 have h2 : ¬ 1048576 < s.rad:=by omega
 have h3 : ¬ (s.pts.length : Int) < 1:=by omega
 have h4 : ¬ (8 : Int) < s.pts.length:=by omega
 have h3' : ¬ s.pts.length < 1:=by omega
 have h4' : ¬ 8 < s.pts.length:=by omega
 have hf : iw s=s.pts.all (aA 4194304):=by
  rw [hd,decide_eq_true (by omega),decide_eq_true (by omega),decide_eq_true (by omega),decide_eq_true (by omega)];rfl
 rw [hf]
 refine Dp Tryz.func189 ?_
 intro C hP hN
 simp only [Tryz.f189] at hN ⊢
 refine Gz ?_
 refine WP.loopN [] s.pts.length (fun k st=>st.t 1=.ptr 1 0∧st.h 1=some (.box [.pv (Z s.link),.pv (Z s.rad),.pv (aR s.pts)] true false)∧st.t 3=.pv (Z k)∧∀ j x,j < k→s.pts[j]?=some x→aA 4194304 x=true) (by simp) ?_
 rintro k st hk2 ⟨g1,hb1,g3,hn⟩
 by_cases hkl : k < s.pts.length
 ·have hwk:=ak hkl hl
  have hkl' : (k : Int) < (s.pts.length : Int):=by omega
  generalize hye : s.pts[k]=p at *
  have hy : s.pts[k]?=some p:=by rw [List.getElem?_eq_getElem hkl,hye]
  have cn:=pN p.1 p.2.1 p.2.2 4194304 (by decide) (by decide)
  have hnp : aA 4194304 p=dN p.1 p.2.1 p.2.2 4194304:=rfl
  rw [← hnp] at cn
  have hstn:=m9 (p:=aA 4194304) hy hn
  cases hc : aA 4194304 p with
  |true=>
   rw [hc] at cn
   have hst2:=hstn hc
   refine Gz ?_
   all_goals (intro j a b c hj hx2;exact hst2 j (a,b,c) (by omega) hx2)
  |false=>
   rw [hc] at cn
   have hall : s.pts.all (aA 4194304)=false:=by
    rw [List.all_eq_false]
    exact ⟨p,List.mem_of_getElem? hy,by simp [hc]⟩
   exact Gy
 ·have hall : s.pts.all (aA 4194304)=true:=qf hn hkl
  have hkl' : ¬ (k : Int) < (s.pts.length : Int):=by omega
  exact Gy
theorem Il (h : Sh) (p : j0) (hs : iw h=true) : ab Tryz.prog 168 [.pv (du h),.pv (eM p)] [] [] (.pv (aV (dI h p))):=by
 have h8 : h.pts.length≤8:=by
  simp only [iw,Bool.and_eq_true,decide_eq_true_eq] at hs;omega
 have cc:=Ik h (by omega)
 rw [hs] at cc
 have hpl : dI h p=h.pts.map fun q=>kM p (gE q):=rfl
 have ca : ∀ v : au,ab Tryz.prog 190 [.pv (eM p),.pv (dt v)] [] [] (.pv (dt (kM p v))):=fun v=>Ii
 have cp : ∀ q : Vc,ab Tryz.prog 191 [.pv (aH q)] [] [] (.pv (dt (gE q))):=fun q=>F0 q.1 q.2.1 q.2.2
 have hbx : (eM p).cells=[Z p.1.1.1.1,Z p.1.1.1.2,Z p.1.1.2.1.1,Z p.1.1.2.1.2,Z p.1.1.2.2.1,Z p.1.1.2.2.2,Z p.1.2.1.1.1,Z p.1.2.1.1.2,Z p.1.2.1.2.1.1,Z p.1.2.1.2.1.2,Z p.1.2.1.2.2.1,Z p.1.2.1.2.2.2,Z p.1.2.2.1.1,Z p.1.2.2.1.2,Z p.1.2.2.2.1.1,Z p.1.2.2.2.1.2,Z p.1.2.2.2.2.1,Z p.1.2.2.2.2.2,Z p.2.1.1,Z p.2.1.2,Z p.2.2.1.1,Z p.2.2.1.2,Z p.2.2.2.1,Z p.2.2.2.2]:=rfl
 refine Dp Tryz.func168 ?_
 intro C hP hN
 simp only [Tryz.f168] at hN ⊢
 with_reducible repeat' (first|refine Sp.h ?_|((first|refine Wh [5] ?_|refine Wi [5] ?_|refine Ss.h ?_|refine Sc.h (cc) ?_|(refine Sb.h ?_ ?_ ?_<;>(try intro hgd)<;>try exact Xy))<;>simp -implicitDefEqProofs (maxSteps:=2000000) [hP,hN]<;>try refine Ya ?_)|refine X2 ?_ ?_|(refine Xd ?_ ?_<;>intro hcd<;>try exact Xx))
 refine WP.loopN [] h.pts.length (fun i st=>st.t 2=.ptr 2 0∧st.t 3=.ptr 3 0∧st.h 2=some (.box [.pv (Z h.link),.pv (Z h.rad),.pv (aR h.pts)] true false)∧st.h 3=some (.box ((eM p).cells.map .pv) true false)∧st.t 6=.pv (Z i)∧st.t 5=.arr 5 i∧st.h 5=some (.row 218 6 (((dI h p).map dt).take i) 0)) (by simp) ?_
 rintro i st hi ⟨g2,g3,hb2,hb3,g6,g5,hb5⟩
 have hzT : min i (dI h p).length=i:=by rw [hpl,List.length_map];omega
 by_cases hlt : i < h.pts.length
 ·have hw:=ak hlt (by omega)
  have hlt' : (i : Int) < (h.pts.length : Int):=by omega
  generalize hxe : h.pts[i]=q at *
  have hx : h.pts[i]?=some q:=by rw [List.getElem?_eq_getElem hlt,hxe]
  have hS : ((dI h p).map dt).take (i+1)=((dI h p).map dt).take i++[dt (kM p (gE q))]:=by
   rw [List.take_succ,List.getElem?_map,hpl,List.getElem?_map,hx];rfl
  have cq:=cp q
  have cv:=ca (gE q)
  rw [hS]
  have hL : (((dI h p).map dt).take i).length=i:=by simp [hzT]
  generalize ((dI h p).map dt).take i=R at *
  generalize kM p (gE q)=res at *
  generalize gE q=w at *
  rw [hbx] at hb3
  with_reducible repeat' (first|refine Sp.h ?_|((first|refine Wd ?_|refine Ss.h ?_|refine Sc.h (cq) ?_|refine Sc.h (cv) ?_|(refine Sb.h ?_ ?_ ?_<;>(try intro hgd)<;>try exact Xy))<;>simp -implicitDefEqProofs (maxSteps:=2000000) [hP,hN,g2,g3,hb2,hb3,g6,g5,hb5,hlt,hlt',hx,hxe,hw,hL,show (i+1) * 48≤140737488355328 by omega,show i≤9223372036854775806 by omega]<;>try refine Ya ?_)|refine X2 ?_ ?_|(refine Xd ?_ ?_<;>intro hcd<;>try exact Xx))
 ·have hlt' : ¬ (i : Int) < (h.pts.length : Int):=by omega
  have hfull : ((dI h p).map dt).take i=(dI h p).map dt:=List.take_of_length_le (by rw [List.length_map,hpl,List.length_map];omega)
  rw [hfull] at hb5
  have hL : (dI h p).length=i:=by rw [hpl,List.length_map];omega
  with_reducible repeat' (first|refine Sp.h ?_|((first|refine Wd ?_|refine Ss.h ?_|(refine Sb.h ?_ ?_ ?_<;>(try intro hgd)<;>try exact Xy))<;>simp -implicitDefEqProofs (maxSteps:=2000000) [hP,hN,g2,g3,hb2,hb3,g6,g5,hb5,hlt,hlt',hL]<;>try refine Ya ?_)|refine X2 ?_ ?_|(refine Xd ?_ ?_<;>intro hcd<;>try exact Xx))
end Go.Ab
namespace Go.Ab
open Go.Proofs
theorem Am {x : Iv} (h : bW x=false) : x.1 < -268435456∨x.2 < x.1∨268435456 < x.2:=by
 by_cases hc : x.1 < -268435456∨x.2 < x.1∨268435456 < x.2
 ·exact hc
 ·have : bW x=true:=by rw [fX];omega
  rw [h] at this;cases this
theorem vi {x0 x1 x2 x3 x4 x5 : Int} : ab Tryz.prog 176 [.pv (V6 x0 x1 x2 x3 x4 x5)] [] [] (.pv (B (cX ((x0,x1),(x2,x3),(x4,x5))))):=by
 have hd : cX ((x0,x1),(x2,x3),(x4,x5))=(bW (x0,x1) && bW (x2,x3) && bW (x4,x5)):=rfl
 rw [hd]
 obtain ⟨m,hm⟩ : ∃ m : Nat,m=(if bW (x0,x1) then (if bW (x2,x3) then (if bW (x4,x5) then 3 else 2) else 1) else 0):=⟨_,rfl⟩
 refine Dp Tryz.func176 ?_
 intro C hP hN
 simp only [Tryz.f176] at hN ⊢
 refine Gz ?_
 refine WP.loopN [] 3 (fun k st=>st.t 1=.ptr 1 0∧st.h 1=some (.box [.pv (Z x0),.pv (Z x1),.pv (Z x2),.pv (Z x3),.pv (Z x4),.pv (Z x5)] true false)∧st.t 3=.pv (Z k)∧k≤m) (by simp) ?_
 rintro k st hk ⟨g1,hb1,g3,hkm⟩
 cases h0 : bW (x0,x1)<;>rw [h0] at hm
 ·simp only [Bool.false_eq_true,if_false] at hm
  have : k=0:=by omega
  subst this
  have h0':=Am h0
  simp only at h0'
  rcases h0' with q|q|q
  all_goals
   exact Gy
 simp only [if_true] at hm
 have i0:=fX.1 h0
 simp only at i0
 cases h1 : bW (x2,x3)<;>rw [h1] at hm
 ·simp only [Bool.false_eq_true,if_false] at hm
  have hc : k=0∨k=1:=by omega
  rcases hc with rfl|rfl
  ·skip
   exact Gy
   all_goals omega
  ·have h0':=Am h1
   simp only at h0'
   rcases h0' with q|q|q
   all_goals
    exact Gy
 simp only [if_true] at hm
 have i1:=fX.1 h1
 simp only at i1
 cases h2 : bW (x4,x5)<;>rw [h2] at hm
 ·simp only [Bool.false_eq_true,if_false] at hm
  have hc : k=0∨k=1∨k=2:=by omega
  rcases hc with rfl|rfl|rfl
  ·skip
   exact Gy
   all_goals omega
  ·skip
   exact Gy
   all_goals omega
  ·have h0':=Am h2
   simp only at h0'
   rcases h0' with q|q|q
   all_goals
    exact Gy
 simp only [if_true] at hm
 have i2:=fX.1 h2
 simp only at i2
 rcases gS hk with rfl|rfl|rfl|rfl
 ·skip
  exact Gy
  all_goals omega
 ·skip
  exact Gy
  all_goals omega
 ·skip
  exact Gy
  all_goals omega
 ·skip
  exact Gy
theorem F4 (v : au) : ab Tryz.prog 176 [.pv (dt v)] [] [] (.pv (B (cX v))):=vi
theorem qj (xs : List au) (hl : xs.length≤9223372036854775807) : ab Tryz.prog 145 [.pv (aV xs)] [] [] (.pv (B (aC xs))):=by
 by_cases h8 : xs.length≤8
 ·have hw8 : ∀ i : Nat,i < xs.length→IntKind.i64.wrap ((i : Int)+1)=(i : Int)+1:=fun i h=>aa (by omega) (by omega)
  refine Dp Tryz.func145 ?_
  intro C hP hN
  simp only [Tryz.f145] at hN ⊢
  refine Gz ?_
  refine WP.loopN [] xs.length (fun i st=>st.t 0=.pv (aV xs)∧st.t 3=.pv (Z i)∧∀ k x,k < i→xs[k]?=some x→cX x=true) (by simp) ?_
  rintro i st hi ⟨g0,g3,hq⟩
  by_cases hlt : i < xs.length
  ·have hw:=hw8 i hlt
   have hlt' : (i : Int) < (xs.length : Int):=by omega
   have hi8 : (i : Int)≤8:=by omega
   have hi8' : i≤8:=by omega
   generalize hxe : xs[i]=v at *
   have hx : xs[i]?=some v:=by rw [List.getElem?_eq_getElem hlt,hxe]
   have cr:=F4 v
   have hst:=m9 (p:=cX) hx hq
   cases hc : cX v with
   |true=>
    rw [hc] at cr
    have hst2:=hst hc
    refine Gz ?_
    all_goals exact fun k a b c d e f hk hx2=>hst2 k ((a,b),(c,d),(e,f)) (by omega) hx2
   |false=>
    rw [hc] at cr
    have hall : xs.all cX=false:=by
     rw [List.all_eq_false]
     exact ⟨v,List.mem_of_getElem? hx,by simp [hc]⟩
    have hpb : aC xs=false:=by simp [aC,hall]
    rw [hpb]
    exact Gy
  ·have hall : xs.all cX=true:=qf hq hlt
   have hlt' : ¬ (i : Int) < (xs.length : Int):=by omega
   have hpb : aC xs=decide (1≤xs.length):=by
    rw [aC,hall,decide_eq_true h8,Bool.and_true,Bool.and_true]
   rw [hpb]
   by_cases h1 : 1≤xs.length
   ·have h1' : (1 : Int)≤(xs.length : Int):=by omega
    have h8' : (xs.length : Int)≤8:=by omega
    exact Gy
   ·have h1' : ¬ (1 : Int)≤(xs.length : Int):=by omega
    exact Gy
 ·have hpb : aC xs=false:=by
   cases h : aC xs with
   |false=>rfl
   |true=>simp only [aC,Bool.and_eq_true,decide_eq_true_eq] at h;omega
  rw [hpb]
  refine Dp Tryz.func145 ?_
  intro C hP hN
  simp only [Tryz.f145] at hN ⊢
  refine Gz ?_
  refine WP.loopN [] 9 (fun i st=>st.t 0=.pv (aV xs)∧st.t 3=.pv (Z i)) (by simp) ?_
  rintro i st hi ⟨g0,g3⟩
  have hlt : i < xs.length∨i=9:=by omega
  by_cases hi8 : i≤8
  ·have hlt : i < xs.length:=by omega
   have hw : IntKind.i64.wrap ((i : Int)+1)=(i : Int)+1:=aa
   have hlt' : (i : Int) < (xs.length : Int):=by omega
   have hi8' : (i : Int)≤8:=by omega
   generalize hxe : xs[i]=v at *
   have hx : xs[i]?=some v:=by rw [List.getElem?_eq_getElem hlt,hxe]
   have cr:=F4 v
   cases hc : cX v<;>rw [hc] at cr
   ·skip
    exact Gy
   ·skip
    refine Gz ?_
    all_goals omega
  ·have hi9 : i=9:=by omega
   subst hi9
   have h8' : ¬ (xs.length : Int)≤8:=by omega
   have h1' : (1 : Int)≤(xs.length : Int):=by omega
   have h1 : 1≤xs.length:=by omega
   by_cases h9 : (9 : Int) < (xs.length : Int)
   ·have h9' : 9 < xs.length:=by omega
    exact Gy
   ·have h9' : ¬ 9 < xs.length:=by omega
    exact Gy
theorem F5 (x : Iv) : fw x=nc x:=by
 unfold fw nc
 split
 ·rename_i h
  have h:=eo.1 h
  rw [aa (by omega) (by omega),Int.fdiv_eq_ediv_of_nonneg _ (by decide)]
 ·rfl
theorem Nv (xs : List au) (hl : xs.length≤9223372036854775807) : ab Tryz.prog 99 [.pv (aV xs)] [] [] (.pv (aR (aF xs))):=by
 have cp:=qj xs hl
 cases hp : aC xs with
 |false=>
  rw [hp] at cp
  have hc : aF xs=[]:=by simp [aF,hp]
  rw [hc]
  refine Dp Tryz.func99 ?_
  intro C hP hN
  simp only [Tryz.f99] at hN ⊢
  exact Gy
 |true=>
  rw [hp] at cp
  have h8 : xs.length≤8:=by
   simp only [aC,Bool.and_eq_true,decide_eq_true_eq] at hp;omega
  have hc : aF xs=xs.map iM:=by simp [aF,hp]
  rw [hc]
  refine Dp Tryz.func99 ?_
  intro C hP hN
  simp only [Tryz.f99] at hN ⊢
  with_reducible repeat' (first|refine Sp.h ?_|((first|refine Wh [3] ?_|refine Wi [3] ?_|refine Ss.h ?_|refine Sc.h (cp) ?_|(refine Sb.h ?_ ?_ ?_<;>(try intro hgd)<;>try exact Xy))<;>simp -implicitDefEqProofs (maxSteps:=2000000) [hP,hN]<;>try refine Ya ?_)|refine X2 ?_ ?_|(refine Xd ?_ ?_<;>intro hcd<;>try exact Xx))
  refine WP.loopN [] xs.length (fun i st=>st.t 0=.pv (aV xs)∧st.t 4=.pv (Z i)∧st.t 3=.arr 3 i∧st.h 3=some (.row 77 3 (((xs.map iM).map aH).take i) 0)) (by simp) ?_
  rintro i st hi ⟨g0,g4,g3,hb3⟩
  have hzT : min i xs.length=i:=by omega
  by_cases hlt : i < xs.length
  ·have hw:=ak hlt (by omega)
   have hlt' : (i : Int) < (xs.length : Int):=by omega
   generalize hxe : xs[i]=v at *
   have hx : xs[i]?=some v:=by rw [List.getElem?_eq_getElem hlt,hxe]
   have c0:=FJ v.1
   have c1:=FJ v.2.1
   have c2:=FJ v.2.2
   rw [F5] at c0 c1 c2
   have hS : ((xs.map iM).map aH).take (i+1)=((xs.map iM).map aH).take i++[aH (nc v.1,nc v.2.1,nc v.2.2)]:=by
    rw [List.take_succ,List.getElem?_map,List.getElem?_map,hx];rfl
   rw [hS]
   have hL : (((xs.map iM).map aH).take i).length=i:=by simp [hzT]
   generalize ((xs.map iM).map aH).take i=R at *
   with_reducible repeat' (first|refine Sp.h ?_|((first|refine Wd ?_|refine Ss.h ?_|refine Sc.h (c0) ?_|refine Sc.h (c1) ?_|refine Sc.h (c2) ?_|(refine Sb.h ?_ ?_ ?_<;>(try intro hgd)<;>try exact Xy))<;>simp -implicitDefEqProofs (maxSteps:=2000000) [hP,hN,g0,g4,g3,hb3,hlt,hlt',hx,hxe,hw,hL,show (i+1) * 24≤140737488355328 by omega,show i≤9223372036854775806 by omega]<;>try refine Ya ?_)|refine X2 ?_ ?_|(refine Xd ?_ ?_<;>intro hcd<;>try exact Xx))
  ·have hlt' : ¬ (i : Int) < (xs.length : Int):=by omega
   have hfull : ((xs.map iM).map aH).take i=(xs.map iM).map aH:=List.take_of_length_le (by simp;omega)
   rw [hfull] at hb3
   have hL : xs.length=i:=by omega
   exact Gy
theorem F6 (js : List J) (ms : List Ms) (bx : List Iv) (hl : js.length≤9223372036854775807) (hl2 : bx.length≤9223372036854775807) : ab Tryz.prog 101 [.pv (fx js ms),.pv (iv bx)] [] [] (.pv (B (jO js bx))):=by
 have hd : jO js bx=(decide (bx.length=js.length) && aD vI bx):=rfl
 have ca:=fN bx hl2
 by_cases h : bx.length=js.length
 ·rw [hd,decide_eq_true h,Bool.true_and]
  have h' : ((bx.length : Int)==(js.length : Int))=true:=by simp [h]
  generalize aD vI bx=r at *
  refine Dp Tryz.func101 ?_
  intro C hP hN
  simp only [Tryz.f101] at hN ⊢
  exact Gy
 ·rw [hd,decide_eq_false h,Bool.false_and]
  have h' : ((bx.length : Int)==(js.length : Int))=false:=by simp;omega
  refine Dp Tryz.func101 ?_
  intro C hP hN
  simp only [Tryz.f101] at hN ⊢
  exact Gy
set_option maxRecDepth 4000 in
theorem Im (js : List J) (ms : List Ms) (bx : List Iv) (hm : ms.length≤9223372036854775807) (h0 : ax js ms=0) (hbx : jO js bx=true) : ab Tryz.prog 166 [.pv (fx js ms),.pv (iv bx)] [] [] (.pv (.sl ((iy js bx).map eM))):=by
 obtain ⟨hj,hl,_⟩:=mG h0
 have hb:=(tv.1 hbx).1
 have cr:=mn js ms (by omega) hm
 have cb:=F6 js ms bx (by omega) (by omega)
 rw [h0] at cr
 rw [hbx] at cb
 have hLl : (iy js bx).length=js.length:=jP hb _ (Nat.le_refl _)
 have hat:=fun i j v (h1 : js[i]?=some j) (h2 : bx[i]?=some v)=>CT hb h1 h2 (hj i j h1)
 generalize iy js bx=LL at *
 generalize hLM : LL.map eM=LM at *
 have hML : LM.length=js.length:=by rw [← hLM];simpa using hLl
 have hMk : ∀ k p,LL[k]?=some p→LM[k]?=some (eM p):=fun k p h=>by rw [← hLM,List.getElem?_map,h];rfl
 refine Dp Tryz.func166 ?_
 intro C hP hN
 simp only [Tryz.f166] at hN ⊢
 with_reducible repeat' (first|refine Sp.h ?_|((first|refine Wh [5] ?_|refine Wi [5] ?_|refine Ss.h ?_|refine Sc.h (cr) ?_|refine Sc.h (cb) ?_|(refine Sb.h ?_ ?_ ?_<;>(try intro hgd)<;>try exact Xy))<;>simp -implicitDefEqProofs (maxSteps:=2000000) [hP,hN]<;>try refine Ya ?_)|refine X2 ?_ ?_|(refine Xd ?_ ?_<;>intro hcd<;>try exact Xx))
 refine WP.loopN [7] bx.length (fun i st=>st.t 2=.ptr 2 0∧st.h 2=some (.box [.pv (.sl (js.map bT)),.pv (.sl (ms.map bY))] true false)∧st.t 1=.pv (iv bx)∧st.t 6=.pv (Z i)∧st.h 7=none∧st.t 5=.arr 5 i∧st.h 5=some (.row 232 24 (LM.take i) 0)) (by simp) ?_
 rintro i st hi ⟨g2,hb2,g1,g6,hb7,g5,hb5⟩
 have hzT : (LM.take i).length=i:=by simp;omega
 by_cases hltb : i < bx.length
 ·have hw:=ak hltb (by omega)
  have hlt : i < js.length:=by omega
  have hlt' : (i : Int) < (bx.length : Int):=by omega
  generalize hxe : js[i]=j at *
  have hx : js[i]?=some j:=by rw [List.getElem?_eq_getElem hlt,hxe]
  generalize hve : bx[i]=v at *
  have hv : bx[i]?=some v:=by rw [List.getElem?_eq_getElem hltb,hve]
  obtain ⟨⟨hk0,hk6⟩,hp1,hp2⟩:=hj i j hx
  have cj:=Ij (a:=v.1) (b:=v.2) j hk0 hk6
  have ha:=hat i j v hx hv
  generalize hq : mb j (v.1,v.2)=q at *
  have key : ∀ x,LL[i]?=some x→LM.take (i+1)=LM.take i++[eM x]:=fun x hxx=>by
   rw [List.take_succ,hMk i x hxx];rfl
  by_cases he : j.parent=-1
  ·rw [if_pos he] at ha
   have k1:=key q ha
   rw [k1]
   have he2 : (j.parent !=-1)=false:=by simp [he]
   generalize LM.take i=R at *
   with_reducible repeat' (first|refine Sp.h ?_|((first|refine Wd ?_|refine Ss.h ?_|refine Sc.h (cj) ?_|(refine Sb.h ?_ ?_ ?_<;>(try intro hgd)<;>try exact Xy))<;>simp -implicitDefEqProofs (maxSteps:=2000000) [hP,hN,g2,hb2,g1,g6,hb7,g5,hb5,hzT,hlt,hltb,hlt',hw,hx,hxe,hv,hve,he2,show (i+1) * 192≤140737488355328 by omega,show i≤9223372036854775806 by omega]<;>try refine Ya ?_)|refine X2 ?_ ?_|(refine Xd ?_ ?_<;>intro hcd<;>try exact Xx))
  ·rw [if_neg he] at ha
   obtain ⟨p,hp⟩ : ∃ p : Nat,j.parent=p:=⟨j.parent.toNat,by omega⟩
   have he2 : (j.parent !=-1)=true:=by simp [he]
   have hp0 : (0 : Int)≤j.parent:=by omega
   have hpt : j.parent.toNat=p:=by omega
   have hpi : p < i:=by omega
   have hpl : p < LL.length:=by omega
   have hLp : LL[p]?=some LL[p]:=List.getElem?_eq_getElem hpl
   rw [hpt,hLp,Option.getD_some] at ha
   have hRp : (LM.take i)[p]?=some (eM LL[p]):=by rw [List.getElem?_take,if_pos hpi];exact hMk p _ hLp
   have hgp:=FG hRp
   generalize LL[p]=pp at *
   have k1:=key _ ha
   rw [k1]
   have cc : ab Tryz.prog 187 [.pv (eM pp),.pv (eM q)] [] [] (.pv (eM (mF pp q))):=qi
   generalize mF pp q=res at *
   generalize LM.take i=R at *
   have hpR : p < R.length:=by omega
   with_reducible repeat' (first|refine Sp.h ?_|((first|refine Wd ?_|refine Ss.h ?_|refine Sc.h (cj) ?_|refine Sc.h (cc) ?_|(refine Sb.h ?_ ?_ ?_<;>(try intro hgd)<;>try exact Xy))<;>simp -implicitDefEqProofs (maxSteps:=2000000) [hP,hN,g2,hb2,g1,g6,hb7,g5,hb5,hzT,hlt,hltb,hlt',hw,hx,hxe,hv,hve,he2,hp0,hpt,hpi,hRp,hgp,hpR,show (i+1) * 192≤140737488355328 by omega,show i≤9223372036854775806 by omega]<;>try refine Ya ?_)|refine X2 ?_ ?_|(refine Xd ?_ ?_<;>intro hcd<;>try exact Xx))
 ·have hfull : LM.take i=LM:=List.take_of_length_le (by omega)
  have hlt' : ¬ (i : Int) < (bx.length : Int):=by omega
  rw [hfull] at hb5 hzT
  with_reducible repeat' (first|refine Sp.h ?_|((first|refine Wd ?_|refine Ss.h ?_|(refine Sb.h ?_ ?_ ?_<;>(try intro hgd)<;>try exact Xy))<;>simp -implicitDefEqProofs (maxSteps:=2000000) [hP,hN,g2,hb2,g1,g6,hb7,g5,hb5,hltb,hlt',hzT]<;>try refine Ya ?_)|refine X2 ?_ ?_|(refine Xd ?_ ?_<;>intro hcd<;>try exact Xx))
set_option maxRecDepth 4000 in
theorem Io (s : Sce) (bx : List Iv) (hs : ScL s) (h0 : az s=0) (hbx : jO s.js bx=true) : ab Tryz.prog 132 [.pv (eN s),.pv (iv bx)] [] [] (.pv (.sl ((eW s bx).map aV))):=by
 have cc:=yR s hs
 rw [h0] at cc
 have hr : ax s.js s.ms=0:=by
  unfold az at h0
  split at h0
  ·rename_i h;exact absurd h0 h
  ·rename_i h;simpa using h
 obtain ⟨v1,v2,v3,v4,v5,v6,v7⟩:=mH h0
 have hbl:=(tv.1 hbx).1
 have cb:=F6 s.js s.ms bx hs.js (by omega)
 have cl:=Im s.js s.ms bx hs.ms hr hbx
 rw [hbx] at cb
 have hLl : (iy s.js bx).length=s.js.length:=jP hbl _ (Nat.le_refl _)
 have hpL : eW s bx=s.shs.map fun h=>dI h (jQ (iy s.js bx) h):=rfl
 rw [hpL]
 generalize iy s.js bx=LL at *
 generalize hLM : (s.shs.map fun h=>dI h (jQ LL h)).map aV=LM
 have hML : LM.length=s.shs.length:=by rw [← hLM];simp
 have hMk : ∀ k h,s.shs[k]?=some h→LM[k]?=some (aV (dI h (jQ LL h))):=fun k q hk=>by rw [← hLM,List.getElem?_map,List.getElem?_map,hk];rfl
 refine Dp Tryz.func132 ?_
 intro C hP hN
 simp only [Tryz.f132] at hN ⊢
 with_reducible repeat' (first|refine Sp.h ?_|((first|refine Wh [6] ?_|refine Wi [6] ?_|refine Ss.h ?_|refine Sc.h (cc) ?_|refine Sc.h (cb) ?_|refine Sc.h (cl) ?_|(refine Sb.h ?_ ?_ ?_<;>(try intro hgd)<;>try exact Xy))<;>simp -implicitDefEqProofs (maxSteps:=2000000) [hP,hN]<;>try refine Ya ?_)|refine X2 ?_ ?_|(refine Xd ?_ ?_<;>intro hcd<;>try exact Xx))
 refine WP.loopN [8] s.shs.length (fun i st=>st.t 2=.ptr 2 0∧st.h 2=some (.box [.pv (.sl (s.js.map bT)),.pv (.sl (s.ms.map bY)),.pv (.sl (s.shs.map du)),.pv (.sl (s.sks.map aJ))] true false)∧st.t 5=.pv (.sl (LL.map eM))∧st.t 7=.pv (Z i)∧st.h 8=none∧st.t 6=.arr 6 i∧st.h 6=some (.row 170 1 (LM.take i) 0)) (by simp) ?_
 rintro i st hi ⟨g2,hb2,g5,g7,hb8,g6,hb6⟩
 have hzT : (LM.take i).length=i:=by simp;omega
 by_cases hlt : i < s.shs.length
 ·have hw:=ak hlt (by omega)
  have hlt' : (i : Int) < (s.shs.length : Int):=by omega
  generalize hxe : s.shs[i]=h at *
  have hx : s.shs[i]?=some h:=by rw [List.getElem?_eq_getElem hlt,hxe]
  have hm:=List.mem_of_getElem? hx
  obtain ⟨hl1,hsb⟩:=v6 h hm
  simp only [cK,Bool.and_eq_true,decide_eq_true_eq] at hl1
  have cp:=fun p=>Il h p hsb
  have k2 : LM.take (i+1)=LM.take i++[aV (dI h (jQ LL h))]:=by rw [List.take_succ,hMk i h hx];rfl
  rw [k2]
  clear hMk hLM hpL
  by_cases he : h.link=-1
  ·have he1 : (h.link==-1)=true:=by simp [he]
   have he2 : (h.link !=-1)=false:=by simp [he]
   have hpo : jQ LL h=i9:=by simp [jQ,he]
   rw [hpo]
   have cps:=cp i9
   have crs:=Db
   generalize dI h i9=pl at *
   generalize i9=sti at *
   generalize LM.take i=R at *
   with_reducible repeat' (first|refine Sp.h ?_|((first|refine Wd ?_|refine Ss.h ?_|refine Sc.h (crs) ?_|refine Sc.h (cps) ?_|(refine Sb.h ?_ ?_ ?_<;>(try intro hgd)<;>try exact Xy))<;>simp -implicitDefEqProofs (maxSteps:=2000000) [hP,hN,g2,hb2,g5,g7,hb8,g6,hb6,hzT,hlt,hlt',hw,hx,hxe,he1,he2,show (i+1) * 24≤140737488355328 by omega,show i≤9223372036854775806 by omega]<;>try refine Ya ?_)|refine X2 ?_ ?_|(refine Xd ?_ ?_<;>intro hcd<;>try exact Xx))
  ·have he1 : (h.link==-1)=false:=by simp [he]
   have he2 : (h.link !=-1)=true:=by simp [he]
   have hp0 : (0 : Int)≤h.link:=by omega
   obtain ⟨p,hp⟩ : ∃ p : Nat,h.link.toNat=p:=⟨_,rfl⟩
   have hpl : p < LL.length:=by omega
   have hLp : LL[p]?=some LL[p]:=List.getElem?_eq_getElem hpl
   have hpo : jQ LL h=LL[p]:=by simp only [jQ,if_neg he,hp,hLp,Option.getD_some]
   rw [hpo]
   generalize hpp : LL[p]=pp at *
   have cps:=cp pp
   have crs:=Db
   generalize dI h pp=pl at *
   generalize i9=sti at *
   generalize LM.take i=R at *
   with_reducible repeat' (first|refine Sp.h ?_|((first|refine Wd ?_|refine Ss.h ?_|refine Sc.h (crs) ?_|refine Sc.h (cps) ?_|(refine Sb.h ?_ ?_ ?_<;>(try intro hgd)<;>try exact Xy))<;>simp -implicitDefEqProofs (maxSteps:=2000000) [hP,hN,g2,hb2,g5,g7,hb8,g6,hb6,hzT,hlt,hlt',hw,hx,hxe,he1,he2,hp0,hp,hpl,hLp,hpp,show (i+1) * 24≤140737488355328 by omega,show i≤9223372036854775806 by omega]<;>try refine Ya ?_)|refine X2 ?_ ?_|(refine Xd ?_ ?_<;>intro hcd<;>try exact Xx))
 ·have hfull : LM.take i=LM:=List.take_of_length_le (by omega)
  have hlt' : ¬ (i : Int) < (s.shs.length : Int):=by omega
  rw [hfull] at hb6 hzT
  with_reducible repeat' (first|refine Sp.h ?_|((first|refine Wd ?_|refine Ss.h ?_|(refine Sb.h ?_ ?_ ?_<;>(try intro hgd)<;>try exact Xy))<;>simp -implicitDefEqProofs (maxSteps:=2000000) [hP,hN,g2,hb2,g5,g7,hb8,g6,hb6,hlt,hlt',hzT]<;>try refine Ya ?_)|refine X2 ?_ ?_|(refine Xd ?_ ?_<;>intro hcd<;>try exact Xx))
end Go.Ab
namespace Go.Ab
open Go.Proofs
theorem Ip (n : Nat) (hn : n < 4611686018427387904) : ab Tryz.prog 193 [.pv (Z n)] [] [] (.pv (Z (dn n))):=by
 by_cases h0 : n=0
 ·subst h0
  have hs : dn 0=0:=by decide +kernel
  rw [hs]
  refine Dp Tryz.func193 ?_
  intro C hP hN
  simp only [Tryz.f193] at hN ⊢
  exact Gy
 have hn1 : ¬ (n : Int) < 1:=by omega
 have hn1' : ¬ n < 1:=by omega
 have hsq:=oO (n:=n) (by omega)
 refine Dp Tryz.func193 ?_
 intro C hP hN
 simp only [Tryz.f193] at hN ⊢
 refine Gz ?_
 refine WP.loopN [] 32 (fun i st=>∃ lo hi : Nat,st.t 0=.pv (Z n)∧st.t 3=.pv (Z lo)∧st.t 4=.pv (Z hi)∧1≤lo∧lo < hi∧hi≤4294967296∧lo * lo≤n∧n < hi * hi∧hi - lo≤2 ^ (32 - i)) ⟨1,4294967296,by simp;omega⟩ ?_
 rintro i st hi ⟨lo,hi2,g0,g3,g4,b1,b2,b3,b4,b5,b6⟩
 have w1 : IntKind.i64.wrap ((hi2 : Int) - (lo : Int))=((hi2 - lo : Nat) : Int):=(aa (by omega) (by omega)).trans (by omega)
 by_cases hc : 1 < hi2 - lo
 ·have hi32 : i < 32:=by
   by_cases h : i < 32
   ·exact h
   ·have : i=32:=by omega
    subst this;simp at b6;omega
  have hp : 2 ^ (32 - i)=2 * 2 ^ (31 - i):=by
   rw [show 32 - i=(31 - i)+1 by omega,Nat.pow_succ];omega
  rw [hp] at b6
  obtain ⟨m,hm⟩ : ∃ m : Nat,m=lo+(hi2 - lo) / 2:=⟨_,rfl⟩
  have hc' : (1 : Int) < ((hi2 - lo : Nat) : Int):=by omega
  obtain ⟨hf,hhf⟩ : ∃ hf : Nat,hf=(hi2 - lo) / 2:=⟨_,rfl⟩
  have w2 : IntKind.i64.wrap ((((hi2 - lo : Nat) : Int)).tdiv 2)=(hf : Int):=by
   rw [Int.tdiv_eq_ediv_of_nonneg (by omega)];exact (aa (by omega) (by omega)).trans (by omega)
  have w3 : IntKind.i64.wrap ((lo : Int)+(hf : Int))=(m : Int):=(aa (by omega) (by omega)).trans (by omega)
  have hm0 : 0 < m:=by omega
  have hmne : ¬ (m : Int)=0:=by omega
  have hmne' : ¬ m=0:=by omega
  obtain ⟨qt,hqt⟩ : ∃ qt : Nat,qt=n / m:=⟨_,rfl⟩
  have hqn : qt≤n:=by rw [hqt];exact Nat.div_le_self n m
  have w4 : IntKind.i64.wrap ((n : Int).tdiv (m : Int))=(qt : Int):=by
   rw [Int.tdiv_eq_ediv_of_nonneg (by omega),← Int.natCast_ediv,← hqt]
   exact aa (by omega) (by omega)
  have w5 : IntKind.i64.wrap (((hi2 - lo : Nat) : Int) / 2)=(hf : Int):=(aa (by omega) (by omega)).trans (by omega)
  have w6 : IntKind.i64.wrap ((n : Int) / (m : Int))=(qt : Int):=by
   rw [← Int.natCast_ediv,← hqt]
   exact aa (by omega) (by omega)
  by_cases hle : m≤qt
  ·have hmm : m * m≤n:=(Nat.le_div_iff_mul_le hm0).1 (hqt ▸ hle)
   have hle' : (m : Int)≤(qt : Int):=by omega
   with_reducible repeat' (first|refine Sp.h ?_|((first|refine Ss.h ?_|(refine Sb.h ?_ ?_ ?_<;>(try intro hgd)<;>try exact Xy))<;>simp -implicitDefEqProofs (maxSteps:=2000000) [hP,hN,g0,g3,g4,w1,w2,w3,w4,w5,w6,hc,hc',hmne,hmne',hle,hle'])|refine X2 ?_ ?_|(refine Xd ?_ ?_<;>intro hcd<;>try exact Xx))
   exact ⟨hi32,m,rfl,hi2,rfl,by omega,by omega,by omega,by omega,by omega,by omega⟩
  ·have hmm : n < m * m:=by
    rcases Nat.lt_or_ge n (m * m) with h|h
    ·exact h
    ·exact absurd (hqt ▸ (Nat.le_div_iff_mul_le hm0).2 h) hle
   have hle' : ¬ (m : Int)≤(qt : Int):=by omega
   with_reducible repeat' (first|refine Sp.h ?_|((first|refine Ss.h ?_|(refine Sb.h ?_ ?_ ?_<;>(try intro hgd)<;>try exact Xy))<;>simp -implicitDefEqProofs (maxSteps:=2000000) [hP,hN,g0,g3,g4,w1,w2,w3,w4,w5,w6,hc,hc',hmne,hmne',hle,hle'])|refine X2 ?_ ?_|(refine Xd ?_ ?_<;>intro hcd<;>try exact Xx))
   exact ⟨hi32,lo,rfl,m,rfl,by omega,by omega,by omega,by omega,by omega,by omega⟩
 ·have hhi : hi2=lo+1:=by omega
  subst hhi
  have he : lo=dn n:=Bt b4 b5 hsq.1 hsq.2
  have hc' : ¬ (1 : Int) < ((lo+1 - lo : Nat) : Int):=by omega
  exact Gy
  all_goals simp [he]
theorem Iq (n : Nat) (hn : n < 4611686018427387904) : ab Tryz.prog 175 [.pv (Z n)] [] [] (.pv (Z (tw n))):=by
 have cr:=Ip n hn
 have hsq:=oO (n:=n) (by omega)
 have hsm:=yj hn
 have hd : tw n=if dn n * dn n < n then dn n+1 else dn n:=rfl
 have w1 : IntKind.i64.wrap ((dn n : Int) * (dn n : Int))=((dn n * dn n : Nat) : Int):=by
  rw [← Int.natCast_mul];exact aa (by omega) (by omega)
 have w2 : IntKind.i64.wrap ((dn n : Int)+1)=((dn n+1 : Nat) : Int):=(aa (by omega) (by omega)).trans (by omega)
 rw [hd]
 generalize dn n=r at *
 by_cases h0 : 0 < n
 ·have h0' : (0 : Int) < (n : Int):=by omega
  by_cases hc : r * r < n
  ·have hc' : ((r * r : Nat) : Int) < (n : Int):=by omega
   rw [if_pos hc]
   refine Dp Tryz.func175 ?_
   intro C hP hN
   simp only [Tryz.f175] at hN ⊢
   exact Gy
  ·have hc' : ¬ ((r * r : Nat) : Int) < (n : Int):=by omega
   rw [if_neg hc]
   refine Dp Tryz.func175 ?_
   intro C hP hN
   simp only [Tryz.f175] at hN ⊢
   exact Gy
 ·have h0' : ¬ (0 : Int) < (n : Int):=by omega
  rw [if_neg (by omega)]
  refine Dp Tryz.func175 ?_
  intro C hP hN
  simp only [Tryz.f175] at hN ⊢
  exact Gy
theorem F7 (v : Vc) : ab Tryz.prog 143 [.pv (aH v)] [] [] (.pv (Z (ft v))):=by
 have cu:=uf v
 rw [nB] at cu
 cases hu : aW v with
 |false=>
  rw [hu] at cu
  have hr : ft v=0:=by simp [ft,hu]
  rw [hr]
  refine Dp Tryz.func143 ?_
  intro C hP hN
  simp only [Tryz.f143] at hN ⊢
  exact Gy
 |true=>
  rw [hu] at cu
  have hn : aA 16384 v=true:=by simp only [aW,Bool.and_eq_true] at hu;exact hu.1
  have hs:=Bw hn
  have hr : ft v=(tw (tx v) : Int):=by simp [ft,hu]
  have cr:=Iq (tx v) (by omega)
  have h1:=qY (dm.1 hn).1
  have h2:=qY (dm.1 hn).2.1
  have h3:=qY (dm.1 hn).2.2
  have q1:=bE (a:=v.1) (b:=v.1) 16384 16384 (by omega) (by omega) (by omega) (by omega)
  have q2:=bE (a:=v.2.1) (b:=v.2.1) 16384 16384 (by omega) (by omega) (by omega) (by omega)
  have q3:=bE (a:=v.2.2) (b:=v.2.2) 16384 16384 (by omega) (by omega) (by omega) (by omega)
  have p1:=zS v.1
  have p2:=zS v.2.1
  have p3:=zS v.2.2
  have w1 : IntKind.i64.wrap (v.1 * v.1)=v.1 * v.1:=aa
  have w2 : IntKind.i64.wrap (v.2.1 * v.2.1)=v.2.1 * v.2.1:=aa
  have w3 : IntKind.i64.wrap (v.2.2 * v.2.2)=v.2.2 * v.2.2:=aa
  have w4 : IntKind.i64.wrap (v.1 * v.1+v.2.1 * v.2.1)=v.1 * v.1+v.2.1 * v.2.1:=aa
  have w5 : IntKind.i64.wrap (v.1 * v.1+v.2.1 * v.2.1+v.2.2 * v.2.2)=(tx v : Int):=(aa (by omega) (by omega)).trans (by unfold tx;omega)
  rw [hr]
  refine Dp Tryz.func143 ?_
  intro C hP hN
  simp only [Tryz.f143] at hN ⊢
  exact Gy
theorem DX {n0 n1 n2 x0 x1 x2 x3 x4 x5 : Int} (hu : aW (n0,n1,n2)=true) (hv : cX ((x0,x1),(x2,x3),(x4,x5))=true) : ab Tryz.prog 194 [.pv (aH (n0,n1,n2)),.pv (V6 x0 x1 x2 x3 x4 x5)] [] [] (.pv (.tup [Z (gb (n0,n1,n2) ((x0,x1),(x2,x3),(x4,x5))),Z (gc (n0,n1,n2) ((x0,x1),(x2,x3),(x4,x5)))])):=by
 have cu:=uf (n0,n1,n2)
 rw [nB,hu] at cu
 have cr:=vi (x0:=x0) (x1:=x1) (x2:=x2) (x3:=x3) (x4:=x4) (x5:=x5)
 rw [hv] at cr
 have hn : aA 16384 (n0,n1,n2)=true:=by simp only [aW,Bool.and_eq_true] at hu;exact hu.1
 have i:=dm.1 hn
 have j:=ja.1 hv
 have m0:=nG i.1 j.1
 have m1:=nG i.2.1 j.2.1
 have m2:=nG i.2.2 j.2.2
 simp only [xh,xi] at m0 m1 m2
 have hlo : gb (n0,n1,n2) ((x0,x1),(x2,x3),(x4,x5))=min (n0 * x0) (n0 * x1)+min (n1 * x2) (n1 * x3)+min (n2 * x4) (n2 * x5):=rfl
 have hhi : gc (n0,n1,n2) ((x0,x1),(x2,x3),(x4,x5))=max (n0 * x0) (n0 * x1)+max (n1 * x2) (n1 * x3)+max (n2 * x4) (n2 * x5):=rfl
 rw [hlo,hhi]
 have w : ∀ y : Int,-100000000000000≤y→y≤100000000000000→IntKind.i64.wrap y=y:=fun y a b=>aa (by omega) (by omega)
 have a0:=w (n0 * x0) (by omega) (by omega)
 have a1:=w (n0 * x1) (by omega) (by omega)
 have a2:=w (n1 * x2) (by omega) (by omega)
 have a3:=w (n1 * x3) (by omega) (by omega)
 have a4:=w (n2 * x4) (by omega) (by omega)
 have a5:=w (n2 * x5) (by omega) (by omega)
 have fm : ∀ a b : Int,(if b < a then b else a)=min a b:=fun a b=>by omega
 have fM : ∀ a b : Int,(if a < b then b else a)=max a b:=fun a b=>by omega
 have b0:=w (min (n0 * x0) (n0 * x1)) (by omega) (by omega)
 have b1:=w (min (n0 * x0) (n0 * x1)+min (n1 * x2) (n1 * x3)) (by omega) (by omega)
 have b2:=w (min (n0 * x0) (n0 * x1)+min (n1 * x2) (n1 * x3)+min (n2 * x4) (n2 * x5)) (by omega) (by omega)
 have d0:=w (max (n0 * x0) (n0 * x1)) (by omega) (by omega)
 have d1:=w (max (n0 * x0) (n0 * x1)+max (n1 * x2) (n1 * x3)) (by omega) (by omega)
 have d2:=w (max (n0 * x0) (n0 * x1)+max (n1 * x2) (n1 * x3)+max (n2 * x4) (n2 * x5)) (by omega) (by omega)
 refine Dp Tryz.func194 ?_
 intro C hP hN
 simp only [Tryz.f194] at hN ⊢
 refine Gz ?_
 refine WP.loopN [] 3 (fun k st=>st.t 2=.ptr 2 0∧st.t 3=.ptr 3 0∧st.h 2=some (.box [.pv (Z n0),.pv (Z n1),.pv (Z n2)] true false)∧st.h 3=some (.box [.pv (Z x0),.pv (Z x1),.pv (Z x2),.pv (Z x3),.pv (Z x4),.pv (Z x5)] true false)∧st.t 8=.pv (Z k)∧st.t 6=.pv (Z (if k=0 then 0 else if k=1 then min (n0 * x0) (n0 * x1) else if k=2 then min (n0 * x0) (n0 * x1)+min (n1 * x2) (n1 * x3) else min (n0 * x0) (n0 * x1)+min (n1 * x2) (n1 * x3)+min (n2 * x4) (n2 * x5)))∧st.t 7=.pv (Z (if k=0 then 0 else if k=1 then max (n0 * x0) (n0 * x1) else if k=2 then max (n0 * x0) (n0 * x1)+max (n1 * x2) (n1 * x3) else max (n0 * x0) (n0 * x1)+max (n1 * x2) (n1 * x3)+max (n2 * x4) (n2 * x5)))) (by simp) ?_
 rintro k st hk ⟨g2,g3,hb2,hb3,g8,g6,g7⟩
 rcases gS hk with rfl|rfl|rfl|rfl
 all_goals (simp at g6 g7 g8)
 ·skip
  exact Gy
 ·skip
  exact Gy
 ·skip
  exact Gy
 ·skip
  exact Gy
end Go.Ab
namespace Go.Ab
open Go.Proofs
theorem Ir (n : Vc) (xs : List au) (hl : xs.length≤9223372036854775807) : ab Tryz.prog 181 [.pv (aH n),.pv (aV xs)] [] [] (.pv (.tup (if aW n && aC xs then [Z (gh n xs).1,Z (gh n xs).2,B true] else [Z 0,Z 0,B false]))):=by
 have cu:=uf n
 rw [nB] at cu
 have cp:=qj xs hl
 cases hu : aW n with
 |false=>
  rw [hu] at cu
  cases hp : aC xs<;>rw [hp] at cp
  all_goals
   refine Dp Tryz.func181 ?_
   intro C hP hN
   simp only [Tryz.f181] at hN ⊢
   exact Gy
 |true=>
 rw [hu] at cu
 cases hp : aC xs with
 |false=>
  rw [hp] at cp
  refine Dp Tryz.func181 ?_
  intro C hP hN
  simp only [Tryz.f181] at hN ⊢
  exact Gy
 |true=>
 rw [hp] at cp
 obtain ⟨hall,h8,_⟩:=de hp
 have hd : gh n xs=fB (gb n) ew xs xs.length:=rfl
 rw [hd]
 refine Dp Tryz.func181 ?_
 intro C hP hN
 simp only [Tryz.f181] at hN ⊢
 refine Gz ?_
 refine WP.loopN [] xs.length (fun i st=>st.t 2=.ptr 2 0∧st.h 2=some (.box [.pv (Z n.1),.pv (Z n.2.1),.pv (Z n.2.2)] true false)∧st.t 1=.pv (aV xs)∧st.t 9=.pv (Z i)∧st.t 7=.pv (Z (fB (gb n) ew xs i).1)∧st.t 8=.pv (Z (fB (gb n) ew xs i).2)) (by simp [fB]) ?_
 rintro i st hi ⟨g2,hb2,g1,g9,g7,g8⟩
 by_cases hlt : i < xs.length
 ·have hw:=ak hlt (by omega)
  have hlt' : (i : Int) < (xs.length : Int):=by omega
  generalize hxe : xs[i]=v at *
  have hx : xs[i]?=some v:=by rw [List.getElem?_eq_getElem hlt,hxe]
  have hpv : cX v=true:=List.all_eq_true.1 hall v (List.mem_of_getElem? hx)
  have cd : ab Tryz.prog 194 [.pv (aH n),.pv (dt v)] [] [] (.pv (.tup [Z (gb n v),Z (gc n v)])):=DX hu hpv
  have hs:=vf (val:=gb n) (bet:=ew) hx
  rw [hs]
  by_cases h0 : i=0
  ·subst h0
   exact Gy
  ·have h0' : ((i : Int)==0)=false:=by simp;omega
   generalize hq : fB (gb n) ew xs i=q at *
   obtain ⟨q1,q2⟩:=q
   by_cases hc : gb n v < q1
   ·have hb : ew (gb n v) q1=true:=by simp only [ew,decide_eq_true_eq];exact hc
    simp only [hb,or_true,if_true] at hs ⊢
    exact Gy
   ·have hb : ew (gb n v) q1=false:=by simp only [ew,decide_eq_false_iff_not];exact hc
    simp only [hb,h0,Bool.false_eq_true,or_self,if_false] at hs ⊢
    exact Gy
 ·have hlt' : ¬ (i : Int) < (xs.length : Int):=by omega
  have hin : i=xs.length:=by omega
  subst hin
  exact Gy
theorem It (n : Vc) (xs : List au) (hl : xs.length≤9223372036854775807) : ab Tryz.prog 182 [.pv (aH n),.pv (aV xs)] [] [] (.pv (.tup (if aW n && aC xs then [Z (gi n xs).1,Z (gi n xs).2,B true] else [Z 0,Z 0,B false]))):=by
 have cu:=uf n
 rw [nB] at cu
 have cp:=qj xs hl
 cases hu : aW n with
 |false=>
  rw [hu] at cu
  cases hp : aC xs<;>rw [hp] at cp
  all_goals
   refine Dp Tryz.func182 ?_
   intro C hP hN
   simp only [Tryz.f182] at hN ⊢
   exact Gy
 |true=>
 rw [hu] at cu
 cases hp : aC xs with
 |false=>
  rw [hp] at cp
  refine Dp Tryz.func182 ?_
  intro C hP hN
  simp only [Tryz.f182] at hN ⊢
  exact Gy
 |true=>
 rw [hp] at cp
 obtain ⟨hall,h8,_⟩:=de hp
 have hd : gi n xs=fB (gc n) ey xs xs.length:=rfl
 rw [hd]
 refine Dp Tryz.func182 ?_
 intro C hP hN
 simp only [Tryz.f182] at hN ⊢
 refine Gz ?_
 refine WP.loopN [] xs.length (fun i st=>st.t 2=.ptr 2 0∧st.h 2=some (.box [.pv (Z n.1),.pv (Z n.2.1),.pv (Z n.2.2)] true false)∧st.t 1=.pv (aV xs)∧st.t 9=.pv (Z i)∧st.t 7=.pv (Z (fB (gc n) ey xs i).1)∧st.t 8=.pv (Z (fB (gc n) ey xs i).2)) (by simp [fB]) ?_
 rintro i st hi ⟨g2,hb2,g1,g9,g7,g8⟩
 by_cases hlt : i < xs.length
 ·have hw:=ak hlt (by omega)
  have hlt' : (i : Int) < (xs.length : Int):=by omega
  generalize hxe : xs[i]=v at *
  have hx : xs[i]?=some v:=by rw [List.getElem?_eq_getElem hlt,hxe]
  have hpv : cX v=true:=List.all_eq_true.1 hall v (List.mem_of_getElem? hx)
  have cd : ab Tryz.prog 194 [.pv (aH n),.pv (dt v)] [] [] (.pv (.tup [Z (gb n v),Z (gc n v)])):=DX hu hpv
  have hs:=vf (val:=gc n) (bet:=ey) hx
  rw [hs]
  by_cases h0 : i=0
  ·subst h0
   exact Gy
  ·have h0' : ((i : Int)==0)=false:=by simp;omega
   generalize hq : fB (gc n) ey xs i=q at *
   obtain ⟨q1,q2⟩:=q
   by_cases hc : q1 < gc n v
   ·have hb : ey (gc n v) q1=true:=by simp only [ey,decide_eq_true_eq];exact hc
    simp only [hb,or_true,if_true] at hs ⊢
    exact Gy
   ·have hb : ey (gc n v) q1=false:=by simp only [ey,decide_eq_false_iff_not];exact hc
    simp only [hb,h0,Bool.false_eq_true,or_self,if_false] at hs ⊢
    exact Gy
 ·have hlt' : ¬ (i : Int) < (xs.length : Int):=by omega
  have hin : i=xs.length:=by omega
  subst hin
  exact Gy
theorem uA (r : Int) : ab Tryz.prog 171 [.pv (Z r)] [] [] (.pv (B (bd r 0 1048576))):=by
 refine Dp Tryz.func171 ?_
 intro C hP hN
 simp only [Tryz.f171] at hN ⊢
 with_reducible repeat' (first|refine Sp.h ?_|((first|refine Ss.h ?_|(refine Sb.h ?_ ?_ ?_<;>(try intro hgd)<;>try exact Xy))<;>simp -implicitDefEqProofs (maxSteps:=2000000) [hP,hN])|refine X2 ?_ ?_|(refine Xd ?_ ?_<;>intro hcd<;>try exact Xx))
 all_goals (first|(simp_all [bd];done)|((try simp_all [bd])<;>(try omega)<;>grind))
theorem Iu (n : Vc) (a : List au) (ra : Int) (b : List au) (rb : Int) (hl : a.length≤9223372036854775807) (hl' : b.length≤9223372036854775807) : ab Tryz.prog 155 [.pv (aH n),.pv (aV a),.pv (Z ra),.pv (aV b),.pv (Z rb)] [] [] (.pv (.tup (if lE n a ra b rb then [Z (nH n a ra b rb),B true] else [Z 0,B false]))):=by
 have c1:=Ir n a hl
 have c2:=It n b hl'
 have c3:=uA ra
 have c4:=uA rb
 have c5:=F7 n
 have hm : lE n a ra b rb=(aC a && bd ra 0 1048576 && (aC b && bd rb 0 1048576) && aW n):=by
  simp only [lE,Ad,bd,Bool.and_assoc]
 have nr:=xj n
 have hI : nH n a ra b rb=(gh n a).1 - (gi n b).1 - ft n * (ra+rb):=rfl
 cases hu : aW n<;>cases hpa : aC a<;>cases hpb : aC b<;>cases hra : bd ra 0 1048576<;>cases hrb : bd rb 0 1048576
 case true.true.true.true.true=>
  rw [hu,hpa,hpb,hra,hrb] at hm
  rw [hu,hpa] at c1
  rw [hu,hpb] at c2
  rw [hra] at c3
  rw [hrb] at c4
  have hn : aA 16384 n=true:=by simp only [aW,Bool.and_eq_true] at hu;exact hu.1
  have r1:=Bu (n:=n) hn (de hpa).1
  have r2:=Bv (n:=n) hn (de hpb).1
  simp only [bd,Bool.and_eq_true,decide_eq_true_eq] at hra hrb
  have r3:=bE (a:=ft n) (b:=ra+rb) 32768 2097152 (by omega) (by omega) (by omega) (by omega)
  have w1 : IntKind.i64.wrap (ra+rb)=ra+rb:=aa
  have w2 : IntKind.i64.wrap (ft n * (ra+rb))=ft n * (ra+rb):=aa
  have w3 : IntKind.i64.wrap ((gh n a).1 - (gi n b).1)=(gh n a).1 - (gi n b).1:=aa
  have w4 : IntKind.i64.wrap ((gh n a).1 - (gi n b).1 - ft n * (ra+rb))=(gh n a).1 - (gi n b).1 - ft n * (ra+rb):=aa
  rw [hm,hI]
  simp only [Bool.and_self,if_true] at c1 c2 ⊢
  generalize gh n a=x at *
  generalize gi n b=y at *
  generalize ft n=z at *
  refine Dp Tryz.func155 ?_
  intro C hP hN
  simp only [Tryz.f155] at hN ⊢
  exact Gy
 all_goals (
  rw [hu,hpa,hpb,hra,hrb] at hm
  rw [hu,hpa] at c1
  rw [hu,hpb] at c2
  rw [hra] at c3
  rw [hrb] at c4
  rw [hm]
  simp only [Bool.and_self,Bool.and_false,Bool.false_and,Bool.true_and,Bool.and_true,if_true,Bool.false_eq_true,if_false] at c1 c2 ⊢
  clear hm hI nr c5
  generalize gh n a=x at *
  generalize gi n b=y at *)
 all_goals
  refine Dp Tryz.func155 ?_
  intro C hP hN
  simp only [Tryz.f155] at hN ⊢
  exact Gy
theorem Iw (n : Vc) (a : List au) (ra : Int) (b : List au) (rb : Int) (hl : a.length≤9223372036854775807) (hl' : b.length≤9223372036854775807) : ab Tryz.prog 116 [.pv (aH n),.pv (aV a),.pv (Z ra),.pv (aV b),.pv (Z rb)] [] [] (.pv (B (kj n a ra b rb))):=by
 have cm:=Iu n a ra b rb hl hl'
 have hs : kj n a ra b rb=(lE n a ra b rb && decide (0 < nH n a ra b rb)):=rfl
 rw [hs]
 generalize nH n a ra b rb=m at *
 cases hb : lE n a ra b rb<;>rw [hb] at cm<;>simp only [Bool.false_eq_true,if_false,if_true,Bool.false_and,Bool.true_and] at cm ⊢
 all_goals
  refine Dp Tryz.func116 ?_
  intro C hP hN
  simp only [Tryz.f116] at hN ⊢
  exact Gy
theorem Ix (l : List Vc) (a : List au) (ra : Int) (b : List au) (rb : Int) (hll : l.length≤9223372036854775807) (hl : a.length≤9223372036854775807) (hl' : b.length≤9223372036854775807) : ab Tryz.prog 135 [.pv (aR l),.pv (aV a),.pv (Z ra),.pv (aV b),.pv (Z rb)] [] [] (.pv (.tup (match l.findIdx? (fun n=>kj n a ra b rb) with|some i=>[Z i,B true]|none=>[Z 0,B false]))):=by
 refine Dp Tryz.func135 ?_
 intro C hP hN
 simp only [Tryz.f135] at hN ⊢
 refine Gz ?_
 refine WP.loopN [] l.length (fun i st=>st.t 0=.pv (aR l)∧st.t 1=.pv (aV a)∧st.t 2=.pv (Z ra)∧st.t 3=.pv (aV b)∧st.t 4=.pv (Z rb)∧st.t 12=.pv (Z i)∧∀ k x,k < i→l[k]?=some x→kj x a ra b rb=false) (by simp) ?_
 rintro i st hi ⟨g0,g1,g2,g3,g4,g12,hq⟩
 by_cases hlt : i < l.length
 ·have hw:=ak hlt hll
  have hlt' : (i : Int) < (l.length : Int):=by omega
  generalize hxe : l[i]=v at *
  have hx : l[i]?=some v:=by rw [List.getElem?_eq_getElem hlt,hxe]
  have cs:=Iw v a ra b rb hl hl'
  have hst:=CS (p:=fun n=>kj n a ra b rb) hx hq
  cases hc : kj v a ra b rb with
  |true=>
   rw [hc] at cs
   have hf : l.findIdx? (fun n=>kj n a ra b rb)=some i:=by
    rw [List.findIdx?_eq_some_iff_getElem]
    refine ⟨hlt,by rw [hxe];exact hc,fun j hj=>?_⟩
    have:=hq j l[j] hj (List.getElem?_eq_getElem (by omega))
    simp [this]
   rw [hf]
   exact Gy
  |false=>
   rw [hc] at cs
   have hst2:=hst hc
   refine Gz ?_
   all_goals exact fun k a b c hk hx2=>hst2 k (a,b,c) (by omega) hx2
 ·have hlt' : ¬ (i : Int) < (l.length : Int):=by omega
  have hf : l.findIdx? (fun n=>kj n a ra b rb)=none:=by
   rw [List.findIdx?_eq_none_iff]
   intro x hx
   obtain ⟨k,hk⟩:=List.getElem?_of_mem hx
   exact hq k x (by have:=(List.getElem?_eq_some_iff.1 hk).1;omega) hk
  rw [hf]
  exact Gy
theorem Iy : ab Tryz.prog 174 [] [] [] (.pv (aR yJ)):=by
 refine Dp Tryz.func174 ?_
 intro C hP hN
 simp only [Tryz.f174] at hN ⊢
 exact Gy
end Go.Ab
namespace Go.Ab
open Go.Proofs
theorem CW (v w : Vc) (hv : dZ 1152921504606846976 v) (hw : dZ 1152921504606846976 w) : ab Tryz.prog 137 [.pv (aH v),.pv (aH w)] [] [] (.pv (aH (aQ v w))):=by
 have w1 : IntKind.i64.wrap (v.1 - w.1)=v.1 - w.1:=aa (by have:=hv.1;have:=hw.1;omega) (by have:=hv.1;have:=hw.1;omega)
 have w2 : IntKind.i64.wrap (v.2.1 - w.2.1)=v.2.1 - w.2.1:=aa (by have:=hv.2.1;have:=hw.2.1;omega) (by have:=hv.2.1;have:=hw.2.1;omega)
 have w3 : IntKind.i64.wrap (v.2.2 - w.2.2)=v.2.2 - w.2.2:=aa (by have:=hv.2.2;have:=hw.2.2;omega) (by have:=hv.2.2;have:=hw.2.2;omega)
 have hr : aQ v w=(v.1 - w.1,v.2.1 - w.2.1,v.2.2 - w.2.2):=rfl
 rw [hr]
 refine Dp Tryz.func137 ?_
 intro C hP hN
 simp only [Tryz.f137] at hN ⊢
 exact Gy
theorem uw (v w : Vc) (m n : Nat) (hv : dZ m v) (hw : dZ n w) (hmn : 3 * (m * n)≤9223372036854775807) : ab Tryz.prog 142 [.pv (aH v),.pv (aH w)] [] [] (.pv (Z (bt v w))):=by
 have h:=mw hv hw
 have w1 : IntKind.i64.wrap (v.1 * w.1)=v.1 * w.1:=aa
 have w2 : IntKind.i64.wrap (v.2.1 * w.2.1)=v.2.1 * w.2.1:=aa
 have w3 : IntKind.i64.wrap (v.2.2 * w.2.2)=v.2.2 * w.2.2:=aa
 have w4 : IntKind.i64.wrap (v.1 * w.1+v.2.1 * w.2.1)=v.1 * w.1+v.2.1 * w.2.1:=aa
 have w5 : IntKind.i64.wrap (v.1 * w.1+v.2.1 * w.2.1+v.2.2 * w.2.2)=v.1 * w.1+v.2.1 * w.2.1+v.2.2 * w.2.2:=aa
 have hr : bt v w=v.1 * w.1+v.2.1 * w.2.1+v.2.2 * w.2.2:=rfl
 rw [hr]
 refine Dp Tryz.func142 ?_
 intro C hP hN
 simp only [Tryz.f142] at hN ⊢
 exact Gy
theorem FK (l : List Vc) (hl : l.length≤9223372036854775807) : ab Tryz.prog 136 [.pv (aR l)] [] [] (.pv (B (fA l))):=by
 by_cases h8 : l.length≤8
 ·skip
  refine Dp Tryz.func136 ?_
  intro C hP hN
  simp only [Tryz.f136] at hN ⊢
  refine Gz ?_
  refine WP.loopN [] l.length (fun i st=>st.t 0=.pv (aR l)∧st.t 3=.pv (Z i)∧∀ k x,k < i→l[k]?=some x→aA 268435456 x=true) (by simp) ?_
  rintro i st hi ⟨g0,g3,hq⟩
  by_cases hlt : i < l.length
  ·have hw : IntKind.i64.wrap ((i : Int)+1)=(i : Int)+1:=aa
   have hlt' : (i : Int) < (l.length : Int):=by omega
   have hi8 : (i : Int)≤8:=by omega
   have hi8' : i≤8:=by omega
   generalize hxe : l[i]=v at *
   have hx : l[i]?=some v:=by rw [List.getElem?_eq_getElem hlt,hxe]
   have cn:=pN v.1 v.2.1 v.2.2 268435456 (by decide) (by decide)
   have hnp : aA 268435456 v=dN v.1 v.2.1 v.2.2 268435456:=rfl
   rw [← hnp] at cn
   have hst:=m9 (p:=aA 268435456) hx hq
   cases hc : aA 268435456 v with
   |true=>
    rw [hc] at cn
    have hst2:=hst hc
    refine Gz ?_
    all_goals exact fun k a b c hk hx2=>hst2 k (a,b,c) (by omega) hx2
   |false=>
    rw [hc] at cn
    have hall : l.all (aA 268435456)=false:=by
     rw [List.all_eq_false]
     exact ⟨v,List.mem_of_getElem? hx,by simp [hc]⟩
    have hpb : fA l=false:=by simp [fA,hall]
    rw [hpb]
    exact Gy
  ·have hall : l.all (aA 268435456)=true:=qf hq hlt
   have hlt' : ¬ (i : Int) < (l.length : Int):=by omega
   have hpb : fA l=decide (1≤l.length):=by
    rw [fA,hall,decide_eq_true h8,Bool.and_true,Bool.and_true]
   rw [hpb]
   by_cases h1 : 1≤l.length
   ·have h1' : (1 : Int)≤(l.length : Int):=by omega
    have h8' : (l.length : Int)≤8:=by omega
    exact Gy
   ·have h1' : ¬ (1 : Int)≤(l.length : Int):=by omega
    exact Gy
 ·have hpb : fA l=false:=by
   cases h : fA l with
   |false=>rfl
   |true=>simp only [fA,Bool.and_eq_true,decide_eq_true_eq] at h;omega
  rw [hpb]
  refine Dp Tryz.func136 ?_
  intro C hP hN
  simp only [Tryz.f136] at hN ⊢
  refine Gz ?_
  refine WP.loopN [] 9 (fun i st=>st.t 0=.pv (aR l)∧st.t 3=.pv (Z i)) (by simp) ?_
  rintro i st hi ⟨g0,g3⟩
  by_cases hi8 : i≤8
  ·have hlt : i < l.length:=by omega
   have hw : IntKind.i64.wrap ((i : Int)+1)=(i : Int)+1:=aa
   have hlt' : (i : Int) < (l.length : Int):=by omega
   have hi8' : (i : Int)≤8:=by omega
   generalize hxe : l[i]=v at *
   have hx : l[i]?=some v:=by rw [List.getElem?_eq_getElem hlt,hxe]
   have cn:=pN v.1 v.2.1 v.2.2 268435456 (by decide) (by decide)
   cases hc : dN v.1 v.2.1 v.2.2 268435456<;>rw [hc] at cn
   ·skip
    exact Gy
   ·skip
    refine Gz ?_
    all_goals omega
  ·have hi9 : i=9:=by omega
   subst hi9
   have h8' : ¬ (l.length : Int)≤8:=by omega
   have h1' : (1 : Int)≤(l.length : Int):=by omega
   have h1 : 1≤l.length:=by omega
   by_cases h9 : 9 < l.length
   ·have h9' : (9 : Int) < (l.length : Int):=by omega
    exact Gy
   ·skip
    exact Gy
theorem H7 (v : Vc) (rho : Int) (hv : dZ 35184372088832 v) (hr : 0≤rho∧rho≤2097152) : ab Tryz.prog 139 [.pv (aH v),.pv (Z rho)] [] [] (.pv (B (qV v rho))):=by
 have q0:=ub hv.1
 have q1:=ub hv.2.1
 have q2:=ub hv.2.2
 have hm:=bE (a:=rho) (b:=rho) 2097152 2097152 (by omega) (by omega) (by omega) (by omega)
 have w0 : IntKind.i64.wrap (rho * rho)=rho * rho:=aa
 have mx : ∀ x : Int,-35184372088832≤x→x≤35184372088832→IntKind.i64.wrap (-x)=-x∧IntKind.i64.wrap (0 - x)=-x:=fun x a b=>⟨aa (by omega) (by omega),(aa (n:=0 - x) (by omega) (by omega)).trans (by omega)⟩
 have m0:=mx v.1 hv.1.1 hv.1.2
 have m1:=mx v.2.1 hv.2.1.1 hv.2.1.2
 have m2:=mx v.2.2 hv.2.2.1 hv.2.2.2
 have cc : ∀ x : Int,-35184372088832≤x→x≤35184372088832→ab Tryz.prog 115 [.pv (Z (max x (-x))),.pv (Z 65536)] [] [] (.pv (Z (dY (max x (-x)) 65536))):=fun x a b=>by
  have:=xk (max x (-x)) 65536 (by decide)
  rw [mc (by decide) (by omega) (by omega)] at this
  exact this
 have c0:=cc v.1 hv.1.1 hv.1.2
 have c1:=cc v.2.1 hv.2.1.1 hv.2.1.2
 have c2:=cc v.2.2 hv.2.2.1 hv.2.2.2
 have fM : ∀ a b : Int,(if a < b then b else a)=max a b:=fun a b=>by omega
 have hd : qV v rho=decide (pf v.1+pf v.2.1+pf v.2.2≤rho * rho):=rfl
 have s0 : pf v.1=dY (max v.1 (-v.1)) 65536 * dY (max v.1 (-v.1)) 65536:=rfl
 have s1 : pf v.2.1=dY (max v.2.1 (-v.2.1)) 65536 * dY (max v.2.1 (-v.2.1)) 65536:=rfl
 have s2 : pf v.2.2=dY (max v.2.2 (-v.2.2)) 65536 * dY (max v.2.2 (-v.2.2)) 65536:=rfl
 rw [hd]
 generalize dY (max v.1 (-v.1)) 65536=k0 at *
 generalize dY (max v.2.1 (-v.2.1)) 65536=k1 at *
 generalize dY (max v.2.2 (-v.2.2)) 65536=k2 at *
 rw [s0,s1,s2]
 rw [s0] at q0
 rw [s1] at q1
 rw [s2] at q2
 have w1 : IntKind.i64.wrap (k0 * k0)=k0 * k0:=aa
 have w2 : IntKind.i64.wrap (k1 * k1)=k1 * k1:=aa
 have w3 : IntKind.i64.wrap (k2 * k2)=k2 * k2:=aa
 have w4 : IntKind.i64.wrap (k0 * k0+k1 * k1)=k0 * k0+k1 * k1:=aa
 have w5 : IntKind.i64.wrap (k0 * k0+k1 * k1+k2 * k2)=k0 * k0+k1 * k1+k2 * k2:=aa
 refine Dp Tryz.func139 ?_
 intro C hP hN
 simp only [Tryz.f139] at hN ⊢
 refine Gz ?_
 refine WP.loopN [] 3 (fun k st=>st.t 2=.ptr 2 0∧st.h 2=some (.box [.pv (Z v.1),.pv (Z v.2.1),.pv (Z v.2.2)] true false)∧st.t 1=.pv (Z rho)∧st.t 6=.pv (Z k)∧st.t 5=.pv (Z (if k=0 then 0 else if k=1 then k0 * k0 else if k=2 then k0 * k0+k1 * k1 else k0 * k0+k1 * k1+k2 * k2))) (by simp) ?_
 rintro k st hk ⟨g2,hb2,g1,g6,g5⟩
 rcases gS hk with rfl|rfl|rfl|rfl
 all_goals (simp at g5 g6)
 ·skip
  exact Gy
 ·skip
  exact Gy
 ·skip
  exact Gy
 ·skip
  exact Gy
end Go.Ab
namespace Go.Ab
open Go.Proofs
theorem FL (l : List Vc) (ws : List Int) (h8 : l.length≤8) (hle : ws.length=l.length) (hl : l.all (aA 268435456)=true) (hw : WgOk ws) : ab Tryz.prog 138 [.pv (aR l),.pv (zs ws)] [] [] (.pv (aH (cY l ws l.length))):=by
 refine Dp Tryz.func138 ?_
 intro C hP hN
 simp only [Tryz.f138] at hN ⊢
 refine Gz ?_
 refine WP.loopN [] l.length (fun i st=>st.t 0=.pv (aR l)∧st.t 1=.pv (zs ws)∧st.t 4=.ptr 4 0∧st.h 4=some (.box [.pv (Z 0),.pv (Z 0),.pv (Z 0)] true false)∧st.t 5=.ptr 5 0∧st.h 5=some (.box [.pv (Z (cY l ws i).1),.pv (Z (cY l ws i).2.1),.pv (Z (cY l ws i).2.2)] true false)∧st.t 6=.pv (Z i)) (by simp [cY]) ?_
 rintro i st hi ⟨g0,g1,g4,hb4,g5,hb5,g6⟩
 by_cases hlt : i < l.length
 ·have hwr:=ak hlt (by omega)
  have hlt' : (i : Int) < (l.length : Int):=by omega
  have hltw : i < ws.length:=by omega
  generalize hxe : l[i]=p at *
  have hx : l[i]?=some p:=by rw [List.getElem?_eq_getElem hlt,hxe]
  generalize hye : ws[i]=k at *
  have hy : ws[i]?=some k:=by rw [List.getElem?_eq_getElem hltw,hye]
  have r0:=kg hl hw i (by omega)
  have r1:=kg hl hw (i+1) (by omega)
  have hk0:=hw.pos k (List.mem_of_getElem? hy)
  have hk1 : k≤65536:=by
   have a1:=ow hy
   have a2:=wQ hw.pos i
   have a3:=gp hw.pos (show i+1≤ws.length by omega)
   have a4:=hw.tot
   omega
  have hp:=dX (List.all_eq_true.1 hl p (List.mem_of_getElem? hx))
  have hS : cY l ws (i+1)=((cY l ws i).1+k * p.1,(cY l ws i).2.1+k * p.2.1,(cY l ws i).2.2+k * p.2.2):=by simp only [cY,hx,hy]
  have m1:=bE (a:=k) (b:=p.1) 65536 268435456 (by omega) (by omega) hp.1.1 hp.1.2
  have m2:=bE (a:=k) (b:=p.2.1) 65536 268435456 (by omega) (by omega) hp.2.1.1 hp.2.1.2
  have m3:=bE (a:=k) (b:=p.2.2) 65536 268435456 (by omega) (by omega) hp.2.2.1 hp.2.2.2
  generalize cY l ws i=S at *
  generalize cY l ws (i+1)=S' at *
  subst hS
  obtain ⟨q1,q2,q3⟩:=r1
  simp only at q1 q2 q3
  have u1 : IntKind.i64.wrap (k * p.1)=k * p.1:=aa
  have u2 : IntKind.i64.wrap (k * p.2.1)=k * p.2.1:=aa
  have u3 : IntKind.i64.wrap (k * p.2.2)=k * p.2.2:=aa
  have v1 : IntKind.i64.wrap (S.1+k * p.1)=S.1+k * p.1:=aa
  have v2 : IntKind.i64.wrap (S.2.1+k * p.2.1)=S.2.1+k * p.2.1:=aa
  have v3 : IntKind.i64.wrap (S.2.2+k * p.2.2)=S.2.2+k * p.2.2:=aa
  clear r0 q1 q2 q3 m1 m2 m3 hp
  have hbeg : [AV.pv (Z S.1),AV.pv (Z S.2.1),AV.pv (Z S.2.2)]=oA S p k 0:=rfl
  rw [hbeg] at hb5
  refine Gz ?_
  refine WP.loopN [] 3 (fun j st=>st.t 0=.pv (aR l)∧st.t 1=.pv (zs ws)∧st.t 4=.ptr 4 0∧st.h 4=some (.box [.pv (Z 0),.pv (Z 0),.pv (Z 0)] true false)∧st.t 5=.ptr 5 0∧st.h 5=some (.box (oA S p k j) true false)∧st.t 6=.pv (Z i)∧st.t 7=.pv (Z j)) (by simp [g0,g1,g4,hb4,g5,g6,hb5,oA]) ?_
  clear g0 g1 g4 hb4 g5 g6 hb5
  rintro j st hj ⟨g0,g1,g4,hb4,g5,hb5,g6,g7⟩
  rcases gS hj with rfl|rfl|rfl|rfl
  all_goals (simp [oA] at hb5 g7)
  ·skip
   with_reducible repeat' (first|refine Sp.h ?_|((first|refine Wd ?_|refine Ss.h ?_|(refine Sb.h ?_ ?_ ?_<;>(try intro hgd)<;>try exact Xy))<;>simp -implicitDefEqProofs (maxSteps:=2000000) [hP,hN,g0,g1,g4,hb4,g5,hb5,g6,g7,hx,hxe,hy,hye,hlt,hlt',hltw,u1,v1,oA]<;>try refine Ya ?_)|refine X2 ?_ ?_|(refine Xd ?_ ?_<;>intro hcd<;>try exact Xx))
  ·skip
   with_reducible repeat' (first|refine Sp.h ?_|((first|refine Wd ?_|refine Ss.h ?_|(refine Sb.h ?_ ?_ ?_<;>(try intro hgd)<;>try exact Xy))<;>simp -implicitDefEqProofs (maxSteps:=2000000) [hP,hN,g0,g1,g4,hb4,g5,hb5,g6,g7,hx,hxe,hy,hye,hlt,hlt',hltw,u2,v2,oA]<;>try refine Ya ?_)|refine X2 ?_ ?_|(refine Xd ?_ ?_<;>intro hcd<;>try exact Xx))
  ·skip
   with_reducible repeat' (first|refine Sp.h ?_|((first|refine Wd ?_|refine Ss.h ?_|(refine Sb.h ?_ ?_ ?_<;>(try intro hgd)<;>try exact Xy))<;>simp -implicitDefEqProofs (maxSteps:=2000000) [hP,hN,g0,g1,g4,hb4,g5,hb5,g6,g7,hx,hxe,hy,hye,hlt,hlt',hltw,u3,v3,oA]<;>try refine Ya ?_)|refine X2 ?_ ?_|(refine Xd ?_ ?_<;>intro hcd<;>try exact Xx))
  ·skip
   exact Gy
 ·have hin : i=l.length:=by omega
  have hlt' : ¬ (i : Int) < (l.length : Int):=by omega
  subst hin
  exact Gy
theorem vg (l : List Int) (i : Nat) (y : Int) : (List.map Z l).set i (PV.val (Value.int IntKind.i64 y))=List.map Z (l.set i y):=by simp
theorem FM (w : List Int) (t : Int) (q : Nat) (h8 : w.length≤8) (hw : WgOk w) (hq : q < w.length) (ht : 0≤t) (ht2 : t≤256) : ab Tryz.prog 144 [.pv (zs w),.pv (Z t),.pv (Z q)] [] [] (.pv (zs (iU w q t))):=by
 have hg : iU w q t=(dr w t w.length).set q (((dr w t w.length)[q]?).getD 0+dE w t w.length):=rfl
 have hrng : ∀ k ∈ w,0≤k∧k≤65536:=fun k hk=>by
  obtain ⟨i,hi⟩:=List.getElem?_of_mem hk
  have a1:=ow hi
  have a2:=wQ hw.pos i
  have a3:=gp hw.pos (show i+1≤w.length by have:=(List.getElem?_eq_some_iff.1 hi).1;omega)
  have a4:=hw.tot
  exact ⟨hw.pos k hk,by omega⟩
 have hlost:=rY hw.pos ht ht2
 have f1 : w.length * 8≤140737488355328:=by omega
 have f2 : w.length≤9223372036854775807:=by omega
 refine Dp Tryz.func144 ?_
 intro C hP hN
 simp only [Tryz.f144] at hN ⊢
 with_reducible repeat' (first|refine Sp.h ?_|((first|refine Ss.h ?_|(refine Sb.h ?_ ?_ ?_<;>(try intro hgd)<;>try exact Xy))<;>simp -implicitDefEqProofs (maxSteps:=2000000) [hP,hN,f1,f2])|refine X2 ?_ ?_|(refine Xd ?_ ?_<;>intro hcd<;>try exact Xx))
 refine WP.loopN [] w.length (fun i st=>st.t 1=.pv (Z t)∧st.t 2=.pv (Z q)∧st.t 7=.arr 12 w.length∧st.h 12=some (.row 2 1 ((dr w t i).map Z) 0)∧st.t 8=.pv (Z (dE w t i))∧st.t 9=.pv (Z i)) (by simp [tg,dE]) ?_
 rintro i st hi ⟨g1,g2,g7,hb,g8,g9⟩
 have hKl:=kJ w t i
 have hl1:=hlost i
 have htw : aU w i≤65536:=by
  have:=gp hw.pos (show i≤w.length by omega)
  have:=hw.tot
  omega
 by_cases hlt : i < w.length
 ·have hwr:=ak hlt (by omega)
  have hlt' : (i : Int) < (w.length : Int):=by omega
  generalize hye : w[i]=k at *
  have hy : w[i]?=some k:=by rw [List.getElem?_eq_getElem hlt,hye]
  have hk:=hrng k (List.mem_of_getElem? hy)
  have hp:=oD hk.1 ht ht2
  have hKi : (dr w t i)[i]?=some k:=by rw [ir,hy];simp
  have hKs:=tj (t:=t) hy
  have hls : dE w t (i+1)=dE w t i+k * t / 256:=by simp [dE,hy]
  have hl2:=hlost (i+1)
  have htw2 : aU w (i+1)≤65536:=by
   have:=gp hw.pos (show i+1≤w.length by omega)
   have:=hw.tot
   omega
  rw [hKs]
  rw [hls] at hl2 ⊢
  have hm : (List.map Z (dr w t i)).set i (PV.val (Value.int IntKind.i64 (k - k * t / 256)))=List.map Z ((dr w t i).set i (k - k * t / 256)):=vg _ _ _
  generalize dr w t i=K at *
  have hKe : ∀ h,K[i]'h=k:=fun h=>by rw [List.getElem?_eq_getElem h] at hKi;exact Option.some.inj hKi
  have w1 : IntKind.i64.wrap (k * t)=k * t:=aa
  have w2 : (k * t).tdiv 256=k * t / 256:=Int.tdiv_eq_ediv_of_nonneg (by omega)
  have w3 : IntKind.i64.wrap (k * t / 256)=k * t / 256:=aa
  have w4 : IntKind.i64.wrap (k - k * t / 256)=k - k * t / 256:=aa
  have w5 : IntKind.i64.wrap (dE w t i+k * t / 256)=dE w t i+k * t / 256:=aa
  generalize dE w t i=L at *
  with_reducible repeat' (first|refine Sp.h ?_|((first|refine Ss.h ?_|(refine Sb.h ?_ ?_ ?_<;>(try intro hgd)<;>try exact Xy))<;>simp -implicitDefEqProofs (maxSteps:=2000000) [hP,hN,g1,g2,g7,hb,g8,g9,hlt,hlt',hKi,hKe,hKl,w1,w2,w3,w4,w5,hwr,hm,-List.map_set])|refine X2 ?_ ?_|(refine Xd ?_ ?_<;>intro hcd<;>try exact Xx))
 ·have hin : i=w.length:=by omega
  have hlt' : ¬ (i : Int) < (w.length : Int):=by omega
  subst hin
  have hq' : (q : Int) < (w.length : Int):=by omega
  obtain ⟨u,hu⟩ : ∃ u,(dr w t w.length)[q]?=some u:=⟨_,List.getElem?_eq_getElem (by rw [hKl];exact hq)⟩
  have hur : 0≤u∧u≤65536:=by
   rw [ir] at hu
   obtain ⟨k,hk⟩ : ∃ k,w[q]?=some k:=⟨_,List.getElem?_eq_getElem hq⟩
   rw [hk] at hu
   simp only [Option.map_some,Option.some.injEq] at hu
   have hk2:=hrng k (List.mem_of_getElem? hk)
   have hp:=oD hk2.1 ht ht2
   split at hu<;>omega
  rw [hg,hu]
  have hm : (List.map Z (dr w t w.length)).set q (PV.val (Value.int IntKind.i64 (u+dE w t w.length)))=List.map Z ((dr w t w.length).set q (u+dE w t w.length)):=vg _ _ _
  have w5 : IntKind.i64.wrap (u+dE w t w.length)=u+dE w t w.length:=aa
  generalize dr w t w.length=K at *
  have hKe : ∀ h,K[q]'h=u:=fun h=>by rw [List.getElem?_eq_getElem h] at hu;exact Option.some.inj hu
  generalize dE w t w.length=L at *
  with_reducible repeat' (first|refine Sp.h ?_|((first|refine Ss.h ?_|(refine Sb.h ?_ ?_ ?_<;>(try intro hgd)<;>try exact Xy))<;>simp -implicitDefEqProofs (maxSteps:=2000000) [hP,hN,g1,g2,g7,hb,g8,g9,hlt',hq,hq',hu,hKe,hKl,w5,hm,-List.map_set])|refine X2 ?_ ?_|(refine Xd ?_ ?_<;>intro hcd<;>try exact Xx))
theorem GC (x : Int) (a : Nat) : (x.tdiv (a : Int)).tdiv 2=x.tdiv ((a * 2 : Nat) : Int):=by
 have h : ∀ n : Nat,((n : Int).tdiv (a : Int)).tdiv 2=(n : Int).tdiv ((a * 2 : Nat) : Int):=fun n=>by
  have e : ∀ p q : Nat,(p : Int).tdiv (q : Int)=((p / q : Nat) : Int):=fun p q=>by rw [Int.tdiv_eq_ediv_of_nonneg (by omega),Int.natCast_ediv]
  rw [e n a,show (2 : Int)=((2 : Nat) : Int) from rfl,e,e,Nat.div_div_eq_div_mul]
 rcases Int.le_total 0 x with hx|hx
 ·have:=h x.toNat
  rw [Int.toNat_of_nonneg hx] at this
  exact this
 ·have:=h (-x).toNat
  rw [Int.toNat_of_nonneg (by omega)] at this
  rw [Int.neg_tdiv,Int.neg_tdiv,Int.neg_tdiv] at this
  omega
def gj (i : Nat) (v : Vc) : Vc:=(v.1.tdiv ((2 ^ i : Nat) : Int),v.2.1.tdiv ((2 ^ i : Nat) : Int),v.2.2.tdiv ((2 ^ i : Nat) : Int))
theorem CX (v : Vc) : gj 0 v=v:=by simp [gj]
theorem CY (i : Nat) (v : Vc) : oP (gj i v)=gj (i+1) v:=by
 simp only [oP,gj,GC,Nat.pow_succ]
theorem tz {v : Vc} : ∀ (i : Nat),i≤64→(∀ j,j < i→aA 16384 (gj j v)=false)→jf 64 v=jf (64 - i) (gj i v)
 |0,_,_=>by rw [CX]
 |i+1,hi,h=>by
  rw [tz i (by omega) (fun j hj=>h j (by omega)),show 64 - i=(64 - (i+1))+1 by omega,jf,if_neg (by rw [h i (by omega)];simp),CY]
theorem yl {n : Nat} {v : Vc} (h : aA 16384 v=true) : jf n v=v:=by
 cases n with
 |zero=>rfl
 |succ n=>rw [jf,if_pos h]
theorem BA {v : Vc} {i : Nat} (hi : i≤64) (h : ∀ j,j < i→aA 16384 (gj j v)=false) (hn : aA 16384 (gj i v)=true) : aX v=gj i v:=by
 unfold aX
 rw [tz i hi h,yl hn]
theorem EB {v : Vc} (h : aA 16384 v=false) : nz (oP v)=true:=by
 have hn : ¬ (aA 16384 v=true):=by rw [h];simp
 rw [dm,bQ,bQ,bQ] at hn
 cases hz : nz (oP v) with
 |true=>rfl
 |false=>
  exfalso
  simp only [nz,oP,Bool.not_eq_false',Bool.and_eq_true,beq_iff_eq] at hz
  obtain ⟨⟨z1,z2⟩,z3⟩:=hz
  have t : ∀ x : Int,x.tdiv 2=0→-2 < x∧x < 2:=fun x hx=>by
   have:=Int.mul_tdiv_add_tmod x 2
   have:=Int.lt_tmod_of_pos x (show (0 : Int) < 2 by decide)
   have:=Int.tmod_lt_of_pos x (show (0 : Int) < 2 by decide)
   omega
  have a:=t _ z1
  have b:=t _ z2
  have c:=t _ z3
  omega
theorem xl : ∀ (n : Nat) (v : Vc),nz v=true→nz (jf n v)=true
 |0,v,h=>h
 |n+1,v,h=>by
  rw [jf]
  split
  ·exact h
  ·rename_i hn
   exact xl n _ (EB (by simpa using hn))
theorem EC {v : Vc} (h : dZ 1099511627776 v) : aA 16384 (gj 26 v)=true:=by
 have t : ∀ x : Int,-1099511627776≤x→x≤1099511627776→-16384≤x.tdiv ((2 ^ 26 : Nat) : Int)∧x.tdiv ((2 ^ 26 : Nat) : Int)≤16384:=fun x a b=>by
  have e:=Int.mul_tdiv_add_tmod x ((2 ^ 26 : Nat) : Int)
  have e1:=Int.lt_tmod_of_pos x (show (0 : Int) < ((2 ^ 26 : Nat) : Int) by decide)
  have e2:=Int.tmod_lt_of_pos x (show (0 : Int) < ((2 ^ 26 : Nat) : Int) by decide)
  have hk : ((2 ^ 26 : Nat) : Int)=67108864:=by decide
  rw [hk] at e e1 e2 ⊢
  omega
 have a:=t _ h.1.1 h.1.2
 have b:=t _ h.2.1.1 h.2.1.2
 have c:=t _ h.2.2.1 h.2.2.2
 rw [dm,bQ,bQ,bQ]
 simp only [gj]
 omega
@[simp] theorem I4 {dst : Option Nat} {ty : TypeId} {pos : String} {aft : Array Edge} {g : Option (Nat × Bool)} {ρ : Operand→AV} (x y : Operand) :
 aG Tryz.prog ⟨dst,.binOp .eql 77 x y 77,ty,pos,aft,g⟩ ρ=Ap (ρ x) (ρ y) (dU Tryz.prog ⟨dst,.binOp .eql 77 x y 77,ty,pos,aft,g⟩ ρ):=by
 unfold Ap
 split
 ·rename_i a b e c d f hx hy
  exact oh rfl (iN hx) (iN hy) (by kernel_rfl) (Ao a b e c d f)
 ·rfl
@[simp] theorem Gh (a b e c d f : Int) (fb : Option aT) : Ap (.pv (.val (.agg #[.int .i64 a,.int .i64 b,.int .i64 e]))) (.pv (.val (.agg #[.int .i64 c,.int .i64 d,.int .i64 f]))) fb=some (.pv (.val (.bool (a==c && b==d && e==f))),[]):=rfl
theorem FO (v : Vc) (h : dZ 1099511627776 v) : ab Tryz.prog 140 [.pv (aH v)] [] [] (.pv (.tup [aH (aX v),B (nz (aX v))])):=by
 cases hz : nz v with
 |false=>
  have hz' : (v.1==0 && v.2.1==0 && v.2.2==0)=true:=by simpa [nz] using hz
  have hv0 : v=(0,0,0):=by
   simp only [Bool.and_eq_true,beq_iff_eq] at hz'
   obtain ⟨⟨a,b⟩,c⟩:=hz'
   exact Prod.ext a (Prod.ext b c)
  subst hv0
  have hn : aX (0,0,0)=(0,0,0):=by decide +kernel
  rw [hn,hz]
  refine Dp Tryz.func140 ?_
  intro C hP hN
  simp only [Tryz.f140] at hN ⊢
  exact Gy
 |true=>
  have hz' : (v.1==0 && v.2.1==0 && v.2.2==0)=false:=by
   have:=hz
   simp only [nz,Bool.not_eq_true'] at this
   exact this
  have hnz : nz (aX v)=true:=xl 64 v hz
  rw [hnz]
  have p2 : ∀ i,i≤26→(2 ^ i : Nat)≤67108864:=fun i hi=>Nat.pow_le_pow_right (by decide) hi
  have p1 : ∀ i,0 < (2 ^ i : Nat):=fun i=>Nat.pow_pos (by decide)
  refine Dp Tryz.func140 ?_
  intro C hP hN
  simp only [Tryz.f140] at hN ⊢
  refine Gz ?_
  refine WP.loopN [5] 26 (fun i st=>st.t 1=.ptr 1 0∧st.h 1=some (.box [.pv (Z v.1),.pv (Z v.2.1),.pv (Z v.2.2)] true false)∧st.t 2=.ptr 2 0∧st.h 2=some (.box [.pv (Z 0),.pv (Z 0),.pv (Z 0)] true false)∧st.t 4=.pv (Z ((2 ^ i : Nat) : Int))∧st.h 5=none∧∀ j,j < i→aA 16384 (gj j v)=false) (by simp) ?_
  rintro i st hi ⟨g1,hb1,g2,hb2,g4,hb5,hq⟩
  have ha:=p2 i hi
  have hb:=p1 i
  have hne : ¬ ((2 ^ i : Nat) : Int)=0:=by omega
  have hne' : ¬ (2 ^ i : Nat)=0:=by omega
  have cn:=pN (gj i v).1 (gj i v).2.1 (gj i v).2.2 16384 (by decide) (by decide)
  have hnp : aA 16384 (gj i v)=dN (gj i v).1 (gj i v).2.1 (gj i v).2.2 16384:=rfl
  rw [← hnp] at cn
  have hx1 : (gj i v).1=v.1.tdiv ((2 ^ i : Nat) : Int):=rfl
  have hx2 : (gj i v).2.1=v.2.1.tdiv ((2 ^ i : Nat) : Int):=rfl
  have hx3 : (gj i v).2.2=v.2.2.tdiv ((2 ^ i : Nat) : Int):=rfl
  have tb : ∀ x : Int,-1099511627776≤x→x≤1099511627776→IntKind.i64.wrap (x.tdiv ((2 ^ i : Nat) : Int))=x.tdiv ((2 ^ i : Nat) : Int):=fun x a b=>by
   have e:=Int.natAbs_tdiv_le_natAbs x ((2 ^ i : Nat) : Int)
   exact aa (by omega) (by omega)
  have t1:=tb _ h.1.1 h.1.2
  have t2:=tb _ h.2.1.1 h.2.1.2
  have t3:=tb _ h.2.2.1 h.2.2.2
  rw [← hx1] at t1
  rw [← hx2] at t2
  rw [← hx3] at t3
  have hpw : (2 ^ (i+1) : Nat)=2 ^ i * 2:=Nat.pow_succ 2 i
  have w4 : IntKind.i64.wrap (((2 ^ i : Nat) : Int) * 2)=((2 ^ (i+1) : Nat) : Int):=(aa (by omega) (by omega)).trans (by omega)
  have hat:=fun hn=>BA (v:=v) (i:=i) (by omega) hq hn
  have hN26 : aA 16384 (gj i v)=false→i < 26:=fun hf=>by
   by_cases h26 : i < 26
   ·exact h26
   ·have : i=26:=by omega
    subst this
    rw [EC h] at hf;cases hf
  have hqs : aA 16384 (gj i v)=false→∀ j,j < i+1→aA 16384 (gj j v)=false:=fun hf j hj=>by
   by_cases e : j=i
   ·subst e;exact hf
   ·exact hq j (by omega)
  generalize hH : gj i v=Hv at *
  generalize hPW : (2 ^ (i+1) : Nat)=pw' at *
  generalize (2 ^ i : Nat)=pw at *
  cases hc : aA 16384 Hv with
  |true=>
   rw [hc] at cn
   have he:=hat hc
   rw [he]
   with_reducible repeat' (first|refine Sp.h ?_|((first|refine Wd ?_|refine Ss.h ?_|refine Sc.h (cn) ?_|(refine Sb.h ?_ ?_ ?_<;>(try intro hgd)<;>try exact Xy))<;>simp -implicitDefEqProofs (maxSteps:=2000000) [hP,hN,g1,hb1,g2,hb2,g4,hb5,hne,hne',← hx1,← hx2,← hx3,t1,t2,t3]<;>try refine Ya ?_)|refine X2 ?_ ?_|(refine Xd ?_ ?_<;>intro hcd<;>try exact Xx))
  |false=>
   rw [hc] at cn
   have h26:=hN26 hc
   have hqs':=hqs hc
   with_reducible repeat' (first|refine Sp.h ?_|((first|refine Wd ?_|refine Ss.h ?_|refine Sc.h (cn) ?_|(refine Sb.h ?_ ?_ ?_<;>(try intro hgd)<;>try exact Xy))<;>simp -implicitDefEqProofs (maxSteps:=2000000) [hP,hN,g1,hb1,g2,hb2,g4,hb5,hne,hne',← hx1,← hx2,← hx3,t1,t2,t3,w4]<;>try refine Ya ?_)|refine X2 ?_ ?_|(refine Xd ?_ ?_<;>intro hcd<;>try exact Xx))
   all_goals exact ⟨h26,hqs'⟩
end Go.Ab
namespace Go.Ab
open Go.Proofs
theorem kO {bet : Int→Int→Bool} {n p0 : Vc} {l : List Vc} (h0 : l[0]?=some p0) : ∀ i,∃ p,l[(dl bet n p0 l i).2]?=some p∧(dl bet n p0 l i).1=bt n p
 |0=>⟨p0,h0,rfl⟩
 |i+1=>by
  obtain ⟨p,hp,hv⟩:=kO (bet:=bet) (n:=n) h0 i
  cases hx : l[i]? with
  |none=>simp only [dl,hx];exact ⟨p,hp,hv⟩
  |some v=>
   rw [oB hx]
   split
   ·exact ⟨v,hx,rfl⟩
   ·exact ⟨p,hp,hv⟩
theorem FP (n : Vc) (l : List Vc) (hn : aA 16384 n=true) (h1 : 1≤l.length) (h8 : l.length≤8) (hl : l.all (aA 268435456)=true) : ab Tryz.prog 141 [.pv (aH n),.pv (aR l),.pv (Z 1)] [] [] (.pv (Z (cJ ew n l).2)):=by
 obtain ⟨p0,hp0⟩ : ∃ p0,l[0]?=some p0:=⟨_,List.getElem?_eq_getElem (by omega)⟩
 have hb : cJ ew n l=dl ew n p0 l l.length:=by simp [cJ,hp0]
 have hval:=kO (bet:=ew) (n:=n) hp0
 have hlt0:=oC (bet:=ew) (n:=n) (p0:=p0) (l:=l) (by omega)
 have hsm:=qa hn
 have hdot : ∀ p ∈ l,ab Tryz.prog 142 [.pv (aH n),.pv (aH p)] [] [] (.pv (Z (bt n p)))∧-13194139533312≤bt n p∧bt n p≤13194139533312:=fun p hp=>by
  have hq:=dX (List.all_eq_true.1 hl p hp)
  exact ⟨uw n p 16384 268435456 hsm hq (by decide),wC hsm hq⟩
 rw [hb]
 refine Dp Tryz.func141 ?_
 intro C hP hN
 simp only [Tryz.f141] at hN ⊢
 refine Gz ?_
 refine WP.loopN [] (l.length - 1) (fun i st=>st.t 3=.ptr 3 0∧st.h 3=some (.box [.pv (Z n.1),.pv (Z n.2.1),.pv (Z n.2.2)] true false)∧st.t 1=.pv (aR l)∧st.t 2=.pv (Z 1)∧st.t 8=.pv (Z ((i+1 : Nat) : Int))∧st.t 7=.pv (Z (dl ew n p0 l (i+1)).2)) (by simp [dl,hp0,ew]) ?_
 rintro i st hi ⟨g3,hb3,g1,g2,g8,g7⟩
 obtain ⟨m,hm⟩ : ∃ m,m=i+1:=⟨_,rfl⟩
 have hm2 : i+1+1=m+1:=by omega
 rw [← hm] at g8 g7
 rw [hm2]
 by_cases hlt : m < l.length
 ·have hw : IntKind.i64.wrap ((m : Int)+1)=((m+1 : Nat) : Int):=(aa (by omega) (by omega)).trans (by omega)
  have hlt' : (m : Int) < (l.length : Int):=by omega
  have hi2 : i < l.length - 1:=by omega
  obtain ⟨p,hp,hpv⟩:=hval m
  have hls:=hlt0 m
  generalize hxe : l[m]=v at *
  have hx : l[m]?=some v:=by rw [List.getElem?_eq_getElem hlt,hxe]
  obtain ⟨d1,d1a,d1b⟩:=hdot v (List.mem_of_getElem? hx)
  obtain ⟨d2,d2a,d2b⟩:=hdot p (List.mem_of_getElem? hp)
  have hs:=oB (bet:=ew) (n:=n) (p0:=p0) hx
  rw [hs,hpv]
  generalize hqq : (dl ew n p0 l m).2=q at *
  have hpe : ∀ h,l[q]'h=p:=fun h=>by rw [List.getElem?_eq_getElem h] at hp;exact Option.some.inj hp
  generalize bt n v=x at *
  generalize bt n p=y at *
  have w1 : IntKind.i64.wrap x=x:=aa
  have w2 : IntKind.i64.wrap y=y:=aa
  have w3 : IntKind.i64.wrap (-x)=-x:=aa
  have w4 : IntKind.i64.wrap (-y)=-y:=aa
  have w5 : IntKind.i64.wrap (-1 * x)=-x:=(aa (by omega) (by omega)).trans (by omega)
  have w6 : IntKind.i64.wrap (-1 * y)=-y:=(aa (by omega) (by omega)).trans (by omega)
  have w7 : IntKind.i64.wrap (1 * x)=x:=(aa (by omega) (by omega)).trans (by omega)
  have w8 : IntKind.i64.wrap (1 * y)=y:=(aa (by omega) (by omega)).trans (by omega)
  by_cases hc : x < y
  ·have hbt : ew x y=true:=by simp only [ew,decide_eq_true_eq];omega
   rw [hbt]
   simp only [if_true]
   with_reducible repeat' (first|refine Sp.h ?_|((first|refine Wd ?_|refine Ss.h ?_|refine Sc.h (d1) ?_|refine Sc.h (d2) ?_|(refine Sb.h ?_ ?_ ?_<;>(try intro hgd)<;>try exact Xy))<;>simp -implicitDefEqProofs (maxSteps:=2000000) [hP,hN,g3,hb3,g1,g2,g8,g7,hlt,hlt',hw,hx,hxe,hp,hpe,hls,hi2,w1,w2,w3,w4,w5,w6,w7,w8,hc]<;>try refine Ya ?_)|refine X2 ?_ ?_|(refine Xd ?_ ?_<;>intro hcd<;>try exact Xx))
  ·have hbt : ew x y=false:=by simp only [ew,decide_eq_false_iff_not];omega
   rw [hbt]
   simp only [Bool.false_eq_true,if_false]
   with_reducible repeat' (first|refine Sp.h ?_|((first|refine Wd ?_|refine Ss.h ?_|refine Sc.h (d1) ?_|refine Sc.h (d2) ?_|(refine Sb.h ?_ ?_ ?_<;>(try intro hgd)<;>try exact Xy))<;>simp -implicitDefEqProofs (maxSteps:=2000000) [hP,hN,g3,hb3,g1,g2,g8,g7,hlt,hlt',hw,hx,hxe,hp,hpe,hls,hi2,w1,w2,w3,w4,w5,w6,w7,w8,hc]<;>try refine Ya ?_)|refine X2 ?_ ?_|(refine Xd ?_ ?_<;>intro hcd<;>try exact Xx))
   all_goals rw [hqq]
 ·have hin : m=l.length:=by omega
  have hlt' : ¬ (m : Int) < (l.length : Int):=by omega
  subst hin
  exact Gy
theorem FQ (n : Vc) (l : List Vc) (hn : aA 16384 n=true) (h1 : 1≤l.length) (h8 : l.length≤8) (hl : l.all (aA 268435456)=true) : ab Tryz.prog 141 [.pv (aH n),.pv (aR l),.pv (Z (-1))] [] [] (.pv (Z (cJ ey n l).2)):=by
 obtain ⟨p0,hp0⟩ : ∃ p0,l[0]?=some p0:=⟨_,List.getElem?_eq_getElem (by omega)⟩
 have hb : cJ ey n l=dl ey n p0 l l.length:=by simp [cJ,hp0]
 have hval:=kO (bet:=ey) (n:=n) hp0
 have hlt0:=oC (bet:=ey) (n:=n) (p0:=p0) (l:=l) (by omega)
 have hsm:=qa hn
 have hdot : ∀ p ∈ l,ab Tryz.prog 142 [.pv (aH n),.pv (aH p)] [] [] (.pv (Z (bt n p)))∧-13194139533312≤bt n p∧bt n p≤13194139533312:=fun p hp=>by
  have hq:=dX (List.all_eq_true.1 hl p hp)
  exact ⟨uw n p 16384 268435456 hsm hq (by decide),wC hsm hq⟩
 rw [hb]
 refine Dp Tryz.func141 ?_
 intro C hP hN
 simp only [Tryz.f141] at hN ⊢
 refine Gz ?_
 refine WP.loopN [] (l.length - 1) (fun i st=>st.t 3=.ptr 3 0∧st.h 3=some (.box [.pv (Z n.1),.pv (Z n.2.1),.pv (Z n.2.2)] true false)∧st.t 1=.pv (aR l)∧st.t 2=.pv (Z (-1))∧st.t 8=.pv (Z ((i+1 : Nat) : Int))∧st.t 7=.pv (Z (dl ey n p0 l (i+1)).2)) (by simp [dl,hp0,ey]) ?_
 rintro i st hi ⟨g3,hb3,g1,g2,g8,g7⟩
 obtain ⟨m,hm⟩ : ∃ m,m=i+1:=⟨_,rfl⟩
 have hm2 : i+1+1=m+1:=by omega
 rw [← hm] at g8 g7
 rw [hm2]
 by_cases hlt : m < l.length
 ·have hw : IntKind.i64.wrap ((m : Int)+1)=((m+1 : Nat) : Int):=(aa (by omega) (by omega)).trans (by omega)
  have hlt' : (m : Int) < (l.length : Int):=by omega
  have hi2 : i < l.length - 1:=by omega
  obtain ⟨p,hp,hpv⟩:=hval m
  have hls:=hlt0 m
  generalize hxe : l[m]=v at *
  have hx : l[m]?=some v:=by rw [List.getElem?_eq_getElem hlt,hxe]
  obtain ⟨d1,d1a,d1b⟩:=hdot v (List.mem_of_getElem? hx)
  obtain ⟨d2,d2a,d2b⟩:=hdot p (List.mem_of_getElem? hp)
  have hs:=oB (bet:=ey) (n:=n) (p0:=p0) hx
  rw [hs,hpv]
  generalize hqq : (dl ey n p0 l m).2=q at *
  have hpe : ∀ h,l[q]'h=p:=fun h=>by rw [List.getElem?_eq_getElem h] at hp;exact Option.some.inj hp
  generalize bt n v=x at *
  generalize bt n p=y at *
  have w1 : IntKind.i64.wrap x=x:=aa
  have w2 : IntKind.i64.wrap y=y:=aa
  have w3 : IntKind.i64.wrap (-x)=-x:=aa
  have w4 : IntKind.i64.wrap (-y)=-y:=aa
  have w5 : IntKind.i64.wrap (-1 * x)=-x:=(aa (by omega) (by omega)).trans (by omega)
  have w6 : IntKind.i64.wrap (-1 * y)=-y:=(aa (by omega) (by omega)).trans (by omega)
  have w7 : IntKind.i64.wrap (1 * x)=x:=(aa (by omega) (by omega)).trans (by omega)
  have w8 : IntKind.i64.wrap (1 * y)=y:=(aa (by omega) (by omega)).trans (by omega)
  by_cases hc : y < x
  ·have hbt : ey x y=true:=by simp only [ey,decide_eq_true_eq];omega
   rw [hbt]
   simp only [if_true]
   with_reducible repeat' (first|refine Sp.h ?_|((first|refine Wd ?_|refine Ss.h ?_|refine Sc.h (d1) ?_|refine Sc.h (d2) ?_|(refine Sb.h ?_ ?_ ?_<;>(try intro hgd)<;>try exact Xy))<;>simp -implicitDefEqProofs (maxSteps:=2000000) [hP,hN,g3,hb3,g1,g2,g8,g7,hlt,hlt',hw,hx,hxe,hp,hpe,hls,hi2,w1,w2,w3,w4,w5,w6,w7,w8,hc]<;>try refine Ya ?_)|refine X2 ?_ ?_|(refine Xd ?_ ?_<;>intro hcd<;>try exact Xx))
  ·have hbt : ey x y=false:=by simp only [ey,decide_eq_false_iff_not];omega
   rw [hbt]
   simp only [Bool.false_eq_true,if_false]
   with_reducible repeat' (first|refine Sp.h ?_|((first|refine Wd ?_|refine Ss.h ?_|refine Sc.h (d1) ?_|refine Sc.h (d2) ?_|(refine Sb.h ?_ ?_ ?_<;>(try intro hgd)<;>try exact Xy))<;>simp -implicitDefEqProofs (maxSteps:=2000000) [hP,hN,g3,hb3,g1,g2,g8,g7,hlt,hlt',hw,hx,hxe,hp,hpe,hls,hi2,w1,w2,w3,w4,w5,w6,w7,w8,hc]<;>try refine Ya ?_)|refine X2 ?_ ?_|(refine Xd ?_ ?_<;>intro hcd<;>try exact Xx))
   all_goals rw [hqq]
 ·have hin : m=l.length:=by omega
  have hlt' : ¬ (m : Int) < (l.length : Int):=by omega
  subst hin
  exact Gy
end Go.Ab
namespace Go.Ab
open Go.Proofs
theorem ED {ws : List Int} (h : ∀ w ∈ ws,0≤w) : ∀ {i j : Nat},i≤j→aU ws i≤aU ws j:=fun hij=>gp h hij
theorem BB {w : Int} : wB w=true↔0≤w∧w≤65536:=by
 simp only [wB,Bool.not_eq_true',Bool.or_eq_false_iff,decide_eq_false_iff_not];omega
theorem CZ {l : List au} {ws : List Int} (hp : aC l=true) (hle : ws.length=l.length) : eh l ws=true↔(∀ w ∈ ws,0≤w∧w≤65536)∧1≤aU ws ws.length∧aU ws ws.length≤65536:=by
 simp only [eh,hp,hle,decide_true,Bool.true_and,Bool.and_eq_true,List.all_eq_true,BB,Bool.not_eq_true',Bool.or_eq_false_iff,decide_eq_false_iff_not]
 rw [← hle]
 constructor
 ·rintro ⟨h1,h2⟩;exact ⟨h1,by omega,by omega⟩
 ·rintro ⟨h1,h2⟩;exact ⟨h1,by omega,by omega⟩
set_option maxRecDepth 4000 in
theorem FR (l : List au) (ws : List Int) (hl : l.length≤9223372036854775807) (hws : ws.length≤9223372036854775807) : ab Tryz.prog 177 [.pv (aV l),.pv (zs ws)] [] [] (.pv (kz l ws)):=by
 have cp:=qj l hl
 have z6 : dt bV=V6 0 0 0 0 0 0:=rfl
 have hno : eh l ws=false→kz l ws=.tup [V6 0 0 0 0 0 0,Z 0,B false]:=fun hf=>by unfold kz;rw [hf];rfl
 cases hp : aC l with
 |false=>
  rw [hp] at cp
  rw [hno (by simp [eh,hp])]
  refine Dp Tryz.func177 ?_
  intro C hP hN
  simp only [Tryz.f177] at hN ⊢
  exact Gy
 |true=>
 rw [hp] at cp
 by_cases hle : ws.length=l.length
 case neg=>
  have hle' : ((ws.length : Int) !=(l.length : Int))=true:=by simp;omega
  have hle2 : ¬ (ws.length : Int)=(l.length : Int):=by omega
  rw [hno (by simp [eh,hle])]
  refine Dp Tryz.func177 ?_
  intro C hP hN
  simp only [Tryz.f177] at hN ⊢
  exact Gy
 have hle' : ((ws.length : Int) !=(l.length : Int))=false:=by simp [hle]
 have hcb:=CZ hp hle
 have hp':=hp
 simp only [aC,Bool.and_eq_true,decide_eq_true_eq] at hp'
 obtain ⟨⟨hp1,hp2⟩,hp3⟩:=hp'
 have hpv:=List.all_eq_true.1 hp3
 refine Dp Tryz.func177 ?_
 intro C hP hN
 simp only [Tryz.f177] at hN ⊢
 refine Gz ?_
 refine WP.loopN [] ws.length (fun i st=>st.t 0=.pv (aV l)∧st.t 1=.pv (zs ws)∧st.t 4=.ptr 4 0∧st.h 4=some (.box (b6 bV) true false)∧st.t 7=.pv (Z (aU ws i))∧st.t 8=.pv (Z i)∧st.h 9=none∧(∀ k w,k < i→ws[k]?=some w→0≤w∧w≤65536)∧0≤aU ws i∧aU ws i≤65536) (by simp [aU,bV]) ?_
 rintro i st hi ⟨g0,g1,g4,hb4,g7,g8,hb9,hq,t0,t1⟩
 by_cases hlt : i < ws.length
 ·have hw:=ak hlt hws
  have hlt' : (i : Int) < (ws.length : Int):=by omega
  generalize hxe : ws[i]=w at *
  have hx : ws[i]?=some w:=by rw [List.getElem?_eq_getElem hlt,hxe]
  have hT : aU ws (i+1)=aU ws i+w:=by simp only [aU,hx,Option.getD_some]
  have wS : IntKind.i64.wrap (65536 - aU ws i)=65536 - aU ws i:=aa
  have hall:=hcb.1
  have hmono:=ED (ws:=ws)
  by_cases h9 : w < 0
  ·rw [hno (by
    cases hc : eh l ws with
    |false=>rfl
    |true=>have:=((hcb.1 hc).1 w (List.mem_of_getElem? hx));omega)]
   exact Gy
  ·by_cases h10 : 65536 - aU ws i < w
   ·rw [hno (by
     cases hc : eh l ws with
     |false=>rfl
     |true=>
      obtain ⟨c1,c2,c3⟩:=hcb.1 hc
      have:=hmono (fun w hw=>(c1 w hw).1) (show i+1≤ws.length by omega)
      omega)]
    exact Gy
   ·have wT : IntKind.i64.wrap (aU ws i+w)=aU ws i+w:=aa
    have hst : ∀ k u,k < i+1→ws[k]?=some u→0≤u∧u≤65536:=fun k u hk hu=>by
     by_cases e : k=i
     ·subst e;rw [hx] at hu;injection hu with hu;subst hu;omega
     ·exact hq k u (by omega) hu
    have t2 : 0≤aU ws i+w∧aU ws i+w≤65536:=by omega
    rw [hT]
    generalize aU ws i=T at *
    with_reducible repeat' (first|refine Sp.h ?_|((first|refine Wd ?_|refine Ss.h ?_|(refine Sb.h ?_ ?_ ?_<;>(try intro hgd)<;>try exact Xy))<;>simp -implicitDefEqProofs (maxSteps:=2000000) [hP,hN,g0,g1,g4,hb4,g7,g8,hb9,hlt,hlt',hx,hxe,h9,wS,h10,wT,hw]<;>try refine Ya ?_)|refine X2 ?_ ?_|(refine Xd ?_ ?_<;>intro hcd<;>try exact Xx))
    all_goals exact ⟨hst,t2⟩
 ·have hin : i=ws.length:=by omega
  have hlt' : ¬ (i : Int) < (ws.length : Int):=by omega
  have hall : ∀ w ∈ ws,0≤w∧w≤65536:=fun w hw=>by
   obtain ⟨k,hk⟩:=List.getElem?_of_mem hw
   exact hq k w (by have:=(List.getElem?_eq_some_iff.1 hk).1;omega) hk
  subst hin
  by_cases h1 : aU ws ws.length < 1
  ·rw [hno (by
    cases hc : eh l ws with
    |false=>rfl
    |true=>have:=hcb.1 hc;omega)]
   exact Gy
  ·have hcT : eh l ws=true:=hcb.2 ⟨hall,by omega,by omega⟩
   have hR : kz l ws=.tup [dt (fh l ws ws.length),Z (aU ws ws.length),B true]:=by unfold kz;rw [hcT];rfl
   rw [hR]
   have hwB : ∀ w ∈ ws,wB w=true:=fun w hw=>BB.2 (hall w hw)
   have hrng:=r9 hpv hwB
   have hb4' : st.h 4=some (.box [.pv (Z 0),.pv (Z 0),.pv (Z 0),.pv (Z 0),.pv (Z 0),.pv (Z 0)] true false):=hb4
   clear hb4 hcb hno hq z6
   generalize aU ws ws.length=T at *
   refine Gz ?_
   refine WP.loopN [] l.length (fun i st=>st.t 0=.pv (aV l)∧st.t 1=.pv (zs ws)∧st.t 4=.ptr 4 0∧st.h 4=some (.box [.pv (Z 0),.pv (Z 0),.pv (Z 0),.pv (Z 0),.pv (Z 0),.pv (Z 0)] true false)∧st.t 7=.pv (Z T)∧st.t 9=.ptr 9 0∧st.h 9=some (.box (b6 (fh l ws i)) true false)∧st.t 10=.pv (Z i)) (by simp [fh,bV,g0,g1,g4,hb4',g7]) ?_
   clear g0 g1 g4 hb4' g7 g8 hb9 hlt' hlt hi
   rintro i st hi ⟨g0,g1,g4,hb4,g7,g9,hb9,g10⟩
   by_cases hlt : i < l.length
   ·have hw:=ak hlt (by omega)
    have hlt' : (i : Int) < (l.length : Int):=by omega
    have hltw : i < ws.length:=by omega
    generalize hxe : ws[i]=w at *
    have hx : ws[i]?=some w:=by rw [List.getElem?_eq_getElem hltw,hxe]
    generalize hye : l[i]=x at *
    have hy : l[i]?=some x:=by rw [List.getElem?_eq_getElem hlt,hye]
    have hwb:=hall w (List.mem_of_getElem? hx)
    have hpx:=hpv x (List.mem_of_getElem? hy)
    rw [ja] at hpx
    have hS : fh l ws (i+1)=Ae w (fh l ws i) x:=by simp only [fh,hx,hy]
    obtain ⟨r1,r2,r3⟩:=hrng i
    have a1:=kl (w:=w) (x:=x.1) hwb hpx.1 r1
    have a2:=kl (w:=w) (x:=x.2.1) hwb hpx.2.1 r2
    have a3:=kl (w:=w) (x:=x.2.2) hwb hpx.2.2 r3
    clear hrng hall hwB hpv
    generalize fh l ws i=S at *
    generalize fh l ws (i+1)=S' at *
    subst hS
    have d1 : (eF w S.1 x.1).1=S.1.1+w * x.1.1:=rfl
    have d2 : (eF w S.1 x.1).2=S.1.2+w * x.1.2:=rfl
    have d3 : (eF w S.2.1 x.2.1).1=S.2.1.1+w * x.2.1.1:=rfl
    have d4 : (eF w S.2.1 x.2.1).2=S.2.1.2+w * x.2.1.2:=rfl
    have d5 : (eF w S.2.2 x.2.2).1=S.2.2.1+w * x.2.2.1:=rfl
    have d6 : (eF w S.2.2 x.2.2).2=S.2.2.2+w * x.2.2.2:=rfl
    rw [d1,d2] at a1
    rw [d3,d4] at a2
    rw [d5,d6] at a3
    have u1 : IntKind.i64.wrap (w * x.1.1)=w * x.1.1:=aa
    have u2 : IntKind.i64.wrap (w * x.1.2)=w * x.1.2:=aa
    have u3 : IntKind.i64.wrap (w * x.2.1.1)=w * x.2.1.1:=aa
    have u4 : IntKind.i64.wrap (w * x.2.1.2)=w * x.2.1.2:=aa
    have u5 : IntKind.i64.wrap (w * x.2.2.1)=w * x.2.2.1:=aa
    have u6 : IntKind.i64.wrap (w * x.2.2.2)=w * x.2.2.2:=aa
    have v1 : IntKind.i64.wrap (S.1.1+w * x.1.1)=S.1.1+w * x.1.1:=aa
    have v2 : IntKind.i64.wrap (S.1.2+w * x.1.2)=S.1.2+w * x.1.2:=aa
    have v3 : IntKind.i64.wrap (S.2.1.1+w * x.2.1.1)=S.2.1.1+w * x.2.1.1:=aa
    have v4 : IntKind.i64.wrap (S.2.1.2+w * x.2.1.2)=S.2.1.2+w * x.2.1.2:=aa
    have v5 : IntKind.i64.wrap (S.2.2.1+w * x.2.2.1)=S.2.2.1+w * x.2.2.1:=aa
    have v6 : IntKind.i64.wrap (S.2.2.2+w * x.2.2.2)=S.2.2.2+w * x.2.2.2:=aa
    clear a1 a2 a3 r1 r2 r3 d1 d2 d3 d4 d5 d6
    refine Gz ?_
    refine WP.loopN [] 3 (fun k st=>st.t 0=.pv (aV l)∧st.t 1=.pv (zs ws)∧st.t 4=.ptr 4 0∧st.h 4=some (.box [.pv (Z 0),.pv (Z 0),.pv (Z 0),.pv (Z 0),.pv (Z 0),.pv (Z 0)] true false)∧st.t 7=.pv (Z T)∧st.t 9=.ptr 9 0∧st.h 9=some (.box (yW S x w k) true false)∧st.t 10=.pv (Z i)∧st.t 11=.pv (Z k)) (by simp [g0,g1,g4,hb4,g7,g9,hb9,g10,yW]) ?_
    clear g0 g1 g4 hb4 g7 g9 hb9 g10
    rintro k st hk ⟨g0,g1,g4,hb4,g7,g9,hb9,g10,g11⟩
    rcases gS hk with rfl|rfl|rfl|rfl
    all_goals (simp [yW,eF] at hb9 g11)
    ·skip
     with_reducible repeat' (first|refine Sp.h ?_|((first|refine Wd ?_|refine Ss.h ?_|(refine Sb.h ?_ ?_ ?_<;>(try intro hgd)<;>try exact Xy))<;>simp -implicitDefEqProofs (maxSteps:=2000000) [hP,hN,g0,g1,g4,hb4,g7,g9,hb9,g10,g11,hx,hxe,hy,hye,hlt,hltw,u1,u2,v1,v2,yW,eF]<;>try refine Ya ?_)|refine X2 ?_ ?_|(refine Xd ?_ ?_<;>intro hcd<;>try exact Xx))
    ·skip
     with_reducible repeat' (first|refine Sp.h ?_|((first|refine Wd ?_|refine Ss.h ?_|(refine Sb.h ?_ ?_ ?_<;>(try intro hgd)<;>try exact Xy))<;>simp -implicitDefEqProofs (maxSteps:=2000000) [hP,hN,g0,g1,g4,hb4,g7,g9,hb9,g10,g11,hx,hxe,hy,hye,hlt,hltw,u3,u4,v3,v4,yW,eF]<;>try refine Ya ?_)|refine X2 ?_ ?_|(refine Xd ?_ ?_<;>intro hcd<;>try exact Xx))
    ·skip
     with_reducible repeat' (first|refine Sp.h ?_|((first|refine Wd ?_|refine Ss.h ?_|(refine Sb.h ?_ ?_ ?_<;>(try intro hgd)<;>try exact Xy))<;>simp -implicitDefEqProofs (maxSteps:=2000000) [hP,hN,g0,g1,g4,hb4,g7,g9,hb9,g10,g11,hx,hxe,hy,hye,hlt,hltw,u5,u6,v5,v6,yW,eF]<;>try refine Ya ?_)|refine X2 ?_ ?_|(refine Xd ?_ ?_<;>intro hcd<;>try exact Xx))
    ·skip
     with_reducible repeat' (first|refine Sp.h ?_|((first|refine Wd ?_|refine Ss.h ?_|(refine Sb.h ?_ ?_ ?_<;>(try intro hgd)<;>try exact Xy))<;>simp -implicitDefEqProofs (maxSteps:=2000000) [hP,hN,g0,g1,g4,hb4,g7,g9,hb9,g10,g11,hlt,hw,Ae,eF]<;>try refine Ya ?_)|refine X2 ?_ ?_|(refine Xd ?_ ?_<;>intro hcd<;>try exact Xx))
   ·have hin : i=l.length:=by omega
    have hlt' : ¬ (i : Int) < (l.length : Int):=by omega
    subst hin
    rw [← hle] at hb9
    exact Gy
end Go.Ab
namespace Go.Ab
open Go.Proofs
theorem uy (x : Int) (h1 : -4611686018427387904≤x) (h2 : x≤4611686018427387904) : ab Tryz.prog 178 [.pv (Z x)] [] [] (.pv (Z (max x (-x)))):=by
 have w1 : IntKind.i64.wrap (-x)=-x:=aa
 have w2 : IntKind.i64.wrap (0 - x)=-x:=(aa (n:=0 - x) (by omega) (by omega)).trans (by omega)
 have fM : ∀ a b : Int,(if a < b then b else a)=max a b:=fun a b=>by omega
 refine Dp Tryz.func178 ?_
 intro C hP hN
 simp only [Tryz.f178] at hN ⊢
 exact Gy
theorem C4 (x y z r : Int) : zO [x,y,z] r=if x≤r∧y≤r∧z≤r then r * r - x * x - y * y - z * z else -1:=by
 unfold zO
 have : [x,y,z].all (fun x=>decide (x≤r))=decide (x≤r∧y≤r∧z≤r):=by simp [Bool.and_assoc]
 rw [this]
 simp [CA]
theorem C5 {u v : Iv} {T : Int} (hT : 1≤T∧T≤65536) (h1 : -281474976710656≤u.1 - v.2∧u.1 - v.2≤281474976710656) (h2 : -281474976710656≤u.2 - v.1∧u.2 - v.1≤281474976710656) :
 ab Tryz.prog 115 [.pv (Z (max (u.1 - v.2) (max (-(u.1 - v.2)) (max (u.2 - v.1) (-(u.2 - v.1)))))),.pv (Z T)] [] [] (.pv (Z (s8 u v T)))∧0≤s8 u v T:=by
 have hf : max (u.1 - v.2) (max (-(u.1 - v.2)) (max (u.2 - v.1) (-(u.2 - v.1))))=rU (u.1 - v.2) (u.2 - v.1):=by unfold rU;omega
 have hr:=CD h1 h2
 have:=xk (rU (u.1 - v.2) (u.2 - v.1)) T (by omega)
 rw [mc (by omega) (by omega) (by omega),Nu (by omega)] at this
 rw [hf]
 exact ⟨this,(Et hr.1 (by omega) hT.1 hT.2).1⟩
set_option maxRecDepth 4000 in
theorem H8 (left right : List Int) (a : List au) (ra : Int) (b : List au) (rb : Int) (h1 : left.length≤9223372036854775807) (h2 : right.length≤9223372036854775807) (h3 : a.length≤9223372036854775807) (h4 : b.length≤9223372036854775807) : ab Tryz.prog 146 [.pv (zs left),.pv (zs right),.pv (aV a),.pv (Z ra),.pv (aV b),.pv (Z rb)] [] [] (.pv (.tup [Z (ny left right a ra b rb),B (pY left right a ra b rb)])):=by
 have ca:=FR a left h3 h1
 have cb:=FR b right h4 h2
 have cra:=uA ra
 have crb:=uA rb
 have z6 : dt bV=V6 0 0 0 0 0 0:=rfl
 have hE : pY left right a ra b rb=(eh a left && eh b right && decide (aU left left.length=aU right right.length) && bd ra 0 1048576 && bd rb 0 1048576):=rfl
 have hX : ny left right a ra b rb=if pY left right a ra b rb then zO (CB (fh a left left.length) (fh b right right.length) (aU left left.length)) (ra+rb) else 0:=rfl
 rw [hX]
 cases hA : eh a left with
 |false=>
  rw [hA] at hE;simp only [Bool.false_and] at hE
  rw [hE]
  simp only [Bool.false_eq_true,if_false]
  simp only [kz,hA,Bool.false_eq_true,if_false,z6] at ca
  cases hB : eh b right
  all_goals (simp only [kz,hB,Bool.false_eq_true,if_false,if_true,z6] at cb)
  ·skip
   refine Dp Tryz.func146 ?_
   intro C hP hN
   simp only [Tryz.f146] at hN ⊢
   exact Gy
  ·skip
   generalize fh b right right.length=V at *
   generalize aU right right.length=T2 at *
   refine Dp Tryz.func146 ?_
   intro C hP hN
   simp only [Tryz.f146] at hN ⊢
   exact Gy
 |true=>
 simp only [kz,hA,if_true] at ca
 cases hB : eh b right with
 |false=>
  rw [hB] at hE;simp only [Bool.false_and,Bool.and_false] at hE
  rw [hE]
  simp only [Bool.false_eq_true,if_false]
  simp only [kz,hB,Bool.false_eq_true,if_false,z6] at cb
  generalize fh a left left.length=U at *
  generalize aU left left.length=T at *
  refine Dp Tryz.func146 ?_
  intro C hP hN
  simp only [Tryz.f146] at hN ⊢
  exact Gy
 |true=>
 simp only [kz,hB,if_true] at cb
 have hUr:=wP hA
 have hVr:=wP hB
 have hTr:=CC hA
 rw [hA,hB] at hE
 simp only [Bool.true_and] at hE
 clear hX hA hB z6
 generalize fh a left left.length=U at *
 generalize fh b right right.length=V at *
 generalize aU left left.length=T at *
 generalize aU right right.length=T2 at *
 by_cases hT : T=T2
 case neg=>
  have hT' : (T !=T2)=true:=by simp [hT]
  rw [decide_eq_false hT] at hE;simp only [Bool.false_and] at hE
  rw [hE]
  simp only [Bool.false_eq_true,if_false]
  clear hUr hVr
  refine Dp Tryz.func146 ?_
  intro C hP hN
  simp only [Tryz.f146] at hN ⊢
  exact Gy
 subst hT
 simp only [decide_true,Bool.true_and] at hE
 cases hra : bd ra 0 1048576 with
 |false=>
  rw [hra] at hE cra;simp only [Bool.false_and] at hE
  rw [hE]
  simp only [Bool.false_eq_true,if_false]
  clear hUr hVr
  refine Dp Tryz.func146 ?_
  intro C hP hN
  simp only [Tryz.f146] at hN ⊢
  exact Gy
 |true=>
 cases hrb : bd rb 0 1048576 with
 |false=>
  rw [hrb] at hE crb;rw [hra] at cra;simp only [Bool.and_false] at hE
  rw [hE]
  simp only [Bool.false_eq_true,if_false]
  clear hUr hVr
  refine Dp Tryz.func146 ?_
  intro C hP hN
  simp only [Tryz.f146] at hN ⊢
  exact Gy
 |true=>
 rw [hra,hrb] at hE
 rw [hra] at cra
 rw [hrb] at crb
 simp only [Bool.and_self] at hE
 rw [hE]
 simp only [if_true]
 simp only [bd,Bool.and_eq_true,decide_eq_true_eq] at hra hrb
 obtain ⟨re,hre⟩ : ∃ re,re=ra+rb:=⟨_,rfl⟩
 have wre : IntKind.i64.wrap (ra+rb)=re:=(aa (by omega) (by omega)).trans hre.symm
 rw [← hre]
 have hrr:=pZ (x:=re) (m:=2097152) (by omega) (by omega)
 have wrr : IntKind.i64.wrap (re * re)=re * re:=aa
 obtain ⟨⟨⟨a1,a2⟩,a3,a4⟩,⟨⟨b1,b2⟩,b3,b4⟩,⟨c1,c2⟩,c3,c4⟩:=hUr
 obtain ⟨⟨⟨d1,d2⟩,d3,d4⟩,⟨⟨e1,e2⟩,e3,e4⟩,⟨f1,f2⟩,f3,f4⟩:=hVr
 have k0:=C5 (u:=U.1) (v:=V.1) hTr (by omega) (by omega)
 have k1:=C5 (u:=U.2.1) (v:=V.2.1) hTr (by omega) (by omega)
 have k2:=C5 (u:=U.2.2) (v:=V.2.2) hTr (by omega) (by omega)
 have fM : ∀ a b : Int,(if a < b then b else a)=max a b:=fun a b=>by omega
 have w00 : IntKind.i64.wrap (U.1.1 - V.1.2)=U.1.1 - V.1.2:=aa
 have w01 : IntKind.i64.wrap (U.1.2 - V.1.1)=U.1.2 - V.1.1:=aa
 have w10 : IntKind.i64.wrap (U.2.1.1 - V.2.1.2)=U.2.1.1 - V.2.1.2:=aa
 have w11 : IntKind.i64.wrap (U.2.1.2 - V.2.1.1)=U.2.1.2 - V.2.1.1:=aa
 have w20 : IntKind.i64.wrap (U.2.2.1 - V.2.2.2)=U.2.2.1 - V.2.2.2:=aa
 have w21 : IntKind.i64.wrap (U.2.2.2 - V.2.2.1)=U.2.2.2 - V.2.2.1:=aa
 have s00:=uy (U.1.1 - V.1.2) (by omega) (by omega)
 have s01:=uy (U.1.2 - V.1.1) (by omega) (by omega)
 have s10:=uy (U.2.1.1 - V.2.1.2) (by omega) (by omega)
 have s11:=uy (U.2.1.2 - V.2.1.1) (by omega) (by omega)
 have s20:=uy (U.2.2.1 - V.2.2.2) (by omega) (by omega)
 have s21:=uy (U.2.2.2 - V.2.2.1) (by omega) (by omega)
 clear a1 a2 a3 a4 b1 b2 b3 b4 c1 c2 c3 c4 d1 d2 d3 d4 e1 e2 e3 e4 f1 f2 f3 f4
 have hg : CB U V T=[s8 U.1 V.1 T,s8 U.2.1 V.2.1 T,s8 U.2.2 V.2.2 T]:=rfl
 rw [hg,C4]
 generalize s8 U.1 V.1 T=x at *
 generalize s8 U.2.1 V.2.1 T=y at *
 generalize s8 U.2.2 V.2.2 T=z at *
 obtain ⟨k0,x0⟩:=k0
 obtain ⟨k1,y0⟩:=k1
 obtain ⟨k2,z0⟩:=k2
 have qx : x≤re→0≤x * x∧x * x≤4398046511104:=fun h=>by have:=pZ (x:=x) (m:=2097152) x0 (by omega);omega
 have qy : y≤re→0≤y * y∧y * y≤4398046511104:=fun h=>by have:=pZ (x:=y) (m:=2097152) y0 (by omega);omega
 have qz : z≤re→0≤z * z∧z * z≤4398046511104:=fun h=>by have:=pZ (x:=z) (m:=2097152) z0 (by omega);omega
 refine Dp Tryz.func146 ?_
 intro C hP hN
 simp only [Tryz.f146] at hN ⊢
 with_reducible repeat' (first|refine Sp.h ?_|((first|refine Wd ?_|refine Ss.h ?_|refine Sc.h (ca) ?_|refine Sc.h (cb) ?_|refine Sc.h (cra) ?_|refine Sc.h (crb) ?_|(refine Sb.h ?_ ?_ ?_<;>(try intro hgd)<;>try exact Xy))<;>simp -implicitDefEqProofs (maxSteps:=2000000) [hP,hN,wre,wrr]<;>try refine Ya ?_)|refine X2 ?_ ?_|(refine Xd ?_ ?_<;>intro hcd<;>try exact Xx))
 refine WP.loopN [] 3 (fun k st=>st.t 3=.pv (Z ra)∧st.t 5=.pv (Z rb)∧st.t 14=.ptr 14 0∧st.h 14=some (.box [.pv (Z U.1.1),.pv (Z U.1.2),.pv (Z U.2.1.1),.pv (Z U.2.1.2),.pv (Z U.2.2.1),.pv (Z U.2.2.2)] true false)∧st.t 17=.ptr 17 0∧st.h 17=some (.box [.pv (Z V.1.1),.pv (Z V.1.2),.pv (Z V.2.1.1),.pv (Z V.2.1.2),.pv (Z V.2.2.1),.pv (Z V.2.2.2)] true false)∧st.t 15=.pv (Z T)∧st.t 21=.pv (Z k)∧st.t 20=.pv (Z (if k=0 then re * re else if k=1 then re * re - x * x else if k=2 then re * re - x * x - y * y else re * re - x * x - y * y - z * z))∧(0 < k→x≤re)∧(1 < k→y≤re)∧(2 < k→z≤re)) (by simp) ?_
 rintro k st hk ⟨g3,g5,g14,hb14,g17,hb17,g15,g21,g20,p0,p1,p2⟩
 rcases gS hk with rfl|rfl|rfl|rfl
 all_goals (simp at g20 g21)
 ·by_cases hm : re < x
  ·have hres : (if x≤re∧y≤re∧z≤re then re * re - x * x - y * y - z * z else -1)=-1:=if_neg (by omega)
   rw [hres]
   with_reducible repeat' (first|refine Sp.h ?_|((first|refine Wd ?_|refine Ss.h ?_|refine Sc.h (s00) ?_|refine Sc.h (s01) ?_|refine Sc.h (k0) ?_|(refine Sb.h ?_ ?_ ?_<;>(try intro hgd)<;>try exact Xy))<;>simp -implicitDefEqProofs (maxSteps:=2000000) [hP,hN,g3,g5,g14,hb14,g17,hb17,g15,g20,g21,fM,w00,w01,wre,hm]<;>try refine Ya ?_)|refine X2 ?_ ?_|(refine Xd ?_ ?_<;>intro hcd<;>try exact Xx))
  ·have q:=qx (by omega)
   have u1 : IntKind.i64.wrap (x * x)=x * x:=aa
   have u2 : IntKind.i64.wrap (re * re - x * x)=re * re - x * x:=aa
   with_reducible repeat' (first|refine Sp.h ?_|((first|refine Wd ?_|refine Ss.h ?_|refine Sc.h (s00) ?_|refine Sc.h (s01) ?_|refine Sc.h (k0) ?_|(refine Sb.h ?_ ?_ ?_<;>(try intro hgd)<;>try exact Xy))<;>simp -implicitDefEqProofs (maxSteps:=2000000) [hP,hN,g3,g5,g14,hb14,g17,hb17,g15,g20,g21,fM,w00,w01,wre,hm,u1,u2]<;>try refine Ya ?_)|refine X2 ?_ ?_|(refine Xd ?_ ?_<;>intro hcd<;>try exact Xx))
   all_goals omega
 ·have p0':=p0 (by omega)
  have q':=qx p0'
  by_cases hm : re < y
  ·have hres : (if x≤re∧y≤re∧z≤re then re * re - x * x - y * y - z * z else -1)=-1:=if_neg (by omega)
   rw [hres]
   exact Gy
  ·have q:=qy (by omega)
   have u1 : IntKind.i64.wrap (y * y)=y * y:=aa
   have u2 : IntKind.i64.wrap (re * re - x * x - y * y)=re * re - x * x - y * y:=aa
   with_reducible repeat' (first|refine Sp.h ?_|((first|refine Wd ?_|refine Ss.h ?_|refine Sc.h (s10) ?_|refine Sc.h (s11) ?_|refine Sc.h (k1) ?_|(refine Sb.h ?_ ?_ ?_<;>(try intro hgd)<;>try exact Xy))<;>simp -implicitDefEqProofs (maxSteps:=2000000) [hP,hN,g3,g5,g14,hb14,g17,hb17,g15,g20,g21,fM,w10,w11,wre,hm,u1,u2]<;>try refine Ya ?_)|refine X2 ?_ ?_|(refine Xd ?_ ?_<;>intro hcd<;>try exact Xx))
   all_goals omega
 ·have p0':=p0 (by omega)
  have p1':=p1 (by omega)
  have q':=qx p0'
  have q'':=qy p1'
  by_cases hm : re < z
  ·have hres : (if x≤re∧y≤re∧z≤re then re * re - x * x - y * y - z * z else -1)=-1:=if_neg (by omega)
   rw [hres]
   exact Gy
  ·have q:=qz (by omega)
   have u1 : IntKind.i64.wrap (z * z)=z * z:=aa
   have u2 : IntKind.i64.wrap (re * re - x * x - y * y - z * z)=re * re - x * x - y * y - z * z:=aa
   with_reducible repeat' (first|refine Sp.h ?_|((first|refine Wd ?_|refine Ss.h ?_|refine Sc.h (s20) ?_|refine Sc.h (s21) ?_|refine Sc.h (k2) ?_|(refine Sb.h ?_ ?_ ?_<;>(try intro hgd)<;>try exact Xy))<;>simp -implicitDefEqProofs (maxSteps:=2000000) [hP,hN,g3,g5,g14,hb14,g17,hb17,g15,g20,g21,fM,w20,w21,wre,hm,u1,u2]<;>try refine Ya ?_)|refine X2 ?_ ?_|(refine Xd ?_ ?_<;>intro hcd<;>try exact Xx))
   all_goals omega
 ·have hres : (if x≤re∧y≤re∧z≤re then re * re - x * x - y * y - z * z else -1)=re * re - x * x - y * y - z * z:=if_pos ⟨p0 (by omega),p1 (by omega),p2 (by omega)⟩
  rw [hres]
  exact Gy
theorem H9 (left right : List Int) (a : List au) (ra : Int) (b : List au) (rb : Int) (h1 : left.length≤9223372036854775807) (h2 : right.length≤9223372036854775807) (h3 : a.length≤9223372036854775807) (h4 : b.length≤9223372036854775807) : ab Tryz.prog 100 [.pv (zs left),.pv (zs right),.pv (aV a),.pv (Z ra),.pv (aV b),.pv (Z rb)] [] [] (.pv (B (pY left right a ra b rb && decide (0≤ny left right a ra b rb)))):=by
 have ce:=H8 left right a ra b rb h1 h2 h3 h4
 generalize ny left right a ra b rb=e at *
 cases hb : pY left right a ra b rb<;>rw [hb] at ce
 all_goals
  refine Dp Tryz.func100 ?_
  intro C hP hN
  simp only [Tryz.f100] at hN ⊢
  exact Gy
end Go.Ab
namespace Go.Ab
open Go.Proofs
theorem G5 (a b : List Vc) (rho steps : Int) (ha : a.length≤9223372036854775807) (hb : b.length≤9223372036854775807) : ab Tryz.prog 98 [.pv (aR a),.pv (aR b),.pv (Z rho),.pv (Z steps)] [] [] (.pv (Gv (iK a b rho steps))):=by
 have ca:=FK a ha
 have cb:=FK b hb
 have hno : oE a b rho steps=false→iK a b rho steps=(0,⟨[],[],(0,0,0),0⟩):=fun h=>by simp [iK,h]
 have hd : oE a b rho steps=(fA a && fA b && bd rho 0 2097152 && bd steps 0 64):=rfl
 cases hA : fA a with
 |false=>
  rw [hA] at ca
  rw [hno (by rw [hd,hA];rfl)]
  refine Dp Tryz.func98 ?_
  intro C hP hN
  simp only [Tryz.f98] at hN ⊢
  with_reducible repeat' (first|refine Sp.h ?_|((first|refine Wd ?_|refine Ss.h ?_|refine Sc.h (ca) ?_|(refine Sb.h ?_ ?_ ?_<;>(try intro hgd)<;>try exact Xy))<;>simp -implicitDefEqProofs (maxSteps:=2000000) [hP,hN]<;>try refine Ya ?_)|refine X2 ?_ ?_|(refine Xd ?_ ?_<;>intro hcd<;>try exact Xx))
 |true=>
 rw [hA] at ca
 cases hB : fA b with
 |false=>
  rw [hB] at cb
  rw [hno (by rw [hd,hB,Bool.and_false];rfl)]
  refine Dp Tryz.func98 ?_
  intro C hP hN
  simp only [Tryz.f98] at hN ⊢
  with_reducible repeat' (first|refine Sp.h ?_|((first|refine Wd ?_|refine Ss.h ?_|refine Sc.h (ca) ?_|refine Sc.h (cb) ?_|(refine Sb.h ?_ ?_ ?_<;>(try intro hgd)<;>try exact Xy))<;>simp -implicitDefEqProofs (maxSteps:=2000000) [hP,hN]<;>try refine Ya ?_)|refine X2 ?_ ?_|(refine Xd ?_ ?_<;>intro hcd<;>try exact Xx))
 |true=>
 rw [hB] at cb
 by_cases hbad : rho < 0∨2097152 < rho∨steps < 0∨64 < steps
 ·have hf : oE a b rho steps=false:=by
   cases h : oE a b rho steps with
   |false=>rfl
   |true=>
    rw [hd] at h
    simp only [bd,Bool.and_eq_true,decide_eq_true_eq] at h
    omega
  rw [hno hf]
  rcases hbad with h|h|h|h
  all_goals
   refine Dp Tryz.func98 ?_
   intro C hP hN
   simp only [Tryz.f98] at hN ⊢
   with_reducible repeat' (first|refine Sp.h ?_|((first|refine Wd ?_|refine Ss.h ?_|refine Sc.h (ca) ?_|refine Sc.h (cb) ?_|(refine Sb.h ?_ ?_ ?_<;>(try intro hgd)<;>try exact Xy))<;>simp -implicitDefEqProofs (maxSteps:=2000000) [hP,hN,h]<;>try refine Ya ?_)|refine X2 ?_ ?_|(refine Xd ?_ ?_<;>intro hcd<;>try exact Xx))
 have q1 : ¬ rho < 0:=by omega
 have q2 : ¬ 2097152 < rho:=by omega
 have q3 : ¬ steps < 0:=by omega
 have q4 : ¬ 64 < steps:=by omega
 have ia:=kh.1 hA
 have ib:=kh.1 hB
 obtain ⟨sn,hsn⟩ : ∃ sn : Nat,steps=sn:=⟨steps.toNat,by omega⟩
 subst hsn
 have hr : iK a b rho sn=my a b rho sn (sn+1) (tp a b):=by
  have : oE a b rho sn=true:=by
   rw [hd,hA,hB]
   simp [bd]
   omega
  simp [iK,this]
 rw [hr]
 obtain ⟨R,hR⟩ : ∃ R,R=my a b rho sn (sn+1) (tp a b):=⟨_,rfl⟩
 rw [← hR]
 have f1 : (8 : Int) * (a.length : Int)≤281474976710656:=by omega
 have f2 : (8 : Int) * (b.length : Int)≤281474976710656:=by omega
 have f3 : (a.length : Int)≤9223372036854775807:=by omega
 have f4 : (b.length : Int)≤9223372036854775807:=by omega
 have f5 : 0 < a.length:=by omega
 have f6 : 0 < b.length:=by omega
 refine Dp Tryz.func98 ?_
 intro C hP hN
 simp only [Tryz.f98] at hN ⊢
 with_reducible repeat' (first|refine Sp.h ?_|((first|refine Wd ?_|refine Ss.h ?_|refine Sc.h (ca) ?_|refine Sc.h (cb) ?_|(refine Sb.h ?_ ?_ ?_<;>(try intro hgd)<;>try exact Xy))<;>simp -implicitDefEqProofs (maxSteps:=2000000) [hP,hN,q1,q2,q3,q4,f1,f2,f3,f4,f5,f6]<;>try refine Ya ?_)|refine X2 ?_ ?_|(refine Xd ?_ ?_<;>intro hcd<;>try exact Xx))
 refine WP.loopN [10,11,12,16] sn (fun i st=>∃ (s : NSt) (X Y : AV),NsOk a b s∧s.r=i∧my a b rho sn (sn+1 - i) s=R∧st.t 0=.pv (aR a)∧st.t 1=.pv (aR b)∧st.t 2=.pv (Z rho)∧st.t 3=.pv (Z sn)∧st.t 8=.ptr 8 0∧st.h 8=some (.box [.pv (Z 0),.pv (Z 0),.pv (Z 0),.pv (Z 0),.pv (.val (.slice none 0 0)),.pv (.val (.slice none 0 0)),.pv (Z 0)] true false)∧st.t 9=.ptr 9 0∧st.h 10=none∧st.h 11=none∧st.h 12=none∧st.h 16=none∧st.h 9=some (.box [.pv (Z 0),.pv (Z s.n.1),.pv (Z s.n.2.1),.pv (Z s.n.2.2),X,Y,.pv (Z s.r)] true false)∧((X=.arr 47 a.length∧Y=.arr 50 b.length∧st.h 47=some (.row 2 1 (s.w.map Z) 0)∧st.h 50=some (.row 2 1 (s.v.map Z) 0))∨(X=.pv (zs s.w)∧Y=.pv (zs s.v)))) ?_ ?_
 ·refine ⟨tp a b,.arr 47 a.length,.arr 50 b.length,Bl ia.1 ib.1,rfl,hR.symm,?_⟩
  simp [tp]
 rintro i st hi ⟨s,X,Y,hs,hsr,hrun,g0,g1,g2,g3,g8,hb8,g9,h10,h11,h12,h16,hb9,hor⟩
 have hfu : sn+1 - i=(sn - i)+1:=by omega
 rw [hfu,my] at hrun
 obtain ⟨sw,sv,n0,r⟩:=s
 have hsw:=hs.w
 have hsv:=hs.v
 have hwl:=hs.wl
 have hvl:=hs.vl
 simp only at hsw hsv hwl hvl hsr hb9 hor
 subst hsr
 have hrok:=tm (rho:=rho) (steps:=sn) hA hB hs
 have htm:=CE hA hB hs
 have cS1:=FL a sw ia.2.1 hwl ia.2.2 hsw
 have cS2:=FL b sv ib.2.1 hvl ib.2.2 hsv
 have sm1:=kg ia.2.2 hsw a.length (by omega)
 have sm2:=kg ib.2.2 hsv b.length (by omega)
 have cM:=CW (cY a sw a.length) (cY b sv b.length) (kx sm1 (by decide)) (kx sm2 (by decide))
 have hT : aQ (cY a sw a.length) (cY b sv b.length)=cF a sw b sv:=rfl
 rw [hT] at cM
 have cN:=H7 (cF a sw b sv) rho htm ⟨by omega,by omega⟩
 have hX29:=Fy htm
 have cNo:=FO (gq (cF a sw b sv)) (kx hX29 (by decide))
 have hnn:=Bk (gq (cF a sw b sv)) (kx hX29 (by decide))
 have hxd : gq (cF a sw b sv)=((cF a sw b sv).1.tdiv 65536,(cF a sw b sv).2.1.tdiv 65536,(cF a sw b sv).2.2.tdiv 65536):=rfl
 rw [nA] at hrun hrok
 simp only at hrun hrok
 have xw : ∀ y : Int,-35184372088832≤y→y≤35184372088832→IntKind.i64.wrap (y.tdiv 65536)=y.tdiv 65536:=fun y p q=>by
  have e:=Int.natAbs_tdiv_le_natAbs y 65536
  exact aa (by omega) (by omega)
 have x1:=xw _ htm.1.1 htm.1.2
 have x2:=xw _ htm.2.1.1 htm.2.1.2
 have x3:=xw _ htm.2.2.1 htm.2.2.2
 clear xw hs
 generalize cY a sw a.length=S1 at *
 generalize cY b sv b.length=S2 at *
 generalize cF a sw b sv=tt at *
 cases hc : qV tt rho with
 |true=>
  rw [hc] at cN hrun
  simp only [if_true] at hrun
  rw [← hrun]
  rcases hor with ⟨rfl,rfl,h47,h50⟩|⟨rfl,rfl⟩
  ·skip
   with_reducible repeat' (first|refine Sp.h ?_|((first|refine Wd ?_|refine Ss.h ?_|refine Sc.h (cS1) ?_|refine Sc.h (cS2) ?_|refine Sc.h (cM) ?_|refine Sc.h (cN) ?_|(refine Sb.h ?_ ?_ ?_<;>(try intro hgd)<;>try exact Xy))<;>simp -implicitDefEqProofs (maxSteps:=2000000) [hP,hN,g0,g1,g2,g3,g8,hb8,g9,h10,h11,h12,h16,hb9,h47,h50,hwl,hvl]<;>try refine Ya ?_)|refine X2 ?_ ?_|(refine Xd ?_ ?_<;>intro hcd<;>try exact Xx))
  ·skip
   with_reducible repeat' (first|refine Sp.h ?_|((first|refine Wd ?_|refine Ss.h ?_|refine Sc.h (cS1) ?_|refine Sc.h (cS2) ?_|refine Sc.h (cM) ?_|refine Sc.h (cN) ?_|(refine Sb.h ?_ ?_ ?_<;>(try intro hgd)<;>try exact Xy))<;>simp -implicitDefEqProofs (maxSteps:=2000000) [hP,hN,g0,g1,g2,g3,g8,hb8,g9,h10,h11,h12,h16,hb9,hwl,hvl]<;>try refine Ya ?_)|refine X2 ?_ ?_|(refine Xd ?_ ?_<;>intro hcd<;>try exact Xx))
 |false=>
 rw [hc] at cN hrun hrok
 simp only [Bool.false_eq_true,if_false] at hrun hrok
 have hno0 : aX (gq tt)=aX ((tt.1.tdiv 65536,tt.2.1.tdiv 65536,tt.2.2.tdiv 65536)):=by rw [← hxd]
 generalize hxx : gq tt=x at *
 subst hxd
 generalize hne : aX (tt.1.tdiv 65536,tt.2.1.tdiv 65536,tt.2.2.tdiv 65536)=n at *
 clear hno0
 cases hnz : nz n with
 |false=>
  rw [hnz] at cNo hrun
  simp only [if_true] at hrun
  rw [← hrun]
  rcases hor with ⟨rfl,rfl,h47,h50⟩|⟨rfl,rfl⟩
  ·skip
   with_reducible repeat' (first|refine Sp.h ?_|((first|refine Wd ?_|refine Ss.h ?_|refine Sc.h (cS1) ?_|refine Sc.h (cS2) ?_|refine Sc.h (cM) ?_|refine Sc.h (cN) ?_|refine Sc.h (cNo) ?_|(refine Sb.h ?_ ?_ ?_<;>(try intro hgd)<;>try exact Xy))<;>simp -implicitDefEqProofs (maxSteps:=2000000) [hP,hN,g0,g1,g2,g3,g8,hb8,g9,h10,h11,h12,h16,hb9,h47,h50,hwl,hvl,x1,x2,x3]<;>try refine Ya ?_)|refine X2 ?_ ?_|(refine Xd ?_ ?_<;>intro hcd<;>try exact Xx))
  ·skip
   with_reducible repeat' (first|refine Sp.h ?_|((first|refine Wd ?_|refine Ss.h ?_|refine Sc.h (cS1) ?_|refine Sc.h (cS2) ?_|refine Sc.h (cM) ?_|refine Sc.h (cN) ?_|refine Sc.h (cNo) ?_|(refine Sb.h ?_ ?_ ?_<;>(try intro hgd)<;>try exact Xy))<;>simp -implicitDefEqProofs (maxSteps:=2000000) [hP,hN,g0,g1,g2,g3,g8,hb8,g9,h10,h11,h12,h16,hb9,hwl,hvl,x1,x2,x3]<;>try refine Ya ?_)|refine X2 ?_ ?_|(refine Xd ?_ ?_<;>intro hcd<;>try exact Xx))
 |true=>
 rw [hnz] at cNo hrun hrok
 simp only [Bool.true_eq_false,if_false] at hrun hrok
 have cE1:=FP n a hnn ia.1 ia.2.1 ia.2.2
 have cE2:=FQ n b hnn ib.1 ib.2.1 ib.2.2
 have cQ:=F7 n
 have hq:=xj n
 have l1:=tn (bet:=ew) hnn ia.2.2
 have l2:=tn (bet:=ey) hnn ib.2.2
 have i1:=mz (bet:=ew) (n:=n) ia.1
 have i2:=mz (bet:=ey) (n:=n) ib.1
 obtain ⟨p0,hp0⟩ : ∃ p0,a[0]?=some p0:=⟨_,List.getElem?_eq_getElem (by omega)⟩
 obtain ⟨p1,hp1⟩ : ∃ p1,b[0]?=some p1:=⟨_,List.getElem?_eq_getElem (by omega)⟩
 obtain ⟨pa,hpa,hva⟩:=kO (bet:=ew) (n:=n) hp0 a.length
 obtain ⟨pb,hpb,hvb⟩:=kO (bet:=ey) (n:=n) hp1 b.length
 have hba : cJ ew n a=dl ew n p0 a a.length:=by simp [cJ,hp0]
 have hbb : cJ ey n b=dl ey n p1 b b.length:=by simp [cJ,hp1]
 rw [← hba] at hpa hva
 rw [← hbb] at hpb hvb
 clear hba hbb
 generalize cJ ew n a=lo at *
 generalize cJ ey n b=hi' at *
 generalize ft n=q at *
 have hqr:=bE (a:=q) (b:=rho) 32768 2097152 (by omega) (by omega) (by omega) (by omega)
 have e4 : IntKind.i64.wrap (lo.1 - hi'.1)=lo.1 - hi'.1:=aa
 have e5 : IntKind.i64.wrap (q * rho)=q * rho:=aa
 generalize hpp : q * rho=qr at *
 have hxa : ∀ h,a[lo.2]'h=pa:=fun h=>by rw [List.getElem?_eq_getElem h] at hpa;exact Option.some.inj hpa
 have hxb : ∀ h,b[hi'.2]'h=pb:=fun h=>by rw [List.getElem?_eq_getElem h] at hpb;exact Option.some.inj hpb
 have sa:=dX (List.all_eq_true.1 ia.2.2 pa (List.mem_of_getElem? hpa))
 have sb:=dX (List.all_eq_true.1 ib.2.2 pb (List.mem_of_getElem? hpb))
 have cD1:=uw n pa 16384 268435456 (qa hnn) sa (by decide)
 have cD2:=uw n pb 16384 268435456 (qa hnn) sb (by decide)
 rw [← hva] at cD1
 rw [← hvb] at cD2
 have cA:=CW pa pb (kx sa (by decide)) (kx sb (by decide))
 have sab:=rV sa sb
 have hXs : dZ 536870912 (tt.1.tdiv 65536,tt.2.1.tdiv 65536,tt.2.2.tdiv 65536):=hX29
 have htr:=jK (tt.1.tdiv 65536,tt.2.1.tdiv 65536,tt.2.2.tdiv 65536) (aQ pa pb)
 rw [hpa,hpb] at hrun hrok
 simp only [Option.getD_some] at hrun hrok
 have w1 : IntKind.i64.wrap lo.1=lo.1:=aa
 have w2 : IntKind.i64.wrap hi'.1=hi'.1:=aa
 by_cases hsep : qr < lo.1 - hi'.1
 ·rw [if_pos hsep] at hrun
  simp only at hrun
  rw [← hrun]
  rcases hor with ⟨rfl,rfl,h47,h50⟩|⟨rfl,rfl⟩
  ·skip
   with_reducible repeat' (first|refine Sp.h ?_|((first|refine Wd ?_|refine Ss.h ?_|refine Sc.h (cS1) ?_|refine Sc.h (cS2) ?_|refine Sc.h (cM) ?_|refine Sc.h (cN) ?_|refine Sc.h (cNo) ?_|refine Sc.h (cE1) ?_|refine Sc.h (cE2) ?_|refine Sc.h (cD1) ?_|refine Sc.h (cD2) ?_|refine Sc.h (cQ) ?_|(refine Sb.h ?_ ?_ ?_<;>(try intro hgd)<;>try exact Xy))<;>simp -implicitDefEqProofs (maxSteps:=2000000) [hP,hN,g0,g1,g2,g3,g8,hb8,g9,h10,h11,h12,h16,hb9,h47,h50,hwl,hvl,x1,x2,x3,hpa,hpb,hxa,hxb,i1,i2,e4,e5,hpp,hsep]<;>try refine Ya ?_)|refine X2 ?_ ?_|(refine Xd ?_ ?_<;>intro hcd<;>try exact Xx))
  ·skip
   with_reducible repeat' (first|refine Sp.h ?_|((first|refine Wd ?_|refine Ss.h ?_|refine Sc.h (cS1) ?_|refine Sc.h (cS2) ?_|refine Sc.h (cM) ?_|refine Sc.h (cN) ?_|refine Sc.h (cNo) ?_|refine Sc.h (cE1) ?_|refine Sc.h (cE2) ?_|refine Sc.h (cD1) ?_|refine Sc.h (cD2) ?_|refine Sc.h (cQ) ?_|(refine Sb.h ?_ ?_ ?_<;>(try intro hgd)<;>try exact Xy))<;>simp -implicitDefEqProofs (maxSteps:=2000000) [hP,hN,g0,g1,g2,g3,g8,hb8,g9,h10,h11,h12,h16,hb9,hwl,hvl,x1,x2,x3,hpa,hpb,hxa,hxb,i1,i2,e4,e5,hpp,hsep]<;>try refine Ya ?_)|refine X2 ?_ ?_|(refine Xd ?_ ?_<;>intro hcd<;>try exact Xx))
 rw [if_neg hsep] at hrun hrok
 have cB:=CW (tt.1.tdiv 65536,tt.2.1.tdiv 65536,tt.2.2.tdiv 65536) (aQ pa pb) (kx hXs (by decide)) (kx sab (by decide))
 have he:=rV hXs sab
 have cU:=uw (tt.1.tdiv 65536,tt.2.1.tdiv 65536,tt.2.2.tdiv 65536) (aQ (tt.1.tdiv 65536,tt.2.1.tdiv 65536,tt.2.2.tdiv 65536) (aQ pa pb)) 536870912 1073741824 hXs he (by decide)
 have cV:=uw (aQ (tt.1.tdiv 65536,tt.2.1.tdiv 65536,tt.2.2.tdiv 65536) (aQ pa pb)) (aQ (tt.1.tdiv 65536,tt.2.1.tdiv 65536,tt.2.2.tdiv 65536) (aQ pa pb)) 1073741824 1073741824 he he (by decide)
 obtain ⟨r1,r2,r3⟩:=mw (m:=536870912) (n:=1073741824) hXs he
 obtain ⟨t1,t2,t3⟩:=mw (m:=1073741824) (n:=1073741824) he he
 have hu : -1729382256910270464≤bt (tt.1.tdiv 65536,tt.2.1.tdiv 65536,tt.2.2.tdiv 65536) (aQ (tt.1.tdiv 65536,tt.2.1.tdiv 65536,tt.2.2.tdiv 65536) (aQ pa pb))∧bt (tt.1.tdiv 65536,tt.2.1.tdiv 65536,tt.2.2.tdiv 65536) (aQ (tt.1.tdiv 65536,tt.2.1.tdiv 65536,tt.2.2.tdiv 65536) (aQ pa pb))≤1729382256910270464:=by unfold bt;omega
 have hv : bt (aQ (tt.1.tdiv 65536,tt.2.1.tdiv 65536,tt.2.2.tdiv 65536) (aQ pa pb)) (aQ (tt.1.tdiv 65536,tt.2.1.tdiv 65536,tt.2.2.tdiv 65536) (aQ pa pb))≤3458764513820540928:=by unfold bt;omega
 have hv0:=zQ (aQ (tt.1.tdiv 65536,tt.2.1.tdiv 65536,tt.2.2.tdiv 65536) (aQ pa pb))
 have hpd : kI (tt.1.tdiv 65536,tt.2.1.tdiv 65536,tt.2.2.tdiv 65536) (aQ pa pb)=if bt (tt.1.tdiv 65536,tt.2.1.tdiv 65536,tt.2.2.tdiv 65536) (aQ (tt.1.tdiv 65536,tt.2.1.tdiv 65536,tt.2.2.tdiv 65536) (aQ pa pb))≤0 then 0 else min 256 (bt (tt.1.tdiv 65536,tt.2.1.tdiv 65536,tt.2.2.tdiv 65536) (aQ (tt.1.tdiv 65536,tt.2.1.tdiv 65536,tt.2.2.tdiv 65536) (aQ pa pb)) / max 1 (bt (aQ (tt.1.tdiv 65536,tt.2.1.tdiv 65536,tt.2.2.tdiv 65536) (aQ pa pb)) (aQ (tt.1.tdiv 65536,tt.2.1.tdiv 65536,tt.2.2.tdiv 65536) (aQ pa pb)) / 256)):=rfl
 clear r1 r2 r3 t1 t2 t3 he
 generalize kI (tt.1.tdiv 65536,tt.2.1.tdiv 65536,tt.2.2.tdiv 65536) (aQ pa pb)=t at *
 generalize bt (tt.1.tdiv 65536,tt.2.1.tdiv 65536,tt.2.2.tdiv 65536) (aQ (tt.1.tdiv 65536,tt.2.1.tdiv 65536,tt.2.2.tdiv 65536) (aQ pa pb))=u at *
 generalize bt (aQ (tt.1.tdiv 65536,tt.2.1.tdiv 65536,tt.2.2.tdiv 65536) (aQ pa pb)) (aQ (tt.1.tdiv 65536,tt.2.1.tdiv 65536,tt.2.2.tdiv 65536) (aQ pa pb))=v at *
 generalize aQ (tt.1.tdiv 65536,tt.2.1.tdiv 65536,tt.2.2.tdiv 65536) (aQ pa pb)=e at *
 generalize aQ pa pb=pab at *
 by_cases hstp : r=sn
 ·rw [if_pos hstp] at hrun
  simp only at hrun
  rw [← hrun]
  subst hstp
  rcases hor with ⟨rfl,rfl,h47,h50⟩|⟨rfl,rfl⟩
  ·skip
   with_reducible repeat' (first|refine Sp.h ?_|((first|refine Wd ?_|refine Ss.h ?_|refine Sc.h (cS1) ?_|refine Sc.h (cS2) ?_|refine Sc.h (cM) ?_|refine Sc.h (cN) ?_|refine Sc.h (cNo) ?_|refine Sc.h (cE1) ?_|refine Sc.h (cE2) ?_|refine Sc.h (cD1) ?_|refine Sc.h (cD2) ?_|refine Sc.h (cQ) ?_|refine Sc.h (cA) ?_|refine Sc.h (cB) ?_|refine Sc.h (cU) ?_|refine Sc.h (cV) ?_|(refine Sb.h ?_ ?_ ?_<;>(try intro hgd)<;>try exact Xy))<;>simp -implicitDefEqProofs (maxSteps:=2000000) [hP,hN,g0,g1,g2,g3,g8,hb8,g9,h10,h11,h12,h16,hb9,h47,h50,hwl,hvl,x1,x2,x3,hpa,hpb,hxa,hxb,i1,i2,e4,e5,hpp,hsep]<;>try refine Ya ?_)|refine X2 ?_ ?_|(refine Xd ?_ ?_<;>intro hcd<;>try exact Xx))
  ·skip
   with_reducible repeat' (first|refine Sp.h ?_|((first|refine Wd ?_|refine Ss.h ?_|refine Sc.h (cS1) ?_|refine Sc.h (cS2) ?_|refine Sc.h (cM) ?_|refine Sc.h (cN) ?_|refine Sc.h (cNo) ?_|refine Sc.h (cE1) ?_|refine Sc.h (cE2) ?_|refine Sc.h (cD1) ?_|refine Sc.h (cD2) ?_|refine Sc.h (cQ) ?_|refine Sc.h (cA) ?_|refine Sc.h (cB) ?_|refine Sc.h (cU) ?_|refine Sc.h (cV) ?_|(refine Sb.h ?_ ?_ ?_<;>(try intro hgd)<;>try exact Xy))<;>simp -implicitDefEqProofs (maxSteps:=2000000) [hP,hN,g0,g1,g2,g3,g8,hb8,g9,h10,h11,h12,h16,hb9,hwl,hvl,x1,x2,x3,hpa,hpb,hxa,hxb,i1,i2,e4,e5,hpp,hsep]<;>try refine Ya ?_)|refine X2 ?_ ?_|(refine Xd ?_ ?_<;>intro hcd<;>try exact Xx))
 rw [if_neg hstp] at hrun hrok
 have hst : ¬ (sn : Int)≤(r : Int):=by omega
 have hst3 : ¬ sn≤r:=by omega
 by_cases hu0 : u≤0
 ·rw [if_pos hu0] at hpd
  rw [if_pos hpd] at hrun
  simp only at hrun
  rw [← hrun]
  rcases hor with ⟨rfl,rfl,h47,h50⟩|⟨rfl,rfl⟩
  ·skip
   with_reducible repeat' (first|refine Sp.h ?_|((first|refine Wd ?_|refine Ss.h ?_|refine Sc.h (cS1) ?_|refine Sc.h (cS2) ?_|refine Sc.h (cM) ?_|refine Sc.h (cN) ?_|refine Sc.h (cNo) ?_|refine Sc.h (cE1) ?_|refine Sc.h (cE2) ?_|refine Sc.h (cD1) ?_|refine Sc.h (cD2) ?_|refine Sc.h (cQ) ?_|refine Sc.h (cA) ?_|refine Sc.h (cB) ?_|refine Sc.h (cU) ?_|refine Sc.h (cV) ?_|(refine Sb.h ?_ ?_ ?_<;>(try intro hgd)<;>try exact Xy))<;>simp -implicitDefEqProofs (maxSteps:=2000000) [hP,hN,g0,g1,g2,g3,g8,hb8,g9,h10,h11,h12,h16,hb9,h47,h50,hwl,hvl,x1,x2,x3,hpa,hpb,hxa,hxb,i1,i2,e4,e5,hpp,hsep,hst,hst3,hu0]<;>try refine Ya ?_)|refine X2 ?_ ?_|(refine Xd ?_ ?_<;>intro hcd<;>try exact Xx))
  ·skip
   with_reducible repeat' (first|refine Sp.h ?_|((first|refine Wd ?_|refine Ss.h ?_|refine Sc.h (cS1) ?_|refine Sc.h (cS2) ?_|refine Sc.h (cM) ?_|refine Sc.h (cN) ?_|refine Sc.h (cNo) ?_|refine Sc.h (cE1) ?_|refine Sc.h (cE2) ?_|refine Sc.h (cD1) ?_|refine Sc.h (cD2) ?_|refine Sc.h (cQ) ?_|refine Sc.h (cA) ?_|refine Sc.h (cB) ?_|refine Sc.h (cU) ?_|refine Sc.h (cV) ?_|(refine Sb.h ?_ ?_ ?_<;>(try intro hgd)<;>try exact Xy))<;>simp -implicitDefEqProofs (maxSteps:=2000000) [hP,hN,g0,g1,g2,g3,g8,hb8,g9,h10,h11,h12,h16,hb9,hwl,hvl,x1,x2,x3,hpa,hpb,hxa,hxb,i1,i2,e4,e5,hpp,hsep,hst,hst3,hu0]<;>try refine Ya ?_)|refine X2 ?_ ?_|(refine Xd ?_ ?_<;>intro hcd<;>try exact Xx))
 rw [if_neg hu0] at hpd
 have a1 : v.tdiv 256=v / 256:=Int.tdiv_eq_ediv_of_nonneg hv0
 have a2 : IntKind.i64.wrap (v / 256)=v / 256:=aa
 have hm : 1≤max 1 (v / 256):=by omega
 generalize hmm : max 1 (v / 256)=m at *
 have a3 : u.tdiv m=u / m:=Int.tdiv_eq_ediv_of_nonneg (by omega)
 have h4 : u / m≤u:=Int.ediv_le_self m (by omega)
 have h5 : 0≤u / m:=Int.ediv_nonneg (by omega) (by omega)
 have a4 : IntKind.i64.wrap (u / m)=u / m:=aa
 have a5 : ¬ m=0:=by omega
 have a6 : (m==0)=false:=by simp;omega
 have hpt:=hpd.symm
 by_cases ht0 : t=0
 ·rw [if_pos ht0] at hrun
  simp only at hrun
  rw [← hrun]
  rw [ht0] at hpt
  rcases hor with ⟨rfl,rfl,h47,h50⟩|⟨rfl,rfl⟩
  ·skip
   with_reducible repeat' (first|refine Sp.h ?_|((first|refine Wd ?_|refine Ss.h ?_|refine Sc.h (cS1) ?_|refine Sc.h (cS2) ?_|refine Sc.h (cM) ?_|refine Sc.h (cN) ?_|refine Sc.h (cNo) ?_|refine Sc.h (cE1) ?_|refine Sc.h (cE2) ?_|refine Sc.h (cD1) ?_|refine Sc.h (cD2) ?_|refine Sc.h (cQ) ?_|refine Sc.h (cA) ?_|refine Sc.h (cB) ?_|refine Sc.h (cU) ?_|refine Sc.h (cV) ?_|(refine Sb.h ?_ ?_ ?_<;>(try intro hgd)<;>try exact Xy))<;>simp -implicitDefEqProofs (maxSteps:=2000000) [hP,hN,g0,g1,g2,g3,g8,hb8,g9,h10,h11,h12,h16,hb9,h47,h50,hwl,hvl,x1,x2,x3,hpa,hpb,hxa,hxb,i1,i2,e4,e5,hpp,hsep,hst,hst3,hu0,a1,a2,hmm,a3,a4,a5,a6,hpt]<;>try refine Ya ?_)|refine X2 ?_ ?_|(refine Xd ?_ ?_<;>intro hcd<;>try exact Xx))
  ·skip
   with_reducible repeat' (first|refine Sp.h ?_|((first|refine Wd ?_|refine Ss.h ?_|refine Sc.h (cS1) ?_|refine Sc.h (cS2) ?_|refine Sc.h (cM) ?_|refine Sc.h (cN) ?_|refine Sc.h (cNo) ?_|refine Sc.h (cE1) ?_|refine Sc.h (cE2) ?_|refine Sc.h (cD1) ?_|refine Sc.h (cD2) ?_|refine Sc.h (cQ) ?_|refine Sc.h (cA) ?_|refine Sc.h (cB) ?_|refine Sc.h (cU) ?_|refine Sc.h (cV) ?_|(refine Sb.h ?_ ?_ ?_<;>(try intro hgd)<;>try exact Xy))<;>simp -implicitDefEqProofs (maxSteps:=2000000) [hP,hN,g0,g1,g2,g3,g8,hb8,g9,h10,h11,h12,h16,hb9,hwl,hvl,x1,x2,x3,hpa,hpb,hxa,hxb,i1,i2,e4,e5,hpp,hsep,hst,hst3,hu0,a1,a2,hmm,a3,a4,a5,a6,hpt]<;>try refine Ya ?_)|refine X2 ?_ ?_|(refine Xd ?_ ?_<;>intro hcd<;>try exact Xx))
 rw [if_neg ht0] at hrun hrok
 have hok:=hrok.2 _ rfl
 simp only at hrun
 have ht2 : (t==0)=false:=by simp;omega
 have cG1:=FM sw t lo.2 (by omega) hsw (by omega) htr.1 htr.2
 have cG2:=FM sv t hi'.2 (by omega) hsv (by omega) htr.1 htr.2
 have hwr : IntKind.i64.wrap ((r : Int)+1)=(r : Int)+1:=aa
 rcases hor with ⟨rfl,rfl,h47,h50⟩|⟨rfl,rfl⟩
 ·skip
  with_reducible repeat' (first|refine Sp.h ?_|((first|refine Wd ?_|refine Ss.h ?_|refine Sc.h (cS1) ?_|refine Sc.h (cS2) ?_|refine Sc.h (cM) ?_|refine Sc.h (cN) ?_|refine Sc.h (cNo) ?_|refine Sc.h (cE1) ?_|refine Sc.h (cE2) ?_|refine Sc.h (cD1) ?_|refine Sc.h (cD2) ?_|refine Sc.h (cQ) ?_|refine Sc.h (cA) ?_|refine Sc.h (cB) ?_|refine Sc.h (cU) ?_|refine Sc.h (cV) ?_|refine Sc.h (cG1) ?_|refine Sc.h (cG2) ?_|(refine Sb.h ?_ ?_ ?_<;>(try intro hgd)<;>try exact Xy))<;>simp -implicitDefEqProofs (maxSteps:=2000000) [hP,hN,g0,g1,g2,g3,g8,hb8,g9,h10,h11,h12,h16,hb9,h47,h50,hwl,hvl,x1,x2,x3,hpa,hpb,hxa,hxb,i1,i2,e4,e5,hpp,hsep,hst,hst3,hu0,a1,a2,hmm,a3,a4,a5,a6,hpt,ht0,ht2,hwr]<;>try refine Ya ?_)|refine X2 ?_ ?_|(refine Xd ?_ ?_<;>intro hcd<;>try exact Xx))
  refine ⟨by omega,⟨iU sw lo.2 t,iU sv hi'.2 t,n,r+1⟩,hok,by simp only,hrun,?_⟩
  simp
  exact ⟨_,_,⟨rfl,rfl⟩,Or.inr ⟨rfl,rfl⟩⟩
 ·skip
  with_reducible repeat' (first|refine Sp.h ?_|((first|refine Wd ?_|refine Ss.h ?_|refine Sc.h (cS1) ?_|refine Sc.h (cS2) ?_|refine Sc.h (cM) ?_|refine Sc.h (cN) ?_|refine Sc.h (cNo) ?_|refine Sc.h (cE1) ?_|refine Sc.h (cE2) ?_|refine Sc.h (cD1) ?_|refine Sc.h (cD2) ?_|refine Sc.h (cQ) ?_|refine Sc.h (cA) ?_|refine Sc.h (cB) ?_|refine Sc.h (cU) ?_|refine Sc.h (cV) ?_|refine Sc.h (cG1) ?_|refine Sc.h (cG2) ?_|(refine Sb.h ?_ ?_ ?_<;>(try intro hgd)<;>try exact Xy))<;>simp -implicitDefEqProofs (maxSteps:=2000000) [hP,hN,g0,g1,g2,g3,g8,hb8,g9,h10,h11,h12,h16,hb9,hwl,hvl,x1,x2,x3,hpa,hpb,hxa,hxb,i1,i2,e4,e5,hpp,hsep,hst,hst3,hu0,a1,a2,hmm,a3,a4,a5,a6,hpt,ht0,ht2,hwr]<;>try refine Ya ?_)|refine X2 ?_ ?_|(refine Xd ?_ ?_<;>intro hcd<;>try exact Xx))
  refine ⟨by omega,⟨iU sw lo.2 t,iU sv hi'.2 t,n,r+1⟩,hok,by simp only,hrun,?_⟩
  simp
  exact ⟨_,_,⟨rfl,rfl⟩,Or.inr ⟨rfl,rfl⟩⟩
end Go.Ab
namespace Go.Ab
open Go.Proofs
def uz (v : Vc) (j : Nat) : List AV:=[.pv (Z (if 0 < j then v.1 else 0)),.pv (Z (if 1 < j then v.2.1 else 0)),.pv (Z (if 2 < j then v.2.2 else 0))]
theorem Ia (a b : List au) (ha : a.length≤9223372036854775807) (hb : b.length≤9223372036854775807) : ab Tryz.prog 173 [.pv (aV a),.pv (aV b)] [] [] (.pv (.tup [aH (mC a b),B (oF a b)])):=by
 have ca:=qj a ha
 have cb:=qj b hb
 have hN : mC a b=if aC a && aC b then aX (lp a b) else (0,0,0):=rfl
 have hM : oF a b=(aC a && aC b && nz (aX (lp a b))):=rfl
 rw [hN,hM]
 cases hpa : aC a with
 |false=>
  rw [hpa] at ca
  refine Dp Tryz.func173 ?_
  intro C hP hN
  simp only [Tryz.f173] at hN ⊢
  exact Gy
 |true=>
 rw [hpa] at ca
 cases hpb : aC b with
 |false=>
  rw [hpb] at cb
  refine Dp Tryz.func173 ?_
  intro C hP hN
  simp only [Tryz.f173] at hN ⊢
  exact Gy
 |true=>
 rw [hpb] at cb
 have c1:=Nv a ha
 have c2:=Nv b hb
 have hms:=Ev hpa hpb
 have c5:=FO (lp a b) hms
 have h2:=(de hpa).2.1
 have h3:=(de hpb).2.1
 have hmv : lp a b=((av (aF a) a.length).1 * b.length - (av (aF b) b.length).1 * a.length,(av (aF a) a.length).2.1 * b.length - (av (aF b) b.length).2.1 * a.length,(av (aF a) a.length).2.2 * b.length - (av (aF b) b.length).2.2 * a.length):=rfl
 simp only [Bool.and_self,if_true,Bool.true_and]
 have l1:=ky hpa
 have l2:=ky hpb
 have n1:=tQ (l:=a)
 have n2:=tQ (l:=b)
 generalize aF a=xa at *
 generalize aF b=xb at *
 generalize lp a b=V at *
 generalize aX V=n at *
 have wa : IntKind.i64.wrap (a.length : Int)=(a.length : Int):=aa
 have wb : IntKind.i64.wrap (b.length : Int)=(b.length : Int):=aa
 refine Dp Tryz.func173 ?_
 intro C hP hN
 simp only [Tryz.f173] at hN ⊢
 refine Gz ?_
 refine WP.loopN [] 3 (fun k st=>st.t 0=.pv (aV a)∧st.t 1=.pv (aV b)∧st.t 4=.ptr 4 0∧st.h 4=some (.box [.pv (Z 0),.pv (Z 0),.pv (Z 0)] true false)∧st.t 5=.pv (B false)∧st.t 6=.ptr 6 0∧st.h 6=some (.box (uz V k) true false)∧st.t 7=.pv (aR xa)∧st.t 8=.pv (aR xb)∧st.t 9=.pv (Z k)) ?_ ?_
 ·simp [uz]
 rintro k st hk ⟨g0,g1,g4,hb4,g5,g6,hb6,g7,g8,g9⟩
 have e : ∀ x : Int,-2147483648≤x∧x≤2147483648→∀ n : Nat,n≤8→-17179869184≤x * n∧x * n≤17179869184:=fun x hx n hn=>by
  have:=bE (a:=x) (b:=(n : Int)) 2147483648 8 (by omega) (by omega) (by omega) (by omega)
  omega
 rcases gS hk with rfl|rfl|rfl|rfl
 all_goals (simp [uz] at hb6 g9)
 ·skip
  have hs1 : ∀ i : Nat,i≤8→-17179869184≤(av xa i).1 * b.length∧(av xa i).1 * b.length≤17179869184:=fun i hi=>by
   have h:=gr n1 i
   obtain ⟨q1,q2,q3⟩:=h
   exact e (av xa i).1 (by omega) _ h3
  have hs2 : ∀ i : Nat,i≤8→-17179869184≤(av xb i).1 * a.length∧(av xb i).1 * a.length≤17179869184:=fun i hi=>by
   have h:=gr n2 i
   obtain ⟨q1,q2,q3⟩:=h
   exact e (av xb i).1 (by omega) _ h2
  skip
  with_reducible repeat' (first|refine Sp.h ?_|((first|refine Wd ?_|refine Ss.h ?_|(refine Sb.h ?_ ?_ ?_<;>(try intro hgd)<;>try exact Xy))<;>simp -implicitDefEqProofs (maxSteps:=2000000) [hP,hN,g0,g1,g4,g5,hb4,hb6,g6,g7,g8,g9]<;>try refine Ya ?_)|refine X2 ?_ ?_|(refine Xd ?_ ?_<;>intro hcd<;>try exact Xx))
  refine WP.loopN [] a.length (fun i st=>st.t 0=.pv (aV a)∧st.t 1=.pv (aV b)∧st.t 4=.ptr 4 0∧st.h 4=some (.box [.pv (Z 0),.pv (Z 0),.pv (Z 0)] true false)∧st.t 5=.pv (B false)∧st.t 6=.ptr 6 0∧st.h 6=some (.box [.pv (Z ((av xa i).1 * b.length)),.pv (Z 0),.pv (Z 0)] true false)∧st.t 7=.pv (aR xa)∧st.t 8=.pv (aR xb)∧st.t 9=.pv (Z 0)∧st.t 10=.pv (Z i)) ?_ ?_
  ·simp [av,g0,g1,g4,hb4,g5,g6,hb6,g7,g8,g9]
  clear g0 g1 g4 hb4 g5 g6 hb6 g7 g8 g9
  rintro i st hi ⟨g0,g1,g4,hb4,g5,g6,hb6,g7,g8,g9,g10⟩
  by_cases hlt : i < a.length
  ·have hlx : i < xa.length:=by omega
   have hwr:=ak hlt (by omega)
   obtain ⟨p,hx⟩ : ∃ p,xa[i]?=some p:=⟨_,List.getElem?_eq_getElem hlx⟩
   have hxe : ∀ h,xa[i]'h=p:=fun h=>by rw [List.getElem?_eq_getElem h] at hx;exact Option.some.inj hx
   have hnx:=hs1 (i+1) (by omega)
   have hcu:=hs1 i (by omega)
   have hp:=dX (List.all_eq_true.1 n1 p (List.mem_of_getElem? hx))
   obtain ⟨p1,p2,p3⟩:=hp
   have hpm:=e p.1 (by omega) _ h3
   have hS : (av xa (i+1)).1 * (b.length : Int)=(av xa i).1 * b.length+p.1 * b.length:=by
    rw [← Int.add_mul];simp only [av,hx]
   rw [hS] at hnx ⊢
   have v1 : IntKind.i64.wrap (p.1 * b.length)=p.1 * b.length:=aa
   generalize (av xa i).1 * (b.length : Int)=y at *
   have v2 : IntKind.i64.wrap (y+p.1 * b.length)=y+p.1 * b.length:=aa
   with_reducible repeat' (first|refine Sp.h ?_|((first|refine Wd ?_|refine Ss.h ?_|(refine Sb.h ?_ ?_ ?_<;>(try intro hgd)<;>try exact Xy))<;>simp -implicitDefEqProofs (maxSteps:=2000000) [hP,hN,g0,g1,g4,hb4,g5,g6,hb6,g7,g8,g9,g10,hlt,hlx,hwr,hx,hxe,v1,v2,wb,l1,l2]<;>try refine Ya ?_)|refine X2 ?_ ?_|(refine Xd ?_ ?_<;>intro hcd<;>try exact Xx))
  have hin : i=a.length:=by omega
  subst hin
  have hT1:=hs1 a.length (by omega)
  generalize hy : (av xa a.length).1 * (b.length : Int)=Y at *
  skip
  with_reducible repeat' (first|refine Sp.h ?_|((first|refine Wd ?_|refine Ss.h ?_|(refine Sb.h ?_ ?_ ?_<;>(try intro hgd)<;>try exact Xy))<;>simp -implicitDefEqProofs (maxSteps:=2000000) [hP,hN,g0,g1,g4,g5,hb4,hb6,g6,g7,g8,g9,g10,l1,l2]<;>try refine Ya ?_)|refine X2 ?_ ?_|(refine Xd ?_ ?_<;>intro hcd<;>try exact Xx))
  refine WP.loopN [] b.length (fun i st=>st.t 0=.pv (aV a)∧st.t 1=.pv (aV b)∧st.t 4=.ptr 4 0∧st.h 4=some (.box [.pv (Z 0),.pv (Z 0),.pv (Z 0)] true false)∧st.t 5=.pv (B false)∧st.t 6=.ptr 6 0∧st.h 6=some (.box [.pv (Z (Y - (av xb i).1 * a.length)),.pv (Z 0),.pv (Z 0)] true false)∧st.t 7=.pv (aR xa)∧st.t 8=.pv (aR xb)∧st.t 9=.pv (Z 0)∧st.t 11=.pv (Z i)) ?_ ?_
  ·simp [av,g0,g1,g4,hb4,g5,g6,hb6,g7,g8,g9]
  clear g0 g1 g4 hb4 g5 g6 hb6 g7 g8 g9 g10
  rintro i st hi ⟨g0,g1,g4,hb4,g5,g6,hb6,g7,g8,g9,g11⟩
  by_cases hlt : i < b.length
  ·have hlx : i < xb.length:=by omega
   have hwr:=ak hlt (by omega)
   obtain ⟨p,hx⟩ : ∃ p,xb[i]?=some p:=⟨_,List.getElem?_eq_getElem hlx⟩
   have hxe : ∀ h,xb[i]'h=p:=fun h=>by rw [List.getElem?_eq_getElem h] at hx;exact Option.some.inj hx
   have hnx:=hs2 (i+1) (by omega)
   have hcu:=hs2 i (by omega)
   have hp:=dX (List.all_eq_true.1 n2 p (List.mem_of_getElem? hx))
   obtain ⟨p1,p2,p3⟩:=hp
   have hpm:=e p.1 (by omega) _ h2
   have hS : (av xb (i+1)).1 * (a.length : Int)=(av xb i).1 * a.length+p.1 * a.length:=by
    rw [← Int.add_mul];simp only [av,hx]
   rw [hS] at hnx ⊢
   have v1 : IntKind.i64.wrap (p.1 * a.length)=p.1 * a.length:=aa
   generalize (av xb i).1 * (a.length : Int)=y at *
   have v2 : IntKind.i64.wrap (Y - y - p.1 * a.length)=Y - (y+p.1 * a.length):=(aa (by omega) (by omega)).trans (by omega)
   exact Gy
  have hin : i=b.length:=by omega
  subst hin
  have hVk : Y - (av xb b.length).1 * (a.length : Int)=V.1:=by rw [hmv,← hy]
  rw [hVk] at hb6
  skip
  with_reducible repeat' (first|refine Sp.h ?_|((first|refine Wd ?_|refine Ss.h ?_|(refine Sb.h ?_ ?_ ?_<;>(try intro hgd)<;>try exact Xy))<;>simp -implicitDefEqProofs (maxSteps:=2000000) [hP,hN,g0,g1,g4,g5,hb4,hb6,g6,g7,g8,g9,g11,l1,l2,uz]<;>try refine Ya ?_)|refine X2 ?_ ?_|(refine Xd ?_ ?_<;>intro hcd<;>try exact Xx))
 ·skip
  have hs1 : ∀ i : Nat,i≤8→-17179869184≤(av xa i).2.1 * b.length∧(av xa i).2.1 * b.length≤17179869184:=fun i hi=>by
   have h:=gr n1 i
   obtain ⟨q1,q2,q3⟩:=h
   exact e (av xa i).2.1 (by omega) _ h3
  have hs2 : ∀ i : Nat,i≤8→-17179869184≤(av xb i).2.1 * a.length∧(av xb i).2.1 * a.length≤17179869184:=fun i hi=>by
   have h:=gr n2 i
   obtain ⟨q1,q2,q3⟩:=h
   exact e (av xb i).2.1 (by omega) _ h2
  skip
  with_reducible repeat' (first|refine Sp.h ?_|((first|refine Wd ?_|refine Ss.h ?_|(refine Sb.h ?_ ?_ ?_<;>(try intro hgd)<;>try exact Xy))<;>simp -implicitDefEqProofs (maxSteps:=2000000) [hP,hN,g0,g1,g4,g5,hb4,hb6,g6,g7,g8,g9]<;>try refine Ya ?_)|refine X2 ?_ ?_|(refine Xd ?_ ?_<;>intro hcd<;>try exact Xx))
  refine WP.loopN [] a.length (fun i st=>st.t 0=.pv (aV a)∧st.t 1=.pv (aV b)∧st.t 4=.ptr 4 0∧st.h 4=some (.box [.pv (Z 0),.pv (Z 0),.pv (Z 0)] true false)∧st.t 5=.pv (B false)∧st.t 6=.ptr 6 0∧st.h 6=some (.box [.pv (Z V.1),.pv (Z ((av xa i).2.1 * b.length)),.pv (Z 0)] true false)∧st.t 7=.pv (aR xa)∧st.t 8=.pv (aR xb)∧st.t 9=.pv (Z 1)∧st.t 10=.pv (Z i)) ?_ ?_
  ·simp [av,g0,g1,g4,hb4,g5,g6,hb6,g7,g8,g9]
  clear g0 g1 g4 hb4 g5 g6 hb6 g7 g8 g9
  rintro i st hi ⟨g0,g1,g4,hb4,g5,g6,hb6,g7,g8,g9,g10⟩
  by_cases hlt : i < a.length
  ·have hlx : i < xa.length:=by omega
   have hwr:=ak hlt (by omega)
   obtain ⟨p,hx⟩ : ∃ p,xa[i]?=some p:=⟨_,List.getElem?_eq_getElem hlx⟩
   have hxe : ∀ h,xa[i]'h=p:=fun h=>by rw [List.getElem?_eq_getElem h] at hx;exact Option.some.inj hx
   have hnx:=hs1 (i+1) (by omega)
   have hcu:=hs1 i (by omega)
   have hp:=dX (List.all_eq_true.1 n1 p (List.mem_of_getElem? hx))
   obtain ⟨p1,p2,p3⟩:=hp
   have hpm:=e p.2.1 (by omega) _ h3
   have hS : (av xa (i+1)).2.1 * (b.length : Int)=(av xa i).2.1 * b.length+p.2.1 * b.length:=by
    rw [← Int.add_mul];simp only [av,hx]
   rw [hS] at hnx ⊢
   have v1 : IntKind.i64.wrap (p.2.1 * b.length)=p.2.1 * b.length:=aa
   generalize (av xa i).2.1 * (b.length : Int)=y at *
   have v2 : IntKind.i64.wrap (y+p.2.1 * b.length)=y+p.2.1 * b.length:=aa
   with_reducible repeat' (first|refine Sp.h ?_|((first|refine Wd ?_|refine Ss.h ?_|(refine Sb.h ?_ ?_ ?_<;>(try intro hgd)<;>try exact Xy))<;>simp -implicitDefEqProofs (maxSteps:=2000000) [hP,hN,g0,g1,g4,hb4,g5,g6,hb6,g7,g8,g9,g10,hlt,hlx,hwr,hx,hxe,v1,v2,wb,l1,l2]<;>try refine Ya ?_)|refine X2 ?_ ?_|(refine Xd ?_ ?_<;>intro hcd<;>try exact Xx))
  have hin : i=a.length:=by omega
  subst hin
  have hT1:=hs1 a.length (by omega)
  generalize hy : (av xa a.length).2.1 * (b.length : Int)=Y at *
  skip
  with_reducible repeat' (first|refine Sp.h ?_|((first|refine Wd ?_|refine Ss.h ?_|(refine Sb.h ?_ ?_ ?_<;>(try intro hgd)<;>try exact Xy))<;>simp -implicitDefEqProofs (maxSteps:=2000000) [hP,hN,g0,g1,g4,g5,hb4,hb6,g6,g7,g8,g9,g10,l1,l2]<;>try refine Ya ?_)|refine X2 ?_ ?_|(refine Xd ?_ ?_<;>intro hcd<;>try exact Xx))
  refine WP.loopN [] b.length (fun i st=>st.t 0=.pv (aV a)∧st.t 1=.pv (aV b)∧st.t 4=.ptr 4 0∧st.h 4=some (.box [.pv (Z 0),.pv (Z 0),.pv (Z 0)] true false)∧st.t 5=.pv (B false)∧st.t 6=.ptr 6 0∧st.h 6=some (.box [.pv (Z V.1),.pv (Z (Y - (av xb i).2.1 * a.length)),.pv (Z 0)] true false)∧st.t 7=.pv (aR xa)∧st.t 8=.pv (aR xb)∧st.t 9=.pv (Z 1)∧st.t 11=.pv (Z i)) ?_ ?_
  ·simp [av,g0,g1,g4,hb4,g5,g6,hb6,g7,g8,g9]
  clear g0 g1 g4 hb4 g5 g6 hb6 g7 g8 g9 g10
  rintro i st hi ⟨g0,g1,g4,hb4,g5,g6,hb6,g7,g8,g9,g11⟩
  by_cases hlt : i < b.length
  ·have hlx : i < xb.length:=by omega
   have hwr:=ak hlt (by omega)
   obtain ⟨p,hx⟩ : ∃ p,xb[i]?=some p:=⟨_,List.getElem?_eq_getElem hlx⟩
   have hxe : ∀ h,xb[i]'h=p:=fun h=>by rw [List.getElem?_eq_getElem h] at hx;exact Option.some.inj hx
   have hnx:=hs2 (i+1) (by omega)
   have hcu:=hs2 i (by omega)
   have hp:=dX (List.all_eq_true.1 n2 p (List.mem_of_getElem? hx))
   obtain ⟨p1,p2,p3⟩:=hp
   have hpm:=e p.2.1 (by omega) _ h2
   have hS : (av xb (i+1)).2.1 * (a.length : Int)=(av xb i).2.1 * a.length+p.2.1 * a.length:=by
    rw [← Int.add_mul];simp only [av,hx]
   rw [hS] at hnx ⊢
   have v1 : IntKind.i64.wrap (p.2.1 * a.length)=p.2.1 * a.length:=aa
   generalize (av xb i).2.1 * (a.length : Int)=y at *
   have v2 : IntKind.i64.wrap (Y - y - p.2.1 * a.length)=Y - (y+p.2.1 * a.length):=(aa (by omega) (by omega)).trans (by omega)
   exact Gy
  have hin : i=b.length:=by omega
  subst hin
  have hVk : Y - (av xb b.length).2.1 * (a.length : Int)=V.2.1:=by rw [hmv,← hy]
  rw [hVk] at hb6
  skip
  with_reducible repeat' (first|refine Sp.h ?_|((first|refine Wd ?_|refine Ss.h ?_|(refine Sb.h ?_ ?_ ?_<;>(try intro hgd)<;>try exact Xy))<;>simp -implicitDefEqProofs (maxSteps:=2000000) [hP,hN,g0,g1,g4,g5,hb4,hb6,g6,g7,g8,g9,g11,l1,l2,uz]<;>try refine Ya ?_)|refine X2 ?_ ?_|(refine Xd ?_ ?_<;>intro hcd<;>try exact Xx))
 ·skip
  have hs1 : ∀ i : Nat,i≤8→-17179869184≤(av xa i).2.2 * b.length∧(av xa i).2.2 * b.length≤17179869184:=fun i hi=>by
   have h:=gr n1 i
   obtain ⟨q1,q2,q3⟩:=h
   exact e (av xa i).2.2 (by omega) _ h3
  have hs2 : ∀ i : Nat,i≤8→-17179869184≤(av xb i).2.2 * a.length∧(av xb i).2.2 * a.length≤17179869184:=fun i hi=>by
   have h:=gr n2 i
   obtain ⟨q1,q2,q3⟩:=h
   exact e (av xb i).2.2 (by omega) _ h2
  skip
  with_reducible repeat' (first|refine Sp.h ?_|((first|refine Wd ?_|refine Ss.h ?_|(refine Sb.h ?_ ?_ ?_<;>(try intro hgd)<;>try exact Xy))<;>simp -implicitDefEqProofs (maxSteps:=2000000) [hP,hN,g0,g1,g4,g5,hb4,hb6,g6,g7,g8,g9]<;>try refine Ya ?_)|refine X2 ?_ ?_|(refine Xd ?_ ?_<;>intro hcd<;>try exact Xx))
  refine WP.loopN [] a.length (fun i st=>st.t 0=.pv (aV a)∧st.t 1=.pv (aV b)∧st.t 4=.ptr 4 0∧st.h 4=some (.box [.pv (Z 0),.pv (Z 0),.pv (Z 0)] true false)∧st.t 5=.pv (B false)∧st.t 6=.ptr 6 0∧st.h 6=some (.box [.pv (Z V.1),.pv (Z V.2.1),.pv (Z ((av xa i).2.2 * b.length))] true false)∧st.t 7=.pv (aR xa)∧st.t 8=.pv (aR xb)∧st.t 9=.pv (Z 2)∧st.t 10=.pv (Z i)) ?_ ?_
  ·simp [av,g0,g1,g4,hb4,g5,g6,hb6,g7,g8,g9]
  clear g0 g1 g4 hb4 g5 g6 hb6 g7 g8 g9
  rintro i st hi ⟨g0,g1,g4,hb4,g5,g6,hb6,g7,g8,g9,g10⟩
  by_cases hlt : i < a.length
  ·have hlx : i < xa.length:=by omega
   have hwr:=ak hlt (by omega)
   obtain ⟨p,hx⟩ : ∃ p,xa[i]?=some p:=⟨_,List.getElem?_eq_getElem hlx⟩
   have hxe : ∀ h,xa[i]'h=p:=fun h=>by rw [List.getElem?_eq_getElem h] at hx;exact Option.some.inj hx
   have hnx:=hs1 (i+1) (by omega)
   have hcu:=hs1 i (by omega)
   have hp:=dX (List.all_eq_true.1 n1 p (List.mem_of_getElem? hx))
   obtain ⟨p1,p2,p3⟩:=hp
   have hpm:=e p.2.2 (by omega) _ h3
   have hS : (av xa (i+1)).2.2 * (b.length : Int)=(av xa i).2.2 * b.length+p.2.2 * b.length:=by
    rw [← Int.add_mul];simp only [av,hx]
   rw [hS] at hnx ⊢
   have v1 : IntKind.i64.wrap (p.2.2 * b.length)=p.2.2 * b.length:=aa
   generalize (av xa i).2.2 * (b.length : Int)=y at *
   have v2 : IntKind.i64.wrap (y+p.2.2 * b.length)=y+p.2.2 * b.length:=aa
   with_reducible repeat' (first|refine Sp.h ?_|((first|refine Wd ?_|refine Ss.h ?_|(refine Sb.h ?_ ?_ ?_<;>(try intro hgd)<;>try exact Xy))<;>simp -implicitDefEqProofs (maxSteps:=2000000) [hP,hN,g0,g1,g4,hb4,g5,g6,hb6,g7,g8,g9,g10,hlt,hlx,hwr,hx,hxe,v1,v2,wb,l1,l2]<;>try refine Ya ?_)|refine X2 ?_ ?_|(refine Xd ?_ ?_<;>intro hcd<;>try exact Xx))
  have hin : i=a.length:=by omega
  subst hin
  have hT1:=hs1 a.length (by omega)
  generalize hy : (av xa a.length).2.2 * (b.length : Int)=Y at *
  skip
  with_reducible repeat' (first|refine Sp.h ?_|((first|refine Wd ?_|refine Ss.h ?_|(refine Sb.h ?_ ?_ ?_<;>(try intro hgd)<;>try exact Xy))<;>simp -implicitDefEqProofs (maxSteps:=2000000) [hP,hN,g0,g1,g4,g5,hb4,hb6,g6,g7,g8,g9,g10,l1,l2]<;>try refine Ya ?_)|refine X2 ?_ ?_|(refine Xd ?_ ?_<;>intro hcd<;>try exact Xx))
  refine WP.loopN [] b.length (fun i st=>st.t 0=.pv (aV a)∧st.t 1=.pv (aV b)∧st.t 4=.ptr 4 0∧st.h 4=some (.box [.pv (Z 0),.pv (Z 0),.pv (Z 0)] true false)∧st.t 5=.pv (B false)∧st.t 6=.ptr 6 0∧st.h 6=some (.box [.pv (Z V.1),.pv (Z V.2.1),.pv (Z (Y - (av xb i).2.2 * a.length))] true false)∧st.t 7=.pv (aR xa)∧st.t 8=.pv (aR xb)∧st.t 9=.pv (Z 2)∧st.t 11=.pv (Z i)) ?_ ?_
  ·simp [av,g0,g1,g4,hb4,g5,g6,hb6,g7,g8,g9]
  clear g0 g1 g4 hb4 g5 g6 hb6 g7 g8 g9 g10
  rintro i st hi ⟨g0,g1,g4,hb4,g5,g6,hb6,g7,g8,g9,g11⟩
  by_cases hlt : i < b.length
  ·have hlx : i < xb.length:=by omega
   have hwr:=ak hlt (by omega)
   obtain ⟨p,hx⟩ : ∃ p,xb[i]?=some p:=⟨_,List.getElem?_eq_getElem hlx⟩
   have hxe : ∀ h,xb[i]'h=p:=fun h=>by rw [List.getElem?_eq_getElem h] at hx;exact Option.some.inj hx
   have hnx:=hs2 (i+1) (by omega)
   have hcu:=hs2 i (by omega)
   have hp:=dX (List.all_eq_true.1 n2 p (List.mem_of_getElem? hx))
   obtain ⟨p1,p2,p3⟩:=hp
   have hpm:=e p.2.2 (by omega) _ h2
   have hS : (av xb (i+1)).2.2 * (a.length : Int)=(av xb i).2.2 * a.length+p.2.2 * a.length:=by
    rw [← Int.add_mul];simp only [av,hx]
   rw [hS] at hnx ⊢
   have v1 : IntKind.i64.wrap (p.2.2 * a.length)=p.2.2 * a.length:=aa
   generalize (av xb i).2.2 * (a.length : Int)=y at *
   have v2 : IntKind.i64.wrap (Y - y - p.2.2 * a.length)=Y - (y+p.2.2 * a.length):=(aa (by omega) (by omega)).trans (by omega)
   exact Gy
  have hin : i=b.length:=by omega
  subst hin
  have hVk : Y - (av xb b.length).2.2 * (a.length : Int)=V.2.2:=by rw [hmv,← hy]
  rw [hVk] at hb6
  skip
  with_reducible repeat' (first|refine Sp.h ?_|((first|refine Wd ?_|refine Ss.h ?_|(refine Sb.h ?_ ?_ ?_<;>(try intro hgd)<;>try exact Xy))<;>simp -implicitDefEqProofs (maxSteps:=2000000) [hP,hN,g0,g1,g4,g5,hb4,hb6,g6,g7,g8,g9,g11,l1,l2,uz]<;>try refine Ya ?_)|refine X2 ?_ ?_|(refine Xd ?_ ?_<;>intro hcd<;>try exact Xx))
 ·skip
  with_reducible repeat' (first|refine Sp.h ?_|((first|refine Wd ?_|refine Ss.h ?_|refine Sc.h (c5) ?_|(refine Sb.h ?_ ?_ ?_<;>(try intro hgd)<;>try exact Xy))<;>simp -implicitDefEqProofs (maxSteps:=2000000) [hP,hN,g0,g1,g4,hb4,g5,g6,hb6,g7,g8,g9]<;>try refine Ya ?_)|refine X2 ?_ ?_|(refine Xd ?_ ?_<;>intro hcd<;>try exact Xx))
end Go.Ab
namespace Go.Ab
open Go.Proofs
theorem tA {n : Nat} (h : n≤100000000000) (m : Nat) (hm : m≤10) : (n+m) * 24≤140737488355328:=by omega
theorem EE {α : Type} {p : α→Bool} {l : List α} {k : Nat} {v : α} (h : l[k]?=some v) : (l.take (k+1)).filter p=(l.take k).filter p++(if p v=true then [v] else []):=by
 rw [List.take_add_one,h,List.filter_append]
 simp only [Option.toList_some,List.filter_cons,List.filter_nil]
theorem Ib (a : List au) (ra : Int) (b : List au) (rb : Int) (hints : List Vc) (ha : a.length≤9223372036854775807) (hb : b.length≤9223372036854775807) (hl : hints.length≤100000000000) : ab Tryz.prog 134 [.pv (aV a),.pv (Z ra),.pv (aV b),.pv (Z rb),.pv (aR hints)] [] [] (.pv (aR (mD a ra b rb hints))):=by
 have ca:=qj a ha
 have cb:=qj b hb
 have cra:=uA ra
 have crb:=uA rb
 have hcl : mD a ra b rb hints=if vO a ra b rb then hints.filter aW++((if oF a b then [mC a b] else [])++(yJ++(if aW (lq a ra b rb) then [lq a ra b rb] else []))) else []:=rfl
 have hcb : vO a ra b rb=(aC a && aC b && bd ra 0 1048576 && bd rb 0 1048576):=rfl
 rw [hcl,hcb]
 cases hpa : aC a with
 |false=>
  rw [hpa] at ca
  refine Dp Tryz.func134 ?_
  intro C hP hN
  simp only [Tryz.f134] at hN ⊢
  exact Gy
 |true=>
 rw [hpa] at ca
 cases hpb : aC b with
 |false=>
  rw [hpb] at cb
  refine Dp Tryz.func134 ?_
  intro C hP hN
  simp only [Tryz.f134] at hN ⊢
  exact Gy
 |true=>
 rw [hpb] at cb
 cases hra : bd ra 0 1048576 with
 |false=>
  rw [hra] at cra
  refine Dp Tryz.func134 ?_
  intro C hP hN
  simp only [Tryz.f134] at hN ⊢
  exact Gy
 |true=>
 rw [hra] at cra
 cases hrb : bd rb 0 1048576 with
 |false=>
  rw [hrb] at crb
  refine Dp Tryz.func134 ?_
  intro C hP hN
  simp only [Tryz.f134] at hN ⊢
  exact Gy
 |true=>
 rw [hrb] at crb
 simp only [Bool.and_self,if_true]
 have c1:=Nv a ha
 have c2:=Nv b hb
 have hla:=(de hpa).2.1
 have hlb:=(de hpb).2.1
 have hca:=ky hpa
 have hcb:=ky hpb
 simp only [bd,Bool.and_eq_true,decide_eq_true_eq] at hra hrb
 have hw : IntKind.i64.wrap (ra+rb)=ra+rb:=aa
 have c3:=G5 (aF a) (aF b) (ra+rb) 64 (by omega) (by omega)
 have hnn : (iK (aF a) (aF b) (ra+rb) 64).2.n=lq a ra b rb:=rfl
 rw [← hnn]
 generalize iK (aF a) (aF b) (ra+rb) 64=R at *
 have cm:=Ia a b ha hb
 have cax:=Iy
 have hax : yJ.length=6:=rfl
 have hok:=yP yJ
 generalize yJ=AX at *
 generalize aF a=xa at *
 generalize aF b=xb at *
 have cu:=uf R.2.n
 rw [nB] at cu
 have hfl : ∀ i : Nat,((hints.take i).filter aW).length≤100000000000:=fun i=>Nat.le_trans (List.length_filter_le _ _) (by rw [List.length_take];omega)
 refine Dp Tryz.func134 ?_
 intro C hP hN
 simp only [Tryz.f134] at hN ⊢
 with_reducible repeat' (first|refine Sp.h ?_|((first|refine Wh [11] ?_|refine Ss.h ?_|refine Sc.h (ca) ?_|refine Sc.h (cb) ?_|refine Sc.h (cra) ?_|refine Sc.h (crb) ?_|(refine Sb.h ?_ ?_ ?_<;>(try intro hgd)<;>try exact Xy))<;>simp -implicitDefEqProofs (maxSteps:=2000000) [hP,hN])|refine X2 ?_ ?_|(refine Xd ?_ ?_<;>intro hcd<;>try exact Xx))
 refine WP.loopN [] hints.length (fun i st=>st.t 0=.pv (aV a)∧st.t 1=.pv (Z ra)∧st.t 2=.pv (aV b)∧st.t 3=.pv (Z rb)∧st.t 4=.pv (aR hints)∧st.t 12=.pv (Z i)∧st.t 11=.arr 11 ((hints.take i).filter aW).length∧st.h 11=some (.row 77 3 (((hints.take i).filter aW).map aH) 0)∧st.h 13=none∧st.h 15=none) (by simp) ?_
 rintro i st hi ⟨g0,g1,g2,g3,g4,g12,g11,hb11,hb13,hb15⟩
 by_cases hlt : i < hints.length
 ·have hwr:=ak hlt (by omega)
  generalize hxe : hints[i]=v at *
  have hx : hints[i]?=some v:=by rw [List.getElem?_eq_getElem hlt,hxe]
  have cv:=uf v
  rw [nB] at cv
  have hs:=EE (p:=aW) hx
  rw [hs]
  have hPl:=hfl i
  generalize (hints.take i).filter aW=P at *
  cases hu : aW v with
  |true=>
   rw [hu] at cv
   simp only [if_true]
   have k1 : (P.length+1) * 24≤140737488355328:=by omega
   have k2 : P.length≤9223372036854775806:=by omega
   skip
   exact Gy
  |false=>
   rw [hu] at cv
   simp only [Bool.false_eq_true,if_false,List.append_nil]
   exact Gy
 ·have hin : i=hints.length:=by omega
  subst hin
  rw [List.take_length] at g11 hb11
  have hPl:=hfl hints.length
  rw [List.take_length] at hPl
  generalize hints.filter aW=P at *
  have k1 : (P.length+1) * 24≤140737488355328:=by omega
  have k2 : P.length≤9223372036854775806:=by omega
  have z0 : P.length≤9223372036854775799:=Nat.le_trans hPl (by decide)
  have z1 : P.length≤9223372036854775800:=Nat.le_trans hPl (by decide)
  have z2 : P.length≤9223372036854775801:=Nat.le_trans hPl (by decide)
  have k3 : (P.length+1+1) * 24≤140737488355328:=tA hPl 2 (by decide)
  have k4 : (P.length+6) * 24≤140737488355328:=tA hPl 6 (by decide)
  have k5 : (P.length+6+1) * 24≤140737488355328:=tA hPl 7 (by decide)
  have k6 : (P.length+1+6) * 24≤140737488355328:=tA hPl 7 (by decide)
  have k7 : (P.length+1+6+1) * 24≤140737488355328:=tA hPl 8 (by decide)
  cases hmb : oF a b with
  |true=>
   rw [hmb] at cm
   generalize mC a b=m at *
   simp only [if_true]
   cases hu : aW R.2.n with
   |true=>
    rw [hu] at cu
    simp only [if_true]
    skip
    with_reducible repeat' (first|refine Sp.h ?_|((first|refine Ss.h ?_|refine Sc.h (cm) ?_|refine Sc.h (cax) ?_|refine Sc.h (c1) ?_|refine Sc.h (c2) ?_|refine Sc.h (c3) ?_|refine Sc.h (cu) ?_|(refine Sb.h ?_ ?_ ?_<;>(try intro hgd)<;>try exact Xy))<;>simp -implicitDefEqProofs (maxSteps:=2000000) [hP,hN,g0,g1,g2,g3,g4,g12,g11,hb11,hb13,hb15,k1,k2,k6,k7,hw,hax,hok,z0,z1,z2])|refine X2 ?_ ?_|(refine Xd ?_ ?_<;>intro hcd<;>try exact Xx))
   |false=>
    rw [hu] at cu
    simp only [Bool.false_eq_true,if_false]
    with_reducible repeat' (first|refine Sp.h ?_|((first|refine Ss.h ?_|refine Sc.h (cm) ?_|refine Sc.h (cax) ?_|refine Sc.h (c1) ?_|refine Sc.h (c2) ?_|refine Sc.h (c3) ?_|refine Sc.h (cu) ?_|(refine Sb.h ?_ ?_ ?_<;>(try intro hgd)<;>try exact Xy))<;>simp -implicitDefEqProofs (maxSteps:=2000000) [hP,hN,g0,g1,g2,g3,g4,g12,g11,hb11,hb13,hb15,k1,k2,k6,k7,hw,hax,hok,z0,z1,z2])|refine X2 ?_ ?_|(refine Xd ?_ ?_<;>intro hcd<;>try exact Xx))
  |false=>
   rw [hmb] at cm
   generalize mC a b=m at *
   simp only [Bool.false_eq_true,if_false]
   cases hu : aW R.2.n with
   |true=>
    rw [hu] at cu
    simp only [if_true]
    skip
    with_reducible repeat' (first|refine Sp.h ?_|((first|refine Ss.h ?_|refine Sc.h (cm) ?_|refine Sc.h (cax) ?_|refine Sc.h (c1) ?_|refine Sc.h (c2) ?_|refine Sc.h (c3) ?_|refine Sc.h (cu) ?_|(refine Sb.h ?_ ?_ ?_<;>(try intro hgd)<;>try exact Xy))<;>simp -implicitDefEqProofs (maxSteps:=2000000) [hP,hN,g0,g1,g2,g3,g4,g12,g11,hb11,hb13,hb15,k1,k2,k4,k5,hw,hax,hok,z0,z1,z2])|refine X2 ?_ ?_|(refine Xd ?_ ?_<;>intro hcd<;>try exact Xx))
   |false=>
    rw [hu] at cu
    simp only [Bool.false_eq_true,if_false]
    with_reducible repeat' (first|refine Sp.h ?_|((first|refine Ss.h ?_|refine Sc.h (cm) ?_|refine Sc.h (cax) ?_|refine Sc.h (c1) ?_|refine Sc.h (c2) ?_|refine Sc.h (c3) ?_|refine Sc.h (cu) ?_|(refine Sb.h ?_ ?_ ?_<;>(try intro hgd)<;>try exact Xy))<;>simp -implicitDefEqProofs (maxSteps:=2000000) [hP,hN,g0,g1,g2,g3,g4,g12,g11,hb11,hb13,hb15,k1,k2,k4,k5,hw,hax,hok,z0,z1,z2])|refine X2 ?_ ?_|(refine Xd ?_ ?_<;>intro hcd<;>try exact Xx))
end Go.Ab
namespace Go.Ab
open Go.Proofs
theorem Bp {js : List J} {i : Nat} {j : J} (h : bb js i j=0) : j.lo≤j.hi:=by
 unfold bb at h
 repeat' split at h
 all_goals (try (cases h;done))
 all_goals omega
theorem yi {js : List J} {ms : List Ms} (h : ax js ms=0) : ∀ (i : Nat) j,js[i]?=some j→j.lo≤j.hi:=by
 unfold ax at h
 split at h
 ·cases h
 ·split at h
  ·rename_i hne;exact absurd h hne
  ·rename_i he
   intro i j hij
   have he' : fP js=0:=by simpa using he
   rw [kH] at he'
   by_cases hz : bb js i j=0
   ·exact Bp hz
   ·exfalso
    cases hf : (js.mapIdx (bb js)).find? (fun e=>e !=0) with
    |none=>
     rw [List.find?_eq_none] at hf
     have hm : bb js i j ∈ js.mapIdx (bb js):=by
      rw [List.mem_mapIdx]
      obtain ⟨h1,h2⟩:=List.getElem?_eq_some_iff.1 hij
      exact ⟨i,h1,by rw [h2]⟩
     exact hf _ hm (by simpa using hz)
    |some e=>
     rw [hf] at he'
     have:=List.find?_some hf
     simp only at he'
     rw [he'] at this
     simp at this
def nD (js : List J) (n : Nat) : Int:=((oL js)[n]?).getD 0
theorem CK (js : List J) : nD js 0=-1:=by
 have h:=oM (js:=js) (k:=0) js.length (Nat.zero_le _) (Nat.le_refl _) 0 (Nat.le_refl _)
 have : (oL js)[0]?=some (-1):=by rw [oL,h];rfl
 simp [nD,this]
theorem CM {js : List J} (hj : oK js) {n : Nat} {j : J} (h : js[n]?=some j) : nD js (n+1)=if j.lo=j.hi then nD js (j.parent+1).toNat else (n : Int):=by
 have:=Ex h (hj n j h)
 simp [nD,this]
def ki (js : List J) (l : Int) (k : Nat) : Prop:=gz (dB js 11 l) k=true∧kL js k=true
theorem r4 {xs : List Int} {x : Int} : gz xs x=true↔x ∈ xs:=by
 simp [gz]
theorem Bq (js : List J) : dB js 11 (-1)=[]:=by simp [dB]
theorem ve {js : List J} (hj : oK js) (hl : js.length≤10) {n : Nat} {j : J} (h : js[n]?=some j) (k : Nat) : ki js n k↔ki js j.parent k∨(k=n∧kL js n=true):=by
 have hlt : n < js.length:=(List.getElem?_eq_some_iff.1 h).1
 have hst:=xc hj hl (k:=n) (by omega) (by omega)
 have hp : m7 js n=j.parent:=by simp [m7,h]
 rw [hp] at hst
 simp only [ki,hst,r4,List.mem_append,List.mem_singleton]
 constructor
 ·rintro ⟨h1|h1,h2⟩
  ·exact .inl ⟨h1,h2⟩
  ·have : k=n:=by omega
   subst this;exact .inr ⟨rfl,h2⟩
 ·rintro (⟨h1,h2⟩|⟨rfl,h2⟩)
  ·exact ⟨.inl h1,h2⟩
  ·exact ⟨.inr rfl,h2⟩
theorem FC {js : List J} {n : Nat} {j : J} (h : js[n]?=some j) (hle : j.lo≤j.hi) : kL js n=!decide (j.lo=j.hi):=by
 simp only [kL,h]
 by_cases he : j.lo=j.hi
 ·simp [he]
 ·simp [he];omega
theorem xd {js : List J} (hj : oK js) (hl : js.length≤10) (hle : ∀ (i : Nat) j,js[i]?=some j→j.lo≤j.hi) : ∀ (m n : Nat),n≤m→n≤js.length→(nD js n=-1∧∀ k,¬ ki js ((n : Int) - 1) k)∨(∃ c : Nat,nD js n=c∧c < js.length∧ki js ((n : Int) - 1) c∧∀ k,ki js ((n : Int) - 1) k↔ki js c k)
 |m,0,_,_=>by
  left
  refine ⟨CK js,fun k h=>?_⟩
  have:=h.1
  rw [show ((0 : Nat) : Int) - 1=-1 by omega,Bq] at this
  cases this
 |0,n+1,h,_=>by omega
 |m+1,n+1,hm,hn=>by
  have hx : js[n]?=some (js[n]'(by omega)):=List.getElem?_eq_getElem _
  generalize js[n]'(by omega)=j at hx
  have hok:=hj n j hx
  unfold uo at hok
  have hs:=CM hj hx
  have hmv:=FC hx (hle n j hx)
  rw [show ((n+1 : Nat) : Int) - 1=(n : Int) by omega]
  by_cases he : j.lo=j.hi
  ·rw [if_pos he] at hs
   simp only [he,decide_true,Bool.not_true] at hmv
   have hiff : ∀ k,ki js n k↔ki js j.parent k:=fun k=>by
    rw [ve hj hl hx k,hmv];simp
   have ih:=xd hj hl hle m (j.parent+1).toNat (by omega) (by omega)
   rw [show (((j.parent+1).toNat : Nat) : Int) - 1=j.parent by omega,← hs] at ih
   rcases ih with ⟨h1,h2⟩|⟨c,h1,h2,h3,h4⟩
   ·exact .inl ⟨h1,fun k hk=>h2 k ((hiff k).1 hk)⟩
   ·exact .inr ⟨c,h1,h2,(hiff c).2 h3,fun k=>(hiff k).trans (h4 k)⟩
  ·rw [if_neg he] at hs
   simp only [he,decide_false,Bool.not_false] at hmv
   exact .inr ⟨n,hs,by omega,(ve hj hl hx n).2 (.inr ⟨rfl,hmv⟩),fun k=>Iff.rfl⟩
theorem xe {js : List J} (hj : oK js) : ∀ (f : Nat) (l : Int),-1≤l→l < js.length→∀ x ∈ dB js f l,0≤x∧x≤l
 |0,l,_,_,x,hx=>by cases hx
 |f+1,l,h0,h1,x,hx=>by
  rw [dB] at hx
  split at hx
  ·cases hx
  ·obtain ⟨j,_,hp,a,b⟩:=qX hj (k:=l) (by omega) h1
   rcases List.mem_append.1 hx with hx|hx
   ·have:=xe hj f (m7 js l) (by omega) (by omega) x hx;omega
   ·rw [List.mem_singleton] at hx;omega
theorem yS {js : List J} {a b : Int} : pg js a b=true↔∀ k,k < js.length→kL js k=true→(gz (dB js 11 a) k=gz (dB js 11 b) k):=by
 simp only [pg,lg,List.all_eq_true,List.mem_map,List.mem_filter,List.mem_range]
 constructor
 ·intro h k hk hm
  cases hc : (gz (dB js 11 a) k !=gz (dB js 11 b) k) with
  |false=>simpa using hc
  |true=>
   have:=h (k : Int) ⟨k,⟨hk,hc⟩,rfl⟩
   rw [Int.toNat_natCast,hm] at this
   cases this
 ·rintro h x ⟨k,⟨hk,hc⟩,rfl⟩
  cases hm : kL js k with
  |false=>rw [show (Int.ofNat k).toNat=k from rfl,hm];rfl
  |true=>
   have:=h k hk hm
   simp only [Bo,this,bne_self_eq_false] at hc
   cases hc
theorem DP {js : List J} {k : Nat} (h : kL js k=true) : k < js.length:=by
 unfold kL at h
 split at h
 ·rename_i j hj;exact (List.getElem?_eq_some_iff.1 hj).1
 ·cases h
theorem CN {js : List J} {ms : List Ms} (h0 : ax js ms=0) {a b : Int} (ha : cK js.length a=true) (hb : cK js.length b=true) : (nD js (a+1).toNat==nD js (b+1).toNat)=pg js a b:=by
 obtain ⟨hj,hl,_⟩:=mG h0
 have hle:=yi h0
 simp only [cK,Bool.and_eq_true,decide_eq_true_eq] at ha hb
 have ca:=xd hj hl hle _ (a+1).toNat (Nat.le_refl _) (by omega)
 have cb:=xd hj hl hle _ (b+1).toNat (Nat.le_refl _) (by omega)
 rw [show (((a+1).toNat : Nat) : Int) - 1=a by omega] at ca
 rw [show (((b+1).toNat : Nat) : Int) - 1=b by omega] at cb
 have e : (nD js (a+1).toNat==nD js (b+1).toNat)=true↔pg js a b=true:=by
  rw [yS,beq_iff_eq]
  have hR : (∀ k,k < js.length→kL js k=true→(gz (dB js 11 a) k=gz (dB js 11 b) k))↔∀ k,ki js a k↔ki js b k:=by
   constructor
   ·intro h k
    simp only [ki]
    constructor
    ·rintro ⟨h1,h2⟩;rw [h k (DP h2) h2] at h1;exact ⟨h1,h2⟩
    ·rintro ⟨h1,h2⟩;rw [← h k (DP h2) h2] at h1;exact ⟨h1,h2⟩
   ·intro h k hk hm
    have:=h k
    simp only [ki,hm,and_true] at this
    cases h1 : gz (dB js 11 a) k<;>cases h2 : gz (dB js 11 b) k<;>simp_all
  rw [hR]
  rcases ca with ⟨a1,a2⟩|⟨c,a1,a2,a3,a4⟩<;>rcases cb with ⟨b1,b2⟩|⟨d,b1,b2,b3,b4⟩<;>rw [a1,b1]
  ·exact ⟨fun _ k=>⟨fun h=>absurd h (a2 k),fun h=>absurd h (b2 k)⟩,fun _=>rfl⟩
  ·exact ⟨fun h=>by omega,fun h=>absurd ((h d).2 b3) (a2 d)⟩
  ·exact ⟨fun h=>by omega,fun h=>absurd ((h c).1 a3) (b2 c)⟩
  ·constructor
   ·intro h k
    have : c=d:=by omega
    subst this
    rw [a4,b4]
   ·intro h
    have h1:=(h c).1 a3
    have h2:=(h d).2 b3
    rw [b4] at h1
    rw [a4] at h2
    have k1:=xe hj 11 d (by omega) (by omega) c (r4.1 h1.1)
    have k2:=xe hj 11 c (by omega) (by omega) d (r4.1 h2.1)
    omega
 cases h1 : (nD js (a+1).toNat==nD js (b+1).toNat)<;>cases h2 : pg js a b<;>simp_all
theorem CO {s : Sce} (h0 : az s=0) {a b : Sh} (ha : cK s.js.length a.link=true) (hb : cK s.js.length b.link=true) : z8 s a b=(!(a.link==b.link) && !pg s.js a.link b.link && !lD s a.link b.link):=by
 have hr : ax s.js s.ms=0:=by
  unfold az at h0
  split at h0
  ·rename_i h;exact absurd h0 h
  ·rename_i h;simpa using h
 have e:=CN hr ha hb
 have hrig : FF (oL s.js) a b=pg s.js a.link b.link:=e
 unfold z8
 rw [hrig]
 by_cases he : a.link=b.link
 ·have : pg s.js a.link b.link=true:=by
   rw [yS,he];exact fun _ _ _=>rfl
  rw [this]
  simp
 ·have : (a.link==b.link)=false:=by simp [he]
  rw [this]
  simp
theorem H1 (s : Sce) (hs : ScL s) : ab Tryz.prog 133 [.pv (eN s)] [] [] (.pv (.sl ((di s).map vR))):=by
 have cc:=yR s hs
 have csk:=fun a b=>H0 s a b hs.sks
 by_cases h0 : az s=0
 case neg=>
  have h0' : (az s !=0)=true:=by simp [h0]
  have hf : di s=[]:=by simp [di,h0]
  rw [hf]
  generalize az s=r at *
  refine Dp Tryz.func133 ?_
  intro C hP hN
  simp only [Tryz.f133] at hN ⊢
  exact Gy
 have hr : ax s.js s.ms=0:=by
  unfold az at h0
  split at h0
  ·rename_i h;exact absurd h0 h
  ·rename_i h;simpa using h
 obtain ⟨v1,v2,v3,v4,v5,v6,v7⟩:=mH h0
 have crg:=fun a b=>HZ s.js s.ms a b v2 hs.ms hr
 have hpb:=fun a b=>CO h0 (a:=a) (b:=b)
 have hf : di s=j5 s s.shs.length:=by simp [di,h0]
 rw [hf]
 rw [h0] at cc
 have nL:=ur s
 have iL:=uq s
 refine Dp Tryz.func133 ?_
 intro C hP hN
 simp only [Tryz.f133] at hN ⊢
 with_reducible repeat' (first|refine Sp.h ?_|((first|refine Wh [3] ?_|refine Wi [3] ?_|refine Ss.h ?_|refine Sc.h (cc) ?_|(refine Sb.h ?_ ?_ ?_<;>(try intro hgd)<;>try exact Xy))<;>simp -implicitDefEqProofs (maxSteps:=2000000) [hP,hN]<;>try refine Ya ?_)|refine X2 ?_ ?_|(refine Xd ?_ ?_<;>intro hcd<;>try exact Xx))
 refine WP.loopN [] s.shs.length (fun i st=>st.t 1=.ptr 1 0∧st.h 1=some (.box [.pv (.sl (s.js.map bT)),.pv (.sl (s.ms.map bY)),.pv (.sl (s.shs.map du)),.pv (.sl (s.sks.map aJ))] true false)∧st.t 4=.pv (Z i)∧st.t 3=.arr 3 (j5 s i).length∧st.h 3=some (.row 205 2 ((j5 s i).map vR) 0)) (by simp [j5]) ?_
 rintro i st hi ⟨g1,hb1,g4,g3,hb3⟩
 by_cases hlt : i < s.shs.length
 ·have hw:=ak hlt (by omega)
  have hlt' : (i : Int) < (s.shs.length : Int):=by omega
  generalize hxe : s.shs[i]=a at *
  have hx : s.shs[i]?=some a:=by rw [List.getElem?_eq_getElem hlt,hxe]
  have hla:=(v6 a (List.mem_of_getElem? hx)).1
  have hsucc : j5 s (i+1)=j5 s i++lh s i s.shs.length:=rfl
  have nLi:=nL i
  have hnn : i * s.shs.length≤24 * 24:=Nat.mul_le_mul (by omega) (by omega)
  have hI0:=yU s i (i+1) (Nat.le_refl _)
  refine Gz ?_
  refine WP.loopN [] (s.shs.length - (i+1)) (fun q st=>st.t 1=.ptr 1 0∧st.h 1=some (.box [.pv (.sl (s.js.map bT)),.pv (.sl (s.ms.map bY)),.pv (.sl (s.shs.map du)),.pv (.sl (s.sks.map aJ))] true false)∧st.t 4=.pv (Z i)∧st.t 5=.pv (Z ((i+1+q : Nat) : Int))∧st.t 3=.arr 3 (j5 s i++lh s i (i+1+q)).length∧st.h 3=some (.row 205 2 ((j5 s i++lh s i (i+1+q)).map vR) 0)) (by simp [g1,hb1,g4,g3,hb3,hI0]) ?_
  clear g1 hb1 g4 g3 hb3
  rintro q st hq ⟨g1,hb1,g4,g5,g3,hb3⟩
  obtain ⟨k,hk⟩ : ∃ k,k=i+1+q:=⟨_,rfl⟩
  have hk2 : i+1+(q+1)=k+1:=by omega
  rw [← hk] at g5 g3 hb3
  rw [hk2]
  have hIk : lh s i (k+1)=lh s i k++(if i < k∧gF s i k=true then [(i,k)] else []):=rfl
  have hlk:=iL i k
  by_cases hkl : k < s.shs.length
  ·have hkl' : (k : Int) < (s.shs.length : Int):=by omega
   have hwk : IntKind.i64.wrap ((k : Int)+1)=(k : Int)+1:=aa
   generalize hye : s.shs[k]=b at *
   have hy : s.shs[k]?=some b:=by rw [List.getElem?_eq_getElem hkl,hye]
   have hlb:=(v6 b (List.mem_of_getElem? hy)).1
   have hpa : gF s i k=(!(a.link==b.link) && !pg s.js a.link b.link && !lD s a.link b.link):=by
    simp only [gF,hx,hy];exact hpb a b hla hlb
   have cs:=csk a.link b.link
   have cg:=crg a.link b.link hla hlb
   have hik : i < k:=by omega
   have hlen : (j5 s i++lh s i k).length≤1000:=by simp only [List.length_append];omega
   generalize hPdef : j5 s i++lh s i k=P at *
   have hq2 : q < s.shs.length - (i+1):=by omega
   have hPs : j5 s i++lh s i (k+1)=P++(if gF s i k=true then [(i,k)] else []):=by
    rw [hIk,← List.append_assoc,hPdef]
    simp [hik]
   rw [hPs]
   generalize lD s a.link b.link=sk at *
   generalize pg s.js a.link b.link=rg at *
   by_cases hab : a.link=b.link
   ·have hpa' : gF s i k=false:=by rw [hpa,hab];simp
    rw [hpa']
    with_reducible repeat' (first|refine Sp.h ?_|((first|refine Wd ?_|refine Ss.h ?_|(refine Sb.h ?_ ?_ ?_<;>(try intro hgd)<;>try exact Xy))<;>simp -implicitDefEqProofs (maxSteps:=2000000) [hP,hN,g1,hb1,g4,g5,g3,hb3,hkl,hkl',hwk,hx,hxe,hy,hye,hab,hlt,hlt',hq2]<;>try refine Ya ?_)|refine X2 ?_ ?_|(refine Xd ?_ ?_<;>intro hcd<;>try exact Xx))
   ·have hab' : (a.link !=b.link)=true:=by simp [hab]
    have hab2 : (a.link==b.link)=false:=by simp [hab]
    rw [hab2] at hpa
    cases rg with
    |true=>
     have hpa' : gF s i k=false:=by rw [hpa];rfl
     rw [hpa']
     with_reducible repeat' (first|refine Sp.h ?_|((first|refine Wd ?_|refine Ss.h ?_|refine Sc.h (cs) ?_|refine Sc.h (cg) ?_|(refine Sb.h ?_ ?_ ?_<;>(try intro hgd)<;>try exact Xy))<;>simp -implicitDefEqProofs (maxSteps:=2000000) [hP,hN,g1,hb1,g4,g5,g3,hb3,hkl,hkl',hwk,hx,hxe,hy,hye,hab,hab',hlt,hlt',hq2]<;>try refine Ya ?_)|refine X2 ?_ ?_|(refine Xd ?_ ?_<;>intro hcd<;>try exact Xx))
    |false=>
     cases sk with
     |true=>
      have hpa' : gF s i k=false:=by rw [hpa];rfl
      rw [hpa']
      with_reducible repeat' (first|refine Sp.h ?_|((first|refine Wd ?_|refine Ss.h ?_|refine Sc.h (cs) ?_|refine Sc.h (cg) ?_|(refine Sb.h ?_ ?_ ?_<;>(try intro hgd)<;>try exact Xy))<;>simp -implicitDefEqProofs (maxSteps:=2000000) [hP,hN,g1,hb1,g4,g5,g3,hb3,hkl,hkl',hwk,hx,hxe,hy,hye,hab,hab',hlt,hlt',hq2]<;>try refine Ya ?_)|refine X2 ?_ ?_|(refine Xd ?_ ?_<;>intro hcd<;>try exact Xx))
     |false=>
      have hpa' : gF s i k=true:=by rw [hpa];rfl
      rw [hpa']
      with_reducible repeat' (first|refine Sp.h ?_|((first|refine Wd ?_|refine Ss.h ?_|refine Sc.h (cs) ?_|refine Sc.h (cg) ?_|(refine Sb.h ?_ ?_ ?_<;>(try intro hgd)<;>try exact Xy))<;>simp -implicitDefEqProofs (maxSteps:=2000000) [hP,hN,g1,hb1,g4,g5,g3,hb3,hkl,hkl',hwk,hx,hxe,hy,hye,hab,hab',hlt,hlt',hq2,show (P.length+1) * 16≤140737488355328 by omega,show P.length≤9223372036854775806 by omega]<;>try refine Ya ?_)|refine X2 ?_ ?_|(refine Xd ?_ ?_<;>intro hcd<;>try exact Xx))
  ·have hkn : k=s.shs.length:=by omega
   have hkl' : ¬ (k : Int) < (s.shs.length : Int):=by omega
   rw [hkn,← hsucc] at g3 hb3
   exact Gy
 ·have hin : i=s.shs.length:=by omega
  subst hin
  exact Gy
end Go.Ab
namespace Go.Ab
open Go.Proofs
theorem C6 {α : Type} {p : α→Bool} {l : List α} {i : Nat} (h : l.findIdx? p=some i) : ∃ v,l[i]?=some v∧i < l.length∧l.find? p=some v:=by
 rw [List.findIdx?_eq_some_iff_getElem] at h
 obtain ⟨hi,h1,h2⟩:=h
 refine ⟨l[i],List.getElem?_eq_getElem hi,hi,qb (List.getElem?_eq_getElem hi) h1 fun j x hj hx=>?_⟩
 obtain ⟨hjl,rfl⟩:=List.getElem?_eq_some_iff.1 hx
 have:=h2 j hj
 simpa using this
theorem Ag {α : Type} {p : α→Bool} {l : List α} (h : l.findIdx? p=none) : l.find? p=none:=by
 rw [List.findIdx?_eq_none_iff] at h
 rw [List.find?_eq_none]
 intro x hx
 rw [h x hx];simp
theorem BC (a : List au) (ra : Int) (b : List au) (rb : Int) (hints : List Vc) : (mD a ra b rb hints).length≤hints.length+8:=by
 have hcl : mD a ra b rb hints=if vO a ra b rb then hints.filter aW++((if oF a b then [mC a b] else [])++(yJ++(if aW (lq a ra b rb) then [lq a ra b rb] else []))) else []:=rfl
 have hf:=List.length_filter_le aW hints
 have hax : yJ.length=6:=rfl
 rw [hcl]
 split
 ·rw [List.length_append,List.length_append,List.length_append,hax]
  have h1 : (if oF a b then [mC a b] else ([] : List Vc)).length≤1:=by split<;>simp
  have h2 : (if aW (lq a ra b rb) then [lq a ra b rb] else ([] : List Vc)).length≤1:=by split<;>simp
  omega
 ·simp
theorem JQ (a : List au) (ra : Int) (b : List au) (rb : Int) (hints : List Vc) (ha : a.length≤9223372036854775807) (hb : b.length≤9223372036854775807) (hl : hints.length≤100000000000) : ab Tryz.prog 97 [.pv (aV a),.pv (Z ra),.pv (aV b),.pv (Z rb),.pv (aR hints)] [] [] (.pv (.tup [aH (mE a ra b rb hints).1,B (mE a ra b rb hints).2])):=by
 have c1:=Ib a ra b rb hints ha hb hl
 have hlen:=BC a ra b rb hints
 have hfr : mE a ra b rb hints=match (mD a ra b rb hints).find? (fun n=>kj n a ra b rb) with
  |some n=>(n,true)
  |none=>((0,0,0),false):=rfl
 have c2:=Ix (mD a ra b rb hints) a ra b rb (by omega) ha hb
 generalize mD a ra b rb hints=CL at *
 cases hfi : CL.findIdx? (fun n=>kj n a ra b rb) with
 |none=>
  rw [Ag hfi] at hfr
  rw [hfi] at c2
  simp only at hfr c2
  rw [hfr]
  refine Dp Tryz.func97 ?_
  intro C hP hN
  simp only [Tryz.f97] at hN ⊢
  exact Gy
 |some i=>
  obtain ⟨v,hx,hlt,hf⟩:=C6 hfi
  rw [hf] at hfr
  rw [hfi] at c2
  simp only at hfr c2
  have hxe : ∀ h,CL[i]'h=v:=fun h=>by rw [List.getElem?_eq_getElem h] at hx;exact Option.some.inj hx
  rw [hfr]
  refine Dp Tryz.func97 ?_
  intro C hP hN
  simp only [Tryz.f97] at hN ⊢
  exact Gy
abbrev DU (p : List au) (r : Int) : PV:=.agg [aV p,Z r]
def rE (SH : List Sh) (PT : List (List au)) (p : Nat × Nat) : PV:=DU (dK PT p.1) (dA SH p.1)
def rF (SH : List Sh) (PT : List (List au)) (p : Nat × Nat) : PV:=DU (dK PT p.2) (dA SH p.2)
abbrev xm (s : Sce) (bx : List Iv) : PV:=.sl ((di s).map (rE s.shs (eW s bx)))
abbrev xn (s : Sce) (bx : List Iv) : PV:=.sl ((di s).map (rF s.shs (eW s bx)))
theorem Nt {α β : Type} (f : α→β) {l : List α} {k : Nat} {v : α} (h : l[k]?=some v) : (l.take (k+1)).map f=(l.take k).map f++[f v]:=by
 rw [List.take_add_one,h,List.map_append];rfl
theorem BD {α β : Type} (f : α→β) {l : List α} {k : Nat} (h : k≤l.length) : ((l.take k).map f).length=k:=by
 rw [List.length_map,List.length_take];omega
theorem JR (s : Sce) (bx : List Iv) (hs : ScL s) (hbl : bx.length≤9223372036854775807) : ab Tryz.prog 96 [.pv (eN s),.pv (iv bx)] [] [] (.pv (.tup (if eV s bx then [xm s bx,xn s bx,B true] else [.sl [],.sl [],B false]))):=by
 have cc:=yR s hs
 have ci:=F6 s.js s.ms bx hs.js hbl
 have hd : eV s bx=(decide (az s=0) && jO s.js bx):=rfl
 by_cases h0 : az s=0
 case neg=>
  have h0' : (az s !=0)=true:=by simp [h0]
  rw [decide_eq_false h0,Bool.false_and] at hd
  rw [hd]
  refine Dp Tryz.func96 ?_
  intro C hP hN
  simp only [Tryz.f96] at hN ⊢
  exact Gy
 have h0' : (az s !=0)=false:=by simp [h0]
 rw [decide_eq_true h0,Bool.true_and] at hd
 cases hbx : jO s.js bx with
 |false=>
  rw [hbx] at hd ci
  rw [hd]
  refine Dp Tryz.func96 ?_
  intro C hP hN
  simp only [Tryz.f96] at hN ⊢
  exact Gy
 |true=>
 have cp:=Io s bx hs h0 hbx
 have cr:=H1 s hs
 rw [hbx] at hd ci
 have hb:=CF hd
 rw [hd]
 simp only [xm,xn,if_true]
 have hfew:=hb.few
 generalize di s=PR at *
 generalize eW s bx=PT at *
 obtain ⟨js,ms,SH,sks⟩:=s
 simp only at *
 refine Dp Tryz.func96 ?_
 intro C hP hN
 simp only [Tryz.f96] at hN ⊢
 with_reducible repeat' (first|refine Sp.h ?_|((first|refine Wh [8,9] ?_|refine Wi [8,9] ?_|refine Ss.h ?_|refine Sc.h (cc) ?_|refine Sc.h (ci) ?_|refine Sc.h (cp) ?_|refine Sc.h (cr) ?_|(refine Sb.h ?_ ?_ ?_<;>(try intro hgd)<;>try exact Xy))<;>simp -implicitDefEqProofs (maxSteps:=2000000) [hP,hN,h0,h0']<;>try refine Ya ?_)|refine X2 ?_ ?_|(refine Xd ?_ ?_<;>intro hcd<;>try exact Xx))
 refine WP.loopN [] PR.length (fun i st=>st.t 2=.ptr 2 0∧st.h 2=some (.box [.pv (.sl (js.map bT)),.pv (.sl (ms.map bY)),.pv (.sl (SH.map du)),.pv (.sl (sks.map aJ))] true false)∧st.t 7=.pv (.sl (PT.map aV))∧st.t 8=.arr 8 i∧st.h 8=some (.row 172 2 ((PR.take i).map (rE SH PT)) 0)∧st.t 9=.arr 9 i∧st.h 9=some (.row 172 2 ((PR.take i).map (rF SH PT)) 0)∧st.t 10=.pv (.sl (PR.map vR))∧st.t 11=.pv (Z i)) (by simp) ?_
 rintro k st hi ⟨g2,hb2,g7,g8,hb8,g9,hb9,g10,g11⟩
 by_cases hlt : k < PR.length
 ·have hwr:=ak hlt (by omega)
  obtain ⟨p,hp⟩ : ∃ p,PR[k]?=some p:=⟨_,List.getElem?_eq_getElem hlt⟩
  have eA:=Nt (rE SH PT) hp
  have eB:=Nt (rF SH PT) hp
  have zA:=BD (rE SH PT) (Nat.le_of_lt hlt)
  have zB:=BD (rF SH PT) (Nat.le_of_lt hlt)
  rw [eA,eB]
  generalize (PR.take k).map (rE SH PT)=RA at *
  generalize (PR.take k).map (rF SH PT)=RB at *
  clear eA eB
  obtain ⟨hlt',hpe⟩:=List.getElem?_eq_some_iff.1 hp
  obtain ⟨i,j⟩:=p
  have hpr:=hb.prs _ (List.mem_of_getElem? hp)
  simp only at hpr
  have hl:=hb.len
  have hxk : ∀ h,PR[k]'h=(i,j):=fun _=>hpe
  have i1 : i < PT.length:=by omega
  have j1 : j < PT.length:=by omega
  obtain ⟨a,ha⟩ : ∃ x,PT[i]?=some x:=⟨_,List.getElem?_eq_getElem i1⟩
  obtain ⟨b,hb'⟩ : ∃ x,PT[j]?=some x:=⟨_,List.getElem?_eq_getElem j1⟩
  obtain ⟨u,hu⟩ : ∃ x,SH[i]?=some x:=⟨_,List.getElem?_eq_getElem hpr.1⟩
  obtain ⟨v,hv⟩ : ∃ x,SH[j]?=some x:=⟨_,List.getElem?_eq_getElem hpr.2⟩
  have hxa : ∀ h,PT[i]'h=a:=fun h=>by rw [List.getElem?_eq_getElem h] at ha;exact Option.some.inj ha
  have hxb : ∀ h,PT[j]'h=b:=fun h=>by rw [List.getElem?_eq_getElem h] at hb';exact Option.some.inj hb'
  have hxu : ∀ h,SH[i]'h=u:=fun h=>by rw [List.getElem?_eq_getElem h] at hu;exact Option.some.inj hu
  have hxv : ∀ h,SH[j]'h=v:=fun h=>by rw [List.getElem?_eq_getElem h] at hv;exact Option.some.inj hv
  have e1 : rE SH PT (i,j)=.agg [aV a,Z u.rad]:=by simp [rE,dK,dA,ha,hu]
  have e2 : rF SH PT (i,j)=.agg [aV b,Z v.rad]:=by simp [rF,dK,dA,hb',hv]
  rw [e1,e2]
  obtain ⟨h1,h2⟩:=hpr
  have k1 : (k+1) * 32≤140737488355328:=by omega
  have k2 : k≤9223372036854775806:=by omega
  skip
  exact Gy
 ·have hin : k=PR.length:=by omega
  subst hin
  rw [List.take_length] at hb8 hb9
  exact Gy
end Go.Ab
namespace Go.Ab
open Go.Proofs
theorem EF (hints : List Vc) (i : Nat) (hi : i < hints.length) (z : Option Value) (e n : Nat) (y : Option Value) : lz { size:=n,zero:=z,kind:=TK.slice e 3 24 y } (.pv (aR hints)) (some (.pv (.val (.int .i64 (i : Int))))) (some (.pv (.val (.int .i64 ((i : Int)+1)))))=some (.pv (aR (kK hints i))):=by
 have h1 : (0 : Int)≤(i : Int):=by omega
 have h2 : (0 : Int)≤(i : Int)+1:=by omega
 have h3 : ((i : Int)).toNat=i:=by omega
 have h4 : ((i : Int)+1).toNat=i+1:=by omega
 simp only [lz,if_pos h1,if_pos h2,h3,h4,List.length_map]
 rw [if_pos ⟨by omega,by omega,by decide,yP hints⟩]
 congr 3
 rw [← List.map_take,← List.map_drop]
 congr 1
 unfold kK
 rw [List.drop_take,show i+1 - i=1 by omega]
theorem Ah {hints : List Vc} {i : Nat} (h : ¬ i < hints.length) : kK hints i=[]:=by
 unfold kK
 rw [List.drop_eq_nil_of_le (by omega)];rfl
theorem FS {SH : List Sh} {PR : List (Nat × Nat)} {PT : List (List au)} {i : Nat} {p : Nat × Nat} (h : PR[i]?=some p) : (PR.map (rE SH PT))[i]?=some (.agg [aV (dK PT p.1),Z (dA SH p.1)]):=by
 rw [List.getElem?_map,h];rfl
theorem FT {SH : List Sh} {PR : List (Nat × Nat)} {PT : List (List au)} {i : Nat} {p : Nat × Nat} (h : PR[i]?=some p) : (PR.map (rF SH PT))[i]?=some (.agg [aV (dK PT p.2),Z (dA SH p.2)]):=by
 rw [List.getElem?_map,h];rfl
def qh (ap : Bool) : Int:=if ap then 1 else 0
def G6 (FN : List PV) (kd : Int) (i : Nat) (h : Hp) : Prop:=(i=0∧h 10=some (.box [.pv (Z kd),.pv (.val (.slice none 0 0)),.pv (Z 0),.pv (.val (.slice none 0 0)),.pv (.val (.slice none 0 0))] true false)∧h 71=none)∨(0 < i∧h 10=some (.box [.pv (Z kd),.arr 71 i,.pv (Z 0),.pv (.val (.slice none 0 0)),.pv (.val (.slice none 0 0))] true false)∧h 71=some (.row 77 3 (FN.take i) 0))
def G7 (SH : List Sh) (PR : List (Nat × Nat)) (PT : List (List au)) (hints : List Vc) (FN : List PV) (RES : Vd) (i : Nat) (h : Hp) : Prop:=∃ ap,gM SH PR PT hints (PR.length - i) i ap=RES∧G6 FN (qh ap) i h
theorem lr {SH : List Sh} {PR : List (Nat × Nat)} {PT : List (List au)} {hints : List Vc} {FN : List PV} {RES : Vd} {i : Nat} {h : Hp} (ap : Bool) (h1 : gM SH PR PT hints (PR.length - i) i ap=RES) (h2 : G6 FN (qh ap) i h) : G7 SH PR PT hints FN RES i h:=⟨ap,h1,h2⟩
set_option maxRecDepth 20000 in
theorem JS (s : Sce) (bx : List Iv) (hints : List Vc) (hs : ScL s) (hbl : bx.length≤9223372036854775807) (hh : hints.length≤9223372036854775807) : ab Tryz.prog 63 [.pv (eN s),.pv (iv bx),.pv (aR hints)] [] [] (.pv (Gx (iV s bx hints))):=by
 have cp:=JR s bx hs hbl
 have hd : iV s bx hints=if eV s bx then gM s.shs (di s) (eW s bx) hints (di s).length 0 true else ⟨0,[],⟨0,[],[]⟩⟩:=rfl
 cases hp : eV s bx with
 |false=>
  rw [hp] at cp hd
  simp only [Bool.false_eq_true,if_false] at cp hd
  rw [hd]
  refine Dp Tryz.func63 ?_
  intro C hP hN
  simp only [Tryz.f63] at hN ⊢
  with_reducible repeat' (first|refine Sp.h ?_|((first|refine Wd ?_|refine Ss.h ?_|refine Sc.h (cp) ?_|(refine Sb.h ?_ ?_ ?_<;>(try intro hgd)<;>try exact Xy))<;>simp -implicitDefEqProofs (maxSteps:=2000000) [hP,hN]<;>try refine Ya ?_)|refine X2 ?_ ?_|(refine Xd ?_ ?_<;>intro hcd<;>try exact Xx))
 |true=>
 rw [hp] at cp hd
 simp only [if_true] at cp hd
 have hb:=CF hp
 have hrd:=Ew hp
 rw [hd]
 simp only [xm,xn] at cp
 generalize di s=PR at *
 generalize eW s bx=PT at *
 generalize s.shs=SH at *
 have hfew:=hb.few
 generalize hgo : gM SH PR PT hints PR.length 0 true=RES at *
 generalize hFN : (dg SH PR PT hints).map aH=FN
 have hFl : FN.length=PR.length:=by rw [← hFN];simp [dg]
 have hFk : ∀ k p,PR[k]?=some p→FN[k]?=some (aH (rC SH PT hints k p).1):=fun k q hk=>by rw [← hFN,dg,List.getElem?_map,List.getElem?_mapIdx,hk];rfl
 have hAt:=fun (i : Nat) (p : Nat × Nat) (h : PR[i]?=some p)=>FS (SH:=SH) (PT:=PT) h
 have hBt:=fun (i : Nat) (p : Nat × Nat) (h : PR[i]?=some p)=>FT (SH:=SH) (PT:=PT) h
 have hLA : (PR.map (rE SH PT)).length=PR.length:=by simp
 have hLB : (PR.map (rF SH PT)).length=PR.length:=by simp
 generalize PR.map (rE SH PT)=LA at *
 generalize PR.map (rF SH PT)=LB at *
 refine Dp Tryz.func63 ?_
 intro C hP hN
 simp only [Tryz.f63] at hN ⊢
 with_reducible repeat' (first|refine Sp.h ?_|((first|refine Wd ?_|refine Ss.h ?_|refine Sc.h (cp) ?_|(refine Sb.h ?_ ?_ ?_<;>(try intro hgd)<;>try exact Xy))<;>simp -implicitDefEqProofs (maxSteps:=2000000) [hP,hN,hLA,hLB]<;>try refine Ya ?_)|refine X2 ?_ ?_|(refine Xd ?_ ?_<;>intro hcd<;>try exact Xx))
 refine WP.loopN [13,15] PR.length (fun i st=>st.t 2=.pv (aR hints)∧st.t 6=.ptr 6 0∧st.h 6=some (.box [.pv (Z 0),.pv (.val (.slice none 0 0)),.pv (Z 0),.pv (.val (.slice none 0 0)),.pv (.val (.slice none 0 0))] true false)∧st.t 7=.pv (.sl LA)∧st.t 8=.pv (.sl LB)∧st.t 10=.ptr 10 0∧st.t 11=.pv (Z i)∧st.h 13=none∧st.h 15=none∧G7 SH PR PT hints FN RES i st.h) ?_ ?_
 ·simp
  exact lr true hgo (.inl ⟨rfl,by simp [qh],by simp⟩)
 rintro i st hi ⟨g2,g6,hb6,g7,g8,g10,g11,hb13,hb15,ap,hgo,hN71⟩
 by_cases hlt : i < PR.length
 ·have hwr:=ak hlt (by omega)
  have hlt' : (i : Int) < (PR.length : Int):=by omega
  obtain ⟨p,hp⟩ : ∃ p,PR[i]?=some p:=⟨_,List.getElem?_eq_getElem hlt⟩
  have hA:=hAt i p hp
  have hB:=hBt i p hp
  have hAe : ∀ h,LA[i]'h=.agg [aV (dK PT p.1),Z (dA SH p.1)]:=fun h=>by rw [List.getElem?_eq_getElem h] at hA;exact Option.some.inj hA
  have hBe : ∀ h,LB[i]'h=.agg [aV (dK PT p.2),Z (dA SH p.2)]:=fun h=>by rw [List.getElem?_eq_getElem h] at hB;exact Option.some.inj hB
  have r1:=hrd p.1
  have r2:=hrd p.2
  have l1:=wX hb p.1
  have l2:=wX hb p.2
  have cf:=JQ (dK PT p.1) (dA SH p.1) (dK PT p.2) (dA SH p.2) (kK hints i) (by omega) (by omega) (by simp [kK];omega)
  have hfd : rC SH PT hints i p=mE (dK PT p.1) (dA SH p.1) (dK PT p.2) (dA SH p.2) (kK hints i):=rfl
  rw [← hfd] at cf
  rw [show PR.length - i=(PR.length - i - 1)+1 by omega] at hgo
  simp only [gM,hp] at hgo
  have hMi:=hFk i p hp
  generalize rC SH PT hints i p=F at *
  have hts : FN.take (i+1)=FN.take i++[aH F.1]:=by rw [List.take_add_one,hMi];rfl
  have hz0 : (FN.take i).length=i:=by rw [List.length_take];omega
  have hz1 : i≤FN.length:=by omega
  have c1:=Nv (dK PT p.1) (by omega)
  have c2:=Nv (dK PT p.2) (by omega)
  have z1:=qc l1
  have z2:=qc l2
  have c3:=G5 (aF (dK PT p.1)) (aF (dK PT p.2)) (dA SH p.1+dA SH p.2) 64 (by omega) (by omega)
  have hNd : mZ SH PT p=iK (aF (dK PT p.1)) (aF (dK PT p.2)) (dA SH p.1+dA SH p.2) 64:=rfl
  have hln:=u9 (aF (dK PT p.1)) (aF (dK PT p.2)) (dA SH p.1+dA SH p.2) 64
  rw [← hNd] at c3 hln
  have hw : IntKind.i64.wrap (dA SH p.1+dA SH p.2)=dA SH p.1+dA SH p.2:=aa
  generalize mZ SH PT p=NN at *
  have co:=H9 NN.2.w NN.2.v (dK PT p.1) (dA SH p.1) (dK PT p.2) (dA SH p.2) (by omega) (by omega) (by omega) (by omega)
  have hod : oG SH PT NN.2.w NN.2.v p=(pY NN.2.w NN.2.v (dK PT p.1) (dA SH p.1) (dK PT p.2) (dA SH p.2) && decide (0≤ny NN.2.w NN.2.v (dK PT p.1) (dA SH p.1) (dK PT p.2) (dA SH p.2))):=rfl
  rw [← hod] at co
  have k1 : (i+1) * 24≤140737488355328:=by omega
  have k2 : i≤9223372036854775806:=by omega
  clear hFk hFN hAt hBt
  by_cases hil : i < hints.length
  ·have hsl:=EF hints i hil
   have hlt2 : (i : Int) < (hints.length : Int):=by omega
   rcases hN71 with ⟨hi0,hb10,hb71⟩|⟨hi0,hb10,hb71⟩
   ·have hz2 : FN.take i=[]:=by rw [hi0];rfl
    rw [hz2,List.nil_append] at hts
    cases hF2 : F.2 with
    |true=>
     rw [hF2] at cf hgo
     simp only [if_true] at hgo
     with_reducible repeat' (first|refine Sp.h ?_|((first|refine Wd ?_|refine Ss.h ?_|refine Sc.h (cf) ?_|(refine Sb.h ?_ ?_ ?_<;>(try intro hgd)<;>try exact Xy))<;>simp -implicitDefEqProofs (maxSteps:=2000000) [hP,hN,g2,g6,hb6,g7,g8,g10,g11,hb13,hb15,hb10,hb71,hil,hlt2,hlt,hlt',hwr,hA,hAe,hB,hBe,hLA,hLB,hsl,hz0,hz1,k1,k2]<;>try refine Ya ?_)|refine X2 ?_ ?_|(refine Xd ?_ ?_<;>intro hcd<;>try exact Xx))
     rw [show PR.length - i - 1=PR.length - (i+1) by omega] at hgo
     all_goals exact lr ap hgo (.inr ⟨by omega,by simp [hi0],by simp [hts]⟩)
    |false=>
     rw [hF2] at cf hgo
     simp only [Bool.false_eq_true,if_false] at hgo
     cases hov : oG SH PT NN.2.w NN.2.v p with
     |true=>
      rw [hov] at co hgo
      simp only [if_true] at hgo
      subst hgo
      with_reducible repeat' (first|refine Sp.h ?_|((first|refine Wd ?_|refine Ss.h ?_|refine Sc.h (cf) ?_|refine Sc.h (c1) ?_|refine Sc.h (c2) ?_|refine Sc.h (c3) ?_|refine Sc.h (co) ?_|(refine Sb.h ?_ ?_ ?_<;>(try intro hgd)<;>try exact Xy))<;>simp -implicitDefEqProofs (maxSteps:=2000000) [hP,hN,g2,g6,hb6,g7,g8,g10,g11,hb13,hb15,hb10,hb71,hil,hlt2,hlt,hlt',hwr,hA,hAe,hB,hBe,hLA,hLB,hsl,hz0,hz1,k1,k2,hw]<;>try refine Ya ?_)|refine X2 ?_ ?_|(refine Xd ?_ ?_<;>intro hcd<;>try exact Xx))
     |false=>
      rw [hov] at co hgo
      simp only [Bool.false_eq_true,if_false] at hgo
      rw [show PR.length - i - 1=PR.length - (i+1) by omega] at hgo
      with_reducible repeat' (first|refine Sp.h ?_|((first|refine Wd ?_|refine Ss.h ?_|refine Sc.h (cf) ?_|refine Sc.h (c1) ?_|refine Sc.h (c2) ?_|refine Sc.h (c3) ?_|refine Sc.h (co) ?_|(refine Sb.h ?_ ?_ ?_<;>(try intro hgd)<;>try exact Xy))<;>simp -implicitDefEqProofs (maxSteps:=2000000) [hP,hN,g2,g6,hb6,g7,g8,g10,g11,hb13,hb15,hb10,hb71,hil,hlt2,hlt,hlt',hwr,hA,hAe,hB,hBe,hLA,hLB,hsl,hz0,hz1,k1,k2,hw]<;>try refine Ya ?_)|refine X2 ?_ ?_|(refine Xd ?_ ?_<;>intro hcd<;>try exact Xx))
      all_goals exact lr false hgo (.inr ⟨by omega,by simp [qh,hi0],by simp [hts]⟩)
   ·have hz2 : 0 < i:=hi0
    cases hF2 : F.2 with
    |true=>
     rw [hF2] at cf hgo
     simp only [if_true] at hgo
     with_reducible repeat' (first|refine Sp.h ?_|((first|refine Wd ?_|refine Ss.h ?_|refine Sc.h (cf) ?_|(refine Sb.h ?_ ?_ ?_<;>(try intro hgd)<;>try exact Xy))<;>simp -implicitDefEqProofs (maxSteps:=2000000) [hP,hN,g2,g6,hb6,g7,g8,g10,g11,hb13,hb15,hb10,hb71,hil,hlt2,hlt,hlt',hwr,hA,hAe,hB,hBe,hLA,hLB,hsl,hz0,hz1,k1,k2]<;>try refine Ya ?_)|refine X2 ?_ ?_|(refine Xd ?_ ?_<;>intro hcd<;>try exact Xx))
     rw [show PR.length - i - 1=PR.length - (i+1) by omega] at hgo
     all_goals exact lr ap hgo (.inr ⟨by omega,by simp [hi0],by simp [hts]⟩)
    |false=>
     rw [hF2] at cf hgo
     simp only [Bool.false_eq_true,if_false] at hgo
     cases hov : oG SH PT NN.2.w NN.2.v p with
     |true=>
      rw [hov] at co hgo
      simp only [if_true] at hgo
      subst hgo
      with_reducible repeat' (first|refine Sp.h ?_|((first|refine Wd ?_|refine Ss.h ?_|refine Sc.h (cf) ?_|refine Sc.h (c1) ?_|refine Sc.h (c2) ?_|refine Sc.h (c3) ?_|refine Sc.h (co) ?_|(refine Sb.h ?_ ?_ ?_<;>(try intro hgd)<;>try exact Xy))<;>simp -implicitDefEqProofs (maxSteps:=2000000) [hP,hN,g2,g6,hb6,g7,g8,g10,g11,hb13,hb15,hb10,hb71,hil,hlt2,hlt,hlt',hwr,hA,hAe,hB,hBe,hLA,hLB,hsl,hz0,hz1,k1,k2,hw]<;>try refine Ya ?_)|refine X2 ?_ ?_|(refine Xd ?_ ?_<;>intro hcd<;>try exact Xx))
     |false=>
      rw [hov] at co hgo
      simp only [Bool.false_eq_true,if_false] at hgo
      rw [show PR.length - i - 1=PR.length - (i+1) by omega] at hgo
      with_reducible repeat' (first|refine Sp.h ?_|((first|refine Wd ?_|refine Ss.h ?_|refine Sc.h (cf) ?_|refine Sc.h (c1) ?_|refine Sc.h (c2) ?_|refine Sc.h (c3) ?_|refine Sc.h (co) ?_|(refine Sb.h ?_ ?_ ?_<;>(try intro hgd)<;>try exact Xy))<;>simp -implicitDefEqProofs (maxSteps:=2000000) [hP,hN,g2,g6,hb6,g7,g8,g10,g11,hb13,hb15,hb10,hb71,hil,hlt2,hlt,hlt',hwr,hA,hAe,hB,hBe,hLA,hLB,hsl,hz0,hz1,k1,k2,hw]<;>try refine Ya ?_)|refine X2 ?_ ?_|(refine Xd ?_ ?_<;>intro hcd<;>try exact Xx))
      all_goals exact lr false hgo (.inr ⟨by omega,by simp [qh,hi0],by simp [hts]⟩)
  ·have hsl : ¬ (i : Int) < (hints.length : Int):=by omega
   rw [Ah hil] at cf
   simp only [aR,List.map_nil] at cf
   rcases hN71 with ⟨hi0,hb10,hb71⟩|⟨hi0,hb10,hb71⟩
   ·have hz2 : FN.take i=[]:=by rw [hi0];rfl
    rw [hz2,List.nil_append] at hts
    cases hF2 : F.2 with
    |true=>
     rw [hF2] at cf hgo
     simp only [if_true] at hgo
     with_reducible repeat' (first|refine Sp.h ?_|((first|refine Wd ?_|refine Ss.h ?_|refine Sc.h (cf) ?_|(refine Sb.h ?_ ?_ ?_<;>(try intro hgd)<;>try exact Xy))<;>simp -implicitDefEqProofs (maxSteps:=2000000) [hP,hN,g2,g6,hb6,g7,g8,g10,g11,hb13,hb15,hb10,hb71,hil,hlt,hlt',hwr,hA,hAe,hB,hBe,hLA,hLB,hsl,hz0,hz1,k1,k2]<;>try refine Ya ?_)|refine X2 ?_ ?_|(refine Xd ?_ ?_<;>intro hcd<;>try exact Xx))
     rw [show PR.length - i - 1=PR.length - (i+1) by omega] at hgo
     all_goals exact lr ap hgo (.inr ⟨by omega,by simp [hi0],by simp [hts]⟩)
    |false=>
     rw [hF2] at cf hgo
     simp only [Bool.false_eq_true,if_false] at hgo
     cases hov : oG SH PT NN.2.w NN.2.v p with
     |true=>
      rw [hov] at co hgo
      simp only [if_true] at hgo
      subst hgo
      with_reducible repeat' (first|refine Sp.h ?_|((first|refine Wd ?_|refine Ss.h ?_|refine Sc.h (cf) ?_|refine Sc.h (c1) ?_|refine Sc.h (c2) ?_|refine Sc.h (c3) ?_|refine Sc.h (co) ?_|(refine Sb.h ?_ ?_ ?_<;>(try intro hgd)<;>try exact Xy))<;>simp -implicitDefEqProofs (maxSteps:=2000000) [hP,hN,g2,g6,hb6,g7,g8,g10,g11,hb13,hb15,hb10,hb71,hil,hlt,hlt',hwr,hA,hAe,hB,hBe,hLA,hLB,hsl,hz0,hz1,k1,k2,hw]<;>try refine Ya ?_)|refine X2 ?_ ?_|(refine Xd ?_ ?_<;>intro hcd<;>try exact Xx))
     |false=>
      rw [hov] at co hgo
      simp only [Bool.false_eq_true,if_false] at hgo
      rw [show PR.length - i - 1=PR.length - (i+1) by omega] at hgo
      with_reducible repeat' (first|refine Sp.h ?_|((first|refine Wd ?_|refine Ss.h ?_|refine Sc.h (cf) ?_|refine Sc.h (c1) ?_|refine Sc.h (c2) ?_|refine Sc.h (c3) ?_|refine Sc.h (co) ?_|(refine Sb.h ?_ ?_ ?_<;>(try intro hgd)<;>try exact Xy))<;>simp -implicitDefEqProofs (maxSteps:=2000000) [hP,hN,g2,g6,hb6,g7,g8,g10,g11,hb13,hb15,hb10,hb71,hil,hlt,hlt',hwr,hA,hAe,hB,hBe,hLA,hLB,hsl,hz0,hz1,k1,k2,hw]<;>try refine Ya ?_)|refine X2 ?_ ?_|(refine Xd ?_ ?_<;>intro hcd<;>try exact Xx))
      all_goals exact lr false hgo (.inr ⟨by omega,by simp [qh,hi0],by simp [hts]⟩)
   ·have hz2 : 0 < i:=hi0
    cases hF2 : F.2 with
    |true=>
     rw [hF2] at cf hgo
     simp only [if_true] at hgo
     with_reducible repeat' (first|refine Sp.h ?_|((first|refine Wd ?_|refine Ss.h ?_|refine Sc.h (cf) ?_|(refine Sb.h ?_ ?_ ?_<;>(try intro hgd)<;>try exact Xy))<;>simp -implicitDefEqProofs (maxSteps:=2000000) [hP,hN,g2,g6,hb6,g7,g8,g10,g11,hb13,hb15,hb10,hb71,hil,hlt,hlt',hwr,hA,hAe,hB,hBe,hLA,hLB,hsl,hz0,hz1,k1,k2]<;>try refine Ya ?_)|refine X2 ?_ ?_|(refine Xd ?_ ?_<;>intro hcd<;>try exact Xx))
     rw [show PR.length - i - 1=PR.length - (i+1) by omega] at hgo
     all_goals exact lr ap hgo (.inr ⟨by omega,by simp [hi0],by simp [hts]⟩)
    |false=>
     rw [hF2] at cf hgo
     simp only [Bool.false_eq_true,if_false] at hgo
     cases hov : oG SH PT NN.2.w NN.2.v p with
     |true=>
      rw [hov] at co hgo
      simp only [if_true] at hgo
      subst hgo
      with_reducible repeat' (first|refine Sp.h ?_|((first|refine Wd ?_|refine Ss.h ?_|refine Sc.h (cf) ?_|refine Sc.h (c1) ?_|refine Sc.h (c2) ?_|refine Sc.h (c3) ?_|refine Sc.h (co) ?_|(refine Sb.h ?_ ?_ ?_<;>(try intro hgd)<;>try exact Xy))<;>simp -implicitDefEqProofs (maxSteps:=2000000) [hP,hN,g2,g6,hb6,g7,g8,g10,g11,hb13,hb15,hb10,hb71,hil,hlt,hlt',hwr,hA,hAe,hB,hBe,hLA,hLB,hsl,hz0,hz1,k1,k2,hw]<;>try refine Ya ?_)|refine X2 ?_ ?_|(refine Xd ?_ ?_<;>intro hcd<;>try exact Xx))
     |false=>
      rw [hov] at co hgo
      simp only [Bool.false_eq_true,if_false] at hgo
      rw [show PR.length - i - 1=PR.length - (i+1) by omega] at hgo
      with_reducible repeat' (first|refine Sp.h ?_|((first|refine Wd ?_|refine Ss.h ?_|refine Sc.h (cf) ?_|refine Sc.h (c1) ?_|refine Sc.h (c2) ?_|refine Sc.h (c3) ?_|refine Sc.h (co) ?_|(refine Sb.h ?_ ?_ ?_<;>(try intro hgd)<;>try exact Xy))<;>simp -implicitDefEqProofs (maxSteps:=2000000) [hP,hN,g2,g6,hb6,g7,g8,g10,g11,hb13,hb15,hb10,hb71,hil,hlt,hlt',hwr,hA,hAe,hB,hBe,hLA,hLB,hsl,hz0,hz1,k1,k2,hw]<;>try refine Ya ?_)|refine X2 ?_ ?_|(refine Xd ?_ ?_<;>intro hcd<;>try exact Xx))
      all_goals exact lr false hgo (.inr ⟨by omega,by simp [qh,hi0],by simp [hts]⟩)
 ·have hin : i=PR.length:=by omega
  subst hin
  rw [Nat.sub_self] at hgo
  simp only [gM] at hgo
  have hBL : (dg SH PR PT hints).length=PR.length:=by simp [dg]
  rcases hN71 with ⟨hi0,hb10,hb71⟩|⟨hi0,hb10,hb71⟩
  ·have hz2 : dg SH PR PT hints=[]:=List.eq_nil_of_length_eq_zero (by omega)
   rw [hz2] at hgo
   cases ap with
   |true=>
    simp only [if_true] at hgo
    subst hgo
    simp only [qh,if_true] at hb10
    with_reducible repeat' (first|refine Sp.h ?_|((first|refine Wd ?_|refine Ss.h ?_|(refine Sb.h ?_ ?_ ?_<;>(try intro hgd)<;>try exact Xy))<;>simp -implicitDefEqProofs (maxSteps:=2000000) [hP,hN,g2,g6,hb6,g7,g8,g10,g11,hb10,hb71,hb13,hb15,hLA,hLB,hi0]<;>try refine Ya ?_)|refine X2 ?_ ?_|(refine Xd ?_ ?_<;>intro hcd<;>try exact Xx))
   |false=>
    simp only [Bool.false_eq_true,if_false] at hgo
    subst hgo
    simp only [qh,Bool.false_eq_true,if_false] at hb10
    with_reducible repeat' (first|refine Sp.h ?_|((first|refine Wd ?_|refine Ss.h ?_|(refine Sb.h ?_ ?_ ?_<;>(try intro hgd)<;>try exact Xy))<;>simp -implicitDefEqProofs (maxSteps:=2000000) [hP,hN,g2,g6,hb6,g7,g8,g10,g11,hb10,hb71,hb13,hb15,hLA,hLB,hi0]<;>try refine Ya ?_)|refine X2 ?_ ?_|(refine Xd ?_ ?_<;>intro hcd<;>try exact Xx))
  ·rw [List.take_of_length_le (by omega),← hFN] at hb71
   cases ap with
   |true=>
    simp only [if_true] at hgo
    subst hgo
    simp only [qh,if_true] at hb10
    with_reducible repeat' (first|refine Sp.h ?_|((first|refine Wd ?_|refine Ss.h ?_|(refine Sb.h ?_ ?_ ?_<;>(try intro hgd)<;>try exact Xy))<;>simp -implicitDefEqProofs (maxSteps:=2000000) [hP,hN,g2,g6,hb6,g7,g8,g10,g11,hb10,hb71,hb13,hb15,hLA,hLB,hBL]<;>try refine Ya ?_)|refine X2 ?_ ?_|(refine Xd ?_ ?_<;>intro hcd<;>try exact Xx))
   |false=>
    simp only [Bool.false_eq_true,if_false] at hgo
    subst hgo
    simp only [qh,Bool.false_eq_true,if_false] at hb10
    with_reducible repeat' (first|refine Sp.h ?_|((first|refine Wd ?_|refine Ss.h ?_|(refine Sb.h ?_ ?_ ?_<;>(try intro hgd)<;>try exact Xy))<;>simp -implicitDefEqProofs (maxSteps:=2000000) [hP,hN,g2,g6,hb6,g7,g8,g10,g11,hb10,hb71,hb13,hb15,hLA,hLB,hBL]<;>try refine Ya ?_)|refine X2 ?_ ?_|(refine Xd ?_ ?_<;>intro hcd<;>try exact Xx))
end Go.Ab
namespace Go.Ab
open Go.Proofs
theorem Pr (s : Sce) (bx : List Iv) (ns : List Vc) (hs : ScL s) (hbl : bx.length≤9223372036854775807) (hn : ns.length≤9223372036854775807) : ab Tryz.prog 80 [.pv (eN s),.pv (iv bx),.pv (aR ns)] [] [] (.pv (B (wV s bx ns))):=by
 have cp:=JR s bx hs hbl
 have hd : wV s bx ns=(eV s bx && qW s.shs (di s) (eW s bx) ns):=rfl
 cases hp : eV s bx with
 |false=>
  rw [hp] at cp hd
  simp only [Bool.false_eq_true,if_false,Bool.false_and] at cp hd
  rw [hd]
  refine Dp Tryz.func80 ?_
  intro C hP hN
  simp only [Tryz.f80] at hN ⊢
  with_reducible repeat' (first|refine Sp.h ?_|((first|refine Wd ?_|refine Ss.h ?_|refine Sc.h (cp) ?_|(refine Sb.h ?_ ?_ ?_<;>(try intro hgd)<;>try exact Xy))<;>simp -implicitDefEqProofs (maxSteps:=2000000) [hP,hN]<;>try refine Ya ?_)|refine X2 ?_ ?_|(refine Xd ?_ ?_<;>intro hcd<;>try exact Xx))
 |true=>
 rw [hp] at cp hd
 simp only [if_true,Bool.true_and] at cp hd
 have hb:=CF hp
 rw [hd]
 simp only [xm,xn] at cp
 generalize di s=PR at *
 generalize eW s bx=PT at *
 generalize s.shs=SH at *
 have hfew:=hb.few
 have hAt:=fun (i : Nat) (p : Nat × Nat) (h : PR[i]?=some p)=>FS (SH:=SH) (PT:=PT) h
 have hBt:=fun (i : Nat) (p : Nat × Nat) (h : PR[i]?=some p)=>FT (SH:=SH) (PT:=PT) h
 have hLA : (PR.map (rE SH PT)).length=PR.length:=by simp
 have hLB : (PR.map (rF SH PT)).length=PR.length:=by simp
 generalize PR.map (rE SH PT)=LA at *
 generalize PR.map (rF SH PT)=LB at *
 by_cases hle : ns.length=PR.length
 case neg=>
  have h1 : ((ns.length : Int) !=(PR.length : Int))=true:=by simp;omega
  have h2 : ¬ (ns.length : Int)=(PR.length : Int):=by omega
  have hf : qW SH PR PT ns=false:=by simp [qW,hle]
  rw [hf]
  refine Dp Tryz.func80 ?_
  intro C hP hN
  simp only [Tryz.f80] at hN ⊢
  with_reducible repeat' (first|refine Sp.h ?_|((first|refine Wd ?_|refine Ss.h ?_|refine Sc.h (cp) ?_|(refine Sb.h ?_ ?_ ?_<;>(try intro hgd)<;>try exact Xy))<;>simp -implicitDefEqProofs (maxSteps:=2000000) [hP,hN,h1,h2,hLA]<;>try refine Ya ?_)|refine X2 ?_ ?_|(refine Xd ?_ ?_<;>intro hcd<;>try exact Xx))
 have h1 : ((ns.length : Int) !=(PR.length : Int))=false:=by simp [hle]
 refine Dp Tryz.func80 ?_
 intro C hP hN
 simp only [Tryz.f80] at hN ⊢
 with_reducible repeat' (first|refine Sp.h ?_|((first|refine Wd ?_|refine Ss.h ?_|refine Sc.h (cp) ?_|(refine Sb.h ?_ ?_ ?_<;>(try intro hgd)<;>try exact Xy))<;>simp -implicitDefEqProofs (maxSteps:=2000000) [hP,hN,h1,hle,hLA]<;>try refine Ya ?_)|refine X2 ?_ ?_|(refine Xd ?_ ?_<;>intro hcd<;>try exact Xx))
 refine WP.loopN [] PR.length (fun i st=>st.t 2=.pv (aR ns)∧st.t 7=.pv (.sl LA)∧st.t 8=.pv (.sl LB)∧st.t 10=.pv (Z i)∧Gw SH PR PT ns i) ?_ ?_
 ·simp
  exact fun k n p hk=>by omega
 rintro i st hi ⟨g2,g7,g8,g10,hq⟩
 by_cases hlt : i < PR.length
 ·have hwr:=ak hlt (by omega)
  have hltn : i < ns.length:=by omega
  have hlt' : (i : Int) < (PR.length : Int):=by omega
  generalize hxe : ns[i]=v at *
  have hx : ns[i]?=some v:=by rw [List.getElem?_eq_getElem hltn,hxe]
  obtain ⟨p,hp⟩ : ∃ p,PR[i]?=some p:=⟨_,List.getElem?_eq_getElem hlt⟩
  have hA:=hAt i p hp
  have hB:=hBt i p hp
  have hAe : ∀ h,LA[i]'h=.agg [aV (dK PT p.1),Z (dA SH p.1)]:=fun h=>by rw [List.getElem?_eq_getElem h] at hA;exact Option.some.inj hA
  have hBe : ∀ h,LB[i]'h=.agg [aV (dK PT p.2),Z (dA SH p.2)]:=fun h=>by rw [List.getElem?_eq_getElem h] at hB;exact Option.some.inj hB
  have cs:=Iw v (dK PT p.1) (dA SH p.1) (dK PT p.2) (dA SH p.2) (Nh hb _) (Nh hb _)
  have hsk : CG SH PT v p=kj v (dK PT p.1) (dA SH p.1) (dK PT p.2) (dA SH p.2):=rfl
  rw [← hsk] at cs
  cases hsp : CG SH PT v p with
  |true=>
   rw [hsp] at cs
   have hst : Gw SH PR PT ns (i+1):=fun k n q hk hn hq'=>by
    by_cases e : k=i
    ·subst e;rw [hx] at hn;rw [hp] at hq';injection hn with hn;injection hq' with hq';subst hn;subst hq';exact hsp
    ·exact hq k n q (by omega) hn hq'
   with_reducible repeat' (first|refine Sp.h ?_|((first|refine Wd ?_|refine Ss.h ?_|refine Sc.h (cs) ?_|(refine Sb.h ?_ ?_ ?_<;>(try intro hgd)<;>try exact Xy))<;>simp -implicitDefEqProofs (maxSteps:=2000000) [hP,hN,g2,g7,g8,g10,hlt,hlt',hltn,hle,hx,hxe,hwr,hA,hAe,hB,hBe,hLA,hLB]<;>try refine Ya ?_)|refine X2 ?_ ?_|(refine Xd ?_ ?_<;>intro hcd<;>try exact Xx))
   all_goals exact hst
  |false=>
   rw [hsp] at cs
   rw [IA hx hp hsp]
   with_reducible repeat' (first|refine Sp.h ?_|((first|refine Wd ?_|refine Ss.h ?_|refine Sc.h (cs) ?_|(refine Sb.h ?_ ?_ ?_<;>(try intro hgd)<;>try exact Xy))<;>simp -implicitDefEqProofs (maxSteps:=2000000) [hP,hN,g2,g7,g8,g10,hlt,hlt',hltn,hle,hx,hxe,hwr,hA,hAe,hB,hBe,hLA,hLB]<;>try refine Ya ?_)|refine X2 ?_ ?_|(refine Xd ?_ ?_<;>intro hcd<;>try exact Xx))
 ·have hin : i=PR.length:=by omega
  subst hin
  rw [Bn hle (by rw [hle];exact hq)]
  with_reducible repeat' (first|refine Sp.h ?_|((first|refine Wd ?_|refine Ss.h ?_|(refine Sb.h ?_ ?_ ?_<;>(try intro hgd)<;>try exact Xy))<;>simp -implicitDefEqProofs (maxSteps:=2000000) [hP,hN,g2,g7,g8,g10,hLA,hLB]<;>try refine Ya ?_)|refine X2 ?_ ?_|(refine Xd ?_ ?_<;>intro hcd<;>try exact Xx))
end Go.Ab
namespace Go.Ab
open Go.Proofs
theorem Ba {t : Tr} (hv : aB t=true) : ∀ i j,i < t.cells.length→j < t.cells.length→fp (af t) i j=fp (af t) j i:=by
 have key : ∀ {a b : Bx},aD vI a=true→aD vI b=true→bj a b=true→bj b a=true:=by
  intro a b ha hb h
  obtain ⟨h1,h2⟩:=(kS ha hb).1 h
  exact (kS hb ha).2 ⟨h1.symm,fun i x y hx hy=>(h2 i y x hy hx).symm⟩
 intro i j hi hj
 have hbl:=bS hv
 have h1 : (af t)[i]?=some (fv (af t) i):=by simp [fv,List.getElem?_eq_getElem (by omega : i < (af t).length)]
 have h2 : (af t)[j]?=some (fv (af t) j):=by simp [fv,List.getElem?_eq_getElem (by omega : j < (af t).length)]
 have k1:=key (dC h1).2 (dC h2).2
 have k2:=key (dC h2).2 (dC h1).2
 simp only [fp] at *
 cases h : bj (fv (af t) i) (fv (af t) j) with
 |true=>rw [k1 h]
 |false=>
  cases h' : bj (fv (af t) j) (fv (af t) i) with
  |true=>rw [k2 h'] at h;cases h
  |false=>rfl
theorem t9 {t : Tr} {op : List Bool} {p q : List Int} {sort : Int} (hv : aB t=true) : (ff t op p q sort).length≤t.cells.length∧∀ k ∈ ff t op p q sort,k < t.cells.length∧fC t.cells op sort k=true:=by
 unfold ff
 cases h : gl t.cells.length (fC t.cells op sort) (dp (af t) q) (dp (af t) p) (fp (af t)) with
 |true=>
  obtain ⟨b1,b2,b3,_⟩:=oU (Ba hv) h
  refine ⟨b2,fun k hk=>?_⟩
  obtain ⟨j,hj⟩:=List.getElem?_of_mem hk
  obtain ⟨x1,x2,_⟩:=b3 j k hj
  exact ⟨x1,x2⟩
 |false=>simp [gT,h]
theorem Eo {js : List J} {ms : List Ms} (b : List (Int × Int)) : (kc b (aO js ms) && decide (0 < b.length))=jp js ms b:=by
 unfold jp aO
 by_cases hc : ax js ms=0
 ·have hlen:=ol hc
  simp only [hc,if_true,decide_true,Bool.true_and]
  by_cases he : js.length=b.length
  ·have hz : bZ cW b (js.map iT)=bZ (fun j x=>cW x (iT j)) js b:=by
    have e : bZ cW b (js.map iT)=true↔bZ (fun j x=>cW x (iT j)) js b=true:=by
     rw [ke,ke]
     constructor
     ·intro H i h h';have:=H i h' (by simpa using h);simpa using this
     ·intro H i h h';have:=H i (by simpa using h') h;simpa using this
    cases x : bZ cW b (js.map iT)<;>cases y : bZ (fun j x=>cW x (iT j)) js b<;>simp_all
   simp only [kc,List.length_map,hz]
   have p1 : decide (b.length=js.length)=true:=by simp [he]
   have p2 : decide (js.length=b.length)=true:=by simp [he]
   have p3 : decide (0 < b.length)=true:=by simp;omega
   simp only [p1,p2,p3,Bool.true_and,Bool.and_true]
  ·have h1 : decide (b.length=js.length)=false:=by simp;omega
   have h2 : decide (js.length=b.length)=false:=by simp;omega
   simp [kc,h1,h2]
 ·simp only [hc,if_false,decide_false,Bool.false_and]
  unfold kc
  cases b<;>simp
theorem Jy (js : List J) (ms : List Ms) (b : List (Int × Int)) (hl : js.length≤9223372036854775807) (hm : ms.length≤9223372036854775807) (hb : b.length≤9223372036854775807) : ab Tryz.prog 61 [.pv (fx js ms),.pv (iv b)] [] [] (.pv (B (jp js ms b))):=by
 have hll : (aO js ms).length≤9223372036854775807:=by unfold aO;split<;>simp;omega
 have c1:=GS js ms hl hm
 have c2:=Jh b (aO js ms) hb hll
 rw [zF] at c2
 rw [← Eo]
 generalize aO js ms=u at *
 generalize kc b u=v at *
 refine Dp Tryz.func61 ?_
 intro C hP hN
 simp only [Tryz.f61] at hN ⊢
 exact Gy
 all_goals simp_all
theorem Ft (s : Sce) (t : Tr) (i : Int) (hs : ScL s) (hl : t.cells.length≤9223372036854775807) (hr : t.root.length≤9223372036854775807) (hvs : ∀ c ∈ t.cells,c.v.nor.length≤9223372036854775807) : ab Tryz.prog 29 [.pv (eN s),.pv (dc t),.pv (Z i)] [] [] (.pv (.tup [dc (dW s t i),B (ga s t i)])):=by
 have hjs:=hs.js
 have hms:=hs.ms
 have hbl : (dO t i).length≤9223372036854775807:=by
  unfold dO
  split
  ·rename_i h
   simp only [fu,Bool.and_eq_true,decide_eq_true_eq] at h
   have:=(dy h.1.1 (c:=i) (by omega)).2.1
   omega
  ·simp
 have cb:=J6 t i hl
 have cs:=yR s hs
 have ci:=Jy s.js s.ms (dO t i) hjs hms hbl
 cases hp : pP s t i with
 |true=>
  have hp0:=hp
  simp only [pP,Bool.and_eq_true,decide_eq_true_eq] at hp
  obtain ⟨⟨h0,h1⟩,h2⟩:=hp
  have h1':=h1
  simp only [fu,Bool.and_eq_true,decide_eq_true_eq] at h1'
  obtain ⟨k,rfl⟩ : ∃ k : Nat,i=k:=⟨i.toNat,by omega⟩
  have hlt : k < t.cells.length:=by omega
  obtain ⟨c,hc⟩ : ∃ c,t.cells[k]?=some c:=⟨_,List.getElem?_eq_getElem hlt⟩
  have hce : ∀ h,t.cells[k]'h=c:=fun h=>bg hc h
  have hva : ed t k=c.v:=by simp [ed,hc]
  have c4:=JS s (dO t k) c.v.nor hs hbl (hvs c (List.mem_of_getElem? hc))
  have hV : kY s t k=jS (iV s (dO t k) c.v.nor):=by rw [kY,Int.toNat_natCast,hva]
  have hT : dW s t k=dh t k (jS (iV s (dO t k) c.v.nor)):=by rw [dW,if_pos hp0,hV]
  have hO : ga s t k=bv t k (jS (iV s (dO t k) c.v.nor)):=by rw [ga,hp0,Bool.true_and,hV]
  rw [hT,hO]
  have h0' : (az s !=0)=false:=by simp [h0]
  rw [h1] at cb
  rw [h2] at ci
  generalize iV s (dO t k) c.v.nor=V at *
  generalize dO t (k : Int)=b at *
  obtain ⟨kd,nl,⟨pr,A,D⟩⟩:=V
  simp only [jS]
  have c5:=J1 t k ⟨kd,nl,pr,A,D⟩ hl
  refine Dp Tryz.func29 ?_
  intro C hP hN
  simp only [Tryz.f29] at hN ⊢
  exact Gy
 |false=>
  have hT : dW s t i=t:=by rw [dW,if_neg (by simp [hp])]
  have hO : ga s t i=false:=by rw [ga,hp,Bool.false_and]
  rw [hT,hO]
  by_cases h0 : az s=0
  ·have h0' : (az s !=0)=false:=by simp [h0]
   cases h1 : fu t i with
   |false=>
    rw [h1] at cb
    refine Dp Tryz.func29 ?_
    intro C hP hN
    simp only [Tryz.f29] at hN ⊢
    exact Gy
   |true=>
    have h2 : jp s.js s.ms (dO t i)=false:=by simpa [pP,h0,h1] using hp
    rw [h1] at cb
    rw [h2] at ci
    refine Dp Tryz.func29 ?_
    intro C hP hN
    simp only [Tryz.f29] at hN ⊢
    exact Gy
  ·have h0' : (az s !=0)=true:=by simp [h0]
   refine Dp Tryz.func29 ?_
   intro C hP hN
   simp only [Tryz.f29] at hN ⊢
   exact Gy
structure TL (t : Tr) : Prop where
 c : t.cells.length≤1000000
 r : t.root.length≤1000000
 v : ∀ c ∈ t.cells,c.v.nor.length≤9223372036854775807
theorem wL {t : Tr} (h : TL t) (hc : t.cells.length≤999990) (i j : Int) : TL (br t i j):=by
 unfold br
 split
 ·refine ⟨by rw [jV];omega,h.r,fun c hc=>?_⟩
  simp only [fW,List.mem_append] at hc
  have hva : (ed t i.toNat).nor.length≤9223372036854775807:=by
   unfold ed
   split
   ·rename_i c hc;exact h.v c (List.mem_of_getElem? hc)
   ·simp [bz]
  rcases hc with hc|hc
  ·rcases List.mem_or_eq_of_mem_set hc with hc|rfl
   ·exact h.v c hc
   ·simp [bz]
  ·simp only [List.mem_cons,List.not_mem_nil,or_false] at hc
   rcases hc with rfl|rfl<;>exact hva
 ·exact h
theorem Bb {t : Tr} (h : TL t) (i : Int) {v : Verd} (hv : v.nor.length≤9223372036854775807) : TL (dh t i v):=by
 unfold dh
 split
 ·refine ⟨by simpa [dD] using h.c,h.r,fun c hc=>?_⟩
  simp only [dD] at hc
  rcases List.mem_or_eq_of_mem_set hc with hc|rfl
  ·exact h.v c hc
  ·exact hv
 ·exact h
theorem Bc {s : Sce} {t : Tr} (h : TL t) (i : Int) : TL (dW s t i):=by
 unfold dW
 split
 ·refine Bb h i ?_
  have:=(wY s (dO t i) (ed t i.toNat).nor).1
  simp only [kY,jS];omega
 ·exact h
theorem nw (s : Sce) (t : Tr) (i : Int) : (dW s t i).cells.length=t.cells.length∧(dW s t i).root=t.root:=by
 unfold dW dh
 split
 ·split<;>simp [dD]
 ·simp
theorem Jz (s : Sce) (t : Tr) (i j : Int) (hs : ScL s) (hT : TL t) (hc : t.cells.length≤999990) : ab Tryz.prog 31 [.pv (eN s),.pv (dc t),.pv (Z i),.pv (Z j)] [] [] (.pv (.tup [dc (mv s t i j),B (pW s t i j)])):=by
 have hTc:=hT.c
 have hTr:=hT.r
 have c1:=Hg t i j (by omega)
 have hu:=wL hT hc i j
 have hO : pW s t i j=(bF t i j && ga s (br t i j) t.cells.length && ga s (mu s t i j) (t.cells.length+1)):=rfl
 have hF : mv s t i j=if pW s t i j then dW s (mu s t i j) (t.cells.length+1) else t:=rfl
 cases h1 : bF t i j with
 |false=>
  rw [h1,Bool.false_and,Bool.false_and] at hO
  rw [hO,if_neg (by simp)] at hF
  rw [h1] at c1
  rw [hO,hF]
  refine Dp Tryz.func31 ?_
  intro C hP hN
  simp only [Tryz.f31] at hN ⊢
  exact Gy
 |true=>
 rw [h1] at c1 hO
 have hA : mu s t i j=dW s (br t i j) t.cells.length:=rfl
 have c2:=Ft s (br t i j) t.cells.length hs (by have:=hu.c;omega) (by have:=hu.r;omega) hu.v
 rw [← hA] at c2
 have hu2 : TL (mu s t i j):=Bc hu _
 have c3:=Ft s (mu s t i j) (t.cells.length+1) hs (by have:=hu2.c;omega) (by have:=hu2.r;omega) hu2.v
 clear hA hu hu2 hT
 generalize hu9 : br t i j=u at *
 generalize mu s t i j=u2 at *
 have w0 : IntKind.i64.wrap ((t.cells.length : Int)+2)=(t.cells.length : Int)+2:=aa
 have w1 : IntKind.i64.wrap ((t.cells.length : Int)+1)=(t.cells.length : Int)+1:=aa
 have w2 : IntKind.i64.wrap ((t.cells.length : Int)+1+1)=(t.cells.length : Int)+2:=aa
 generalize hn : (t.cells.length : Int)=n at *
 obtain ⟨root,cells⟩:=t
 simp only at *
 cases h2 : ga s u n with
 |false=>
  rw [h2,Bool.and_false,Bool.false_and] at hO
  rw [hO,if_neg (by simp)] at hF
  rw [h2] at c2
  rw [hO,hF]
  refine Dp Tryz.func31 ?_
  intro C hP hN
  simp only [Tryz.f31] at hN ⊢
  refine Gz ?_
  refine WP.loopN [] 1 (fun k st=>st.t 4=.ptr 4 0∧st.h 4=some (.box [.pv (.sl (s.js.map bT)),.pv (.sl (s.ms.map bY)),.pv (.sl (s.shs.map du)),.pv (.sl (s.sks.map aJ))] true false)∧st.t 5=.ptr 5 0∧st.h 5=some (.box [.pv (iv root),.pv (.sl (cells.map cT))] true false)∧st.t 8=.ptr 8 0∧st.h 8=some (.box [.pv (.val (.slice none 0 0)),.pv (.val (.slice none 0 0))] true false)∧st.t 10=.pv (Z n)∧st.t 11=.ptr 11 0∧st.h 11=some (.box [.pv (iv u.root),.pv (.sl (u.cells.map cT))] true false)∧st.t 13=.pv (Z n)∧k=0) (by simp) ?_
  rintro k st hk ⟨g4,hb4,g5,hb5,g8,hb8,g10,g11,hb11,g13,hk0⟩
  subst hk0
  have hlt : n < n+2:=by omega
  exact Gy
 |true=>
 rw [h2,Bool.and_true,Bool.true_and] at hO
 rw [h2] at c2
 cases h3 : ga s u2 (n+1) with
 |false=>
  rw [h3] at hO c3
  rw [hO,if_neg (by simp)] at hF
  rw [hO,hF]
  refine Dp Tryz.func31 ?_
  intro C hP hN
  simp only [Tryz.f31] at hN ⊢
  refine Gz ?_
  refine WP.loopN [] 2 (fun k st=>st.t 4=.ptr 4 0∧st.h 4=some (.box [.pv (.sl (s.js.map bT)),.pv (.sl (s.ms.map bY)),.pv (.sl (s.shs.map du)),.pv (.sl (s.sks.map aJ))] true false)∧st.t 5=.ptr 5 0∧st.h 5=some (.box [.pv (iv root),.pv (.sl (cells.map cT))] true false)∧st.t 8=.ptr 8 0∧st.h 8=some (.box [.pv (.val (.slice none 0 0)),.pv (.val (.slice none 0 0))] true false)∧st.t 10=.pv (Z n)∧st.t 11=.ptr 11 0∧((k=0∧st.h 11=some (.box [.pv (iv u.root),.pv (.sl (u.cells.map cT))] true false)∧st.t 13=.pv (Z n))∨(k=1∧st.h 11=some (.box [.pv (iv u2.root),.pv (.sl (u2.cells.map cT))] true false)∧st.t 13=.pv (Z (n+1))))) (by simp) ?_
  rintro k st hk ⟨g4,hb4,g5,hb5,g8,hb8,g10,g11,⟨hk0,hb11,g13⟩|⟨hk0,hb11,g13⟩⟩
  ·subst hk0
   have hlt : n < n+2:=by omega
   exact Gy
  ·subst hk0
   have hlt : n+1 < n+2:=by omega
   exact Gy
 |true=>
  rw [h3] at hO c3
  rw [hO,if_pos rfl] at hF
  rw [hO,hF]
  generalize dW s u2 (n+1)=u3 at *
  refine Dp Tryz.func31 ?_
  intro C hP hN
  simp only [Tryz.f31] at hN ⊢
  refine Gz ?_
  refine WP.loopN [] 3 (fun k st=>st.t 4=.ptr 4 0∧st.h 4=some (.box [.pv (.sl (s.js.map bT)),.pv (.sl (s.ms.map bY)),.pv (.sl (s.shs.map du)),.pv (.sl (s.sks.map aJ))] true false)∧st.t 5=.ptr 5 0∧st.h 5=some (.box [.pv (iv root),.pv (.sl (cells.map cT))] true false)∧st.t 8=.ptr 8 0∧st.h 8=some (.box [.pv (.val (.slice none 0 0)),.pv (.val (.slice none 0 0))] true false)∧st.t 10=.pv (Z n)∧st.t 11=.ptr 11 0∧((k=0∧st.h 11=some (.box [.pv (iv u.root),.pv (.sl (u.cells.map cT))] true false)∧st.t 13=.pv (Z n))∨(k=1∧st.h 11=some (.box [.pv (iv u2.root),.pv (.sl (u2.cells.map cT))] true false)∧st.t 13=.pv (Z (n+1)))∨(k=2∧st.h 11=some (.box [.pv (iv u3.root),.pv (.sl (u3.cells.map cT))] true false)∧st.t 13=.pv (Z (n+2))))) (by simp) ?_
  rintro k st hk ⟨g4,hb4,g5,hb5,g8,hb8,g10,g11,⟨hk0,hb11,g13⟩|⟨hk0,hb11,g13⟩|⟨hk0,hb11,g13⟩⟩
  ·subst hk0
   have hlt : n < n+2:=by omega
   exact Gy
  ·subst hk0
   have hlt : n+1 < n+2:=by omega
   exact Gy
  ·subst hk0
   exact Gy
end Go.Ab
namespace Go.Ab
open Go.Proofs
theorem Bd {L : List PV} {n i : Nat} {z v : PV} (hL : L.length=n) (hi : i < n) (hv : L[i]?=some v) : (L.take i++List.replicate (n - i) z).set i v=L.take (i+1)++List.replicate (n - (i+1)) z:=by
 have hl : (L.take i).length=i:=by rw [List.length_take];omega
 rw [List.set_append_right _ _ (by omega),hl,Nat.sub_self,show n - i=(n - (i+1))+1 by omega,List.replicate_succ,List.set_cons_zero,List.take_add_one,hv]
 simp
theorem Ct {L : List PV} {n i : Nat} {z : PV} (hL : L.length=n) (hi : i≤n) : (L.take i++List.replicate (n - i) z).length=n:=by
 rw [List.length_append,List.length_take,List.length_replicate];omega
theorem wM {js : List J} {ms : List Ms} {w : Int} {b : Bx} (h : ij js ms b=-1) : mt js ms w b=false:=by simp [mt,h]
theorem Be {js : List J} {ms : List Ms} {w : Int} {b : Bx} {j : Nat} {x : Int × Int} (h : ij js ms b=(j : Int)) (hx : b[j]?=some x) : mt js ms w b=decide (w < x.2 - x.1):=by
 have hj : (0 : Int)≤(j : Int):=by omega
 unfold mt
 rw [h,Int.toNat_natCast,hx,decide_eq_true hj,Bool.true_and]
theorem uV {js : List J} {ms : List Ms} {w : Int} {t : Tr} (hv : aB t=true) : (je js ms w t).length=t.cells.length:=by rw [je,List.length_map,bS hv]
set_option maxRecDepth 10000 in
theorem Ep (js : List J) (ms : List Ms) (t : Tr) (w : Int) (hjl : js.length≤9223372036854775807) (hml : ms.length≤9223372036854775807) (hl : t.cells.length≤9223372036854775807) : ab Tryz.prog 32 [.pv (fx js ms),.pv (dc t),.pv (Z w)] [] [] (.pv (.tup [if aB t then xR t.cells (af t) (je js ms w t) else .agg [.sl [],.sl [],.sl []],B (aB t)])):=by
 have cb:=xu t hl
 cases hv : aB t with
 |false=>
  rw [hv] at cb
  refine Dp Tryz.func32 ?_
  intro C hP hN
  simp only [Tryz.f32] at hN ⊢
  exact Gy
 |true=>
  rw [hv] at cb
  have hbl:=bS hv
  have hz:=aY.1 (cG hv)
  have hol:=uV (js:=js) (ms:=ms) (w:=w) hv
  have hok : ∀ i b,(af t)[i]?=some b→(je js ms w t)[i]?=some (mt js ms w b):=fun i b h=>by rw [je,List.getElem?_map,h];rfl
  generalize hOL : je js ms w t=OL at *
  simp only [if_true]
  generalize hn : t.cells.length=n at *
  have hOm : (OL.map B).length=n:=by rw [List.length_map,hol]
  refine Dp Tryz.func32 ?_
  intro C hP hN
  simp only [Tryz.f32] at hN ⊢
  with_reducible repeat' (first|refine Sp.h ?_|((first|refine Wd ?_|refine Ss.h ?_|refine Sc.h (cb) ?_|(refine Sb.h ?_ ?_ ?_<;>(try intro hgd)<;>try exact Xy))<;>simp -implicitDefEqProofs (maxSteps:=2000000) [hP,hN,hbl,hn,show (1 : Int) * n≤281474976710656 by omega,show (n : Int)≤281474976710656 by omega,show (n : Int)≤9223372036854775807 by omega]<;>try refine Ya ?_)|refine X2 ?_ ?_|(refine Xd ?_ ?_<;>intro hcd<;>try exact Xx))
  refine WP.loopN [] n (fun i st=>st.t 2=.pv (Z w)∧st.t 3=.ptr 3 0∧st.t 6=.ptr 6 0∧st.t 8=.pv (.sl ((af t).map iv))∧st.t 10=.ptr 10 0∧st.t 11=.pv (Z i)∧st.h 3=some (.box [.pv (.sl (js.map bT)),.pv (.sl (ms.map bY))] true false)∧st.h 6=some (.box [.pv (.val (.slice none 0 0)),.pv (.val (.slice none 0 0)),.pv (.val (.slice none 0 0))] true false)∧st.h 10=some (.box [.pv (.sl (t.cells.map cT)),.pv (.sl ((af t).map iv)),.arr 26 n] true false)∧st.h 26=some (.row 4 1 ((OL.map B).take i++List.replicate (n - i) (B false)) 0)) (by simp) ?_
  rintro i st hi ⟨g2,g3,g6,g8,g10,g11,hb3,hb6,hb10,hb26⟩
  have hfl:=Ct (z:=B false) hOm hi
  by_cases hlt : i < n
  ·have hw:=ak hlt (by omega)
   have hib : i < (af t).length:=by omega
   have hbi : (af t)[i]?=some (af t)[i]:=List.getElem?_eq_getElem hib
   have hbok:=dC hbi
   generalize hbx : (af t)[i]=b at *
   have hoi:=hok i b hbi
   have cw:=DA js ms b hjl hml (by omega)
   have hOi : (OL.map B)[i]?=some (B (mt js ms w b)):=by rw [List.getElem?_map,hoi];rfl
   have hfs:=Bd (z:=B false) hOm hlt hOi
   rcases wO js ms b with hj|⟨j,hj,hjl2,_,_,x,hx,hw2⟩
   ·rw [wM hj] at hfs
    rw [hj] at cw
    with_reducible repeat' (first|refine Sp.h ?_|((first|refine Wd ?_|refine Ss.h ?_|refine Sc.h (cw) ?_|(refine Sb.h ?_ ?_ ?_<;>(try intro hgd)<;>try exact Xy))<;>simp -implicitDefEqProofs (maxSteps:=2000000) [hP,hN,g2,g3,g6,g8,g10,g11,hb3,hb6,hb10,hb26,hlt,hw,hib,hbl,hbi,hbx,hfl,hfs]<;>try refine Ya ?_)|refine X2 ?_ ?_|(refine Xd ?_ ?_<;>intro hcd<;>try exact Xx))
   ·rw [Be hj hx] at hfs
    rw [hj] at cw
    have hxe : ∀ h,b[j]'h=x:=fun h=>bg hx h
    have hvx:=bN.1 (bO.1 hbok.2 _ (List.mem_of_getElem? hx))
    have hwx : IntKind.i64.wrap (x.2 - x.1)=x.2 - x.1:=aa
    with_reducible repeat' (first|refine Sp.h ?_|((first|refine Wd ?_|refine Ss.h ?_|refine Sc.h (cw) ?_|(refine Sb.h ?_ ?_ ?_<;>(try intro hgd)<;>try exact Xy))<;>simp -implicitDefEqProofs (maxSteps:=2000000) [hP,hN,g2,g3,g6,g8,g10,g11,hb3,hb6,hb10,hb26,hlt,hw,hib,hbl,hbi,hbx,hfl,hjl2,hx,hxe,hwx,hfs]<;>try refine Ya ?_)|refine X2 ?_ ?_|(refine Xd ?_ ?_<;>intro hcd<;>try exact Xx))
  ·have hin : i=n:=by omega
   subst hin
   rw [List.take_of_length_le (by omega),Nat.sub_self,List.replicate_zero,List.append_nil] at hb26
   with_reducible repeat' (first|refine Sp.h ?_|((first|refine Wd ?_|refine Ss.h ?_|(refine Sb.h ?_ ?_ ?_<;>(try intro hgd)<;>try exact Xy))<;>simp -implicitDefEqProofs (maxSteps:=2000000) [hP,hN,g2,g3,g6,g8,g10,g11,hb3,hb6,hb10,hb26,hlt,hbl,hol]<;>try refine Ya ?_)|refine X2 ?_ ?_|(refine Xd ?_ ?_<;>intro hcd<;>try exact Xx))
theorem zJ (t : Tr) (op : List Bool) (p q : List Int) (sort : Int) (hv : aB t=true) (ho : op.length=t.cells.length) (hp : p.length≤9223372036854775807) (hq : q.length≤9223372036854775807) : ab Tryz.prog 34 [.pv (xR t.cells (af t) op),.pv (zs p),.pv (zs q),.pv (Z sort)] [] [] (.pv (.tup [.sl ((ff t op p q sort).map zN),B (iJ t op p q sort)])):=by
 have hz:=aY.1 (cG hv)
 exact Ge t.cells (af t) op p q sort (by omega) (bS hv) ho (fun b hb=>by
  obtain ⟨j,hj⟩:=List.getElem?_of_mem hb
  have:=(dC hj).1
  omega) hp hq (Ba hv)
def uW (t : Tr) (op : List Bool) (c : List Nat) (i : Nat) : Prop:=∀ j x,j < i→c[j]?=some x→pV t op x=false
theorem uX {js : List J} {ms : List Ms} {t : Tr} {op : List Bool} {c : List Nat} (h : uW t op c c.length) : lZ js ms t op c=(-1,-1,0):=by
 have : c.find? (pV t op)=none:=Bm fun j x hj hx=>h j x hj hx
 rw [lZ,this]
theorem uY {js : List J} {ms : List Ms} {t : Tr} {op : List Bool} {c : List Nat} {i k : Nat} (h : uW t op c i) (hk : c[i]?=some k) (hp : pV t op k=true) : lZ js ms t op c=((k : Int),ij js ms (aq t (k : Int)),3):=by
 have : c.find? (pV t op)=some k:=qb hk hp h
 rw [lZ,this]
set_option maxRecDepth 10000 in
theorem JA (js : List J) (ms : List Ms) (t : Tr) (p q : List Int) (w : Int) (hjl : js.length≤9223372036854775807) (hml : ms.length≤9223372036854775807) (hl : t.cells.length≤9223372036854775807) (hr : t.root.length≤9223372036854775807) (hpl : p.length≤9223372036854775807) (hql : q.length≤9223372036854775807) : ab Tryz.prog 30 [.pv (fx js ms),.pv (dc t),.pv (zs p),.pv (zs q),.pv (Z w)] [] [] (.pv (.tup [Z (eH js ms t p q w).1,Z (eH js ms t p q w).2.1,Z (eH js ms t p q w).2.2])):=by
 have cr:=mn js ms hjl hml
 have cp:=pd t.root p hr hpl
 have cq:=pd t.root q hr hql
 rw [lB] at cp cq
 have co:=Ep js ms t w hjl hml hl
 have hN : eH js ms t p q w=if vM js ms t p q w && aB t then zL js ms t (je js ms w t) p q else (-1,-1,0):=rfl
 have hP : vM js ms t p q w=(decide (ax js ms=0) && decide (t.root.length=js.length) && decide (1≤w) && cI t.root p && cI t.root q):=rfl
 by_cases h0 : ax js ms=0
 case neg=>
  rw [decide_eq_false h0,Bool.false_and,Bool.false_and,Bool.false_and,Bool.false_and] at hP
  rw [hP,Bool.false_and,if_neg (by simp)] at hN
  have h0' : (ax js ms !=0)=true:=by simp [h0]
  rw [hN]
  refine Dp Tryz.func30 ?_
  intro C hP hN
  simp only [Tryz.f30] at hN ⊢
  exact Gy
 have h0' : (ax js ms !=0)=false:=by simp [h0]
 rw [decide_eq_true h0,Bool.true_and] at hP
 by_cases h1 : t.root.length=js.length
 case neg=>
  rw [decide_eq_false h1,Bool.false_and,Bool.false_and,Bool.false_and] at hP
  rw [hP,Bool.false_and,if_neg (by simp)] at hN
  have h1' : ((t.root.length : Int) !=(js.length : Int))=true:=by simp;omega
  rw [hN]
  refine Dp Tryz.func30 ?_
  intro C hP hN
  simp only [Tryz.f30] at hN ⊢
  exact Gy
 have h1' : ((t.root.length : Int) !=(js.length : Int))=false:=by simp [h1]
 rw [decide_eq_true h1,Bool.true_and] at hP
 by_cases h2 : 1≤w
 case neg=>
  rw [decide_eq_false h2,Bool.false_and,Bool.false_and] at hP
  rw [hP,Bool.false_and,if_neg (by simp)] at hN
  have h2' : w < 1:=by omega
  rw [hN]
  refine Dp Tryz.func30 ?_
  intro C hP hN
  simp only [Tryz.f30] at hN ⊢
  exact Gy
 have h2' : ¬ w < 1:=by omega
 rw [decide_eq_true h2,Bool.true_and] at hP
 cases h3 : cI t.root p with
 |false=>
  rw [h3,Bool.false_and] at hP
  rw [hP,Bool.false_and,if_neg (by simp)] at hN
  rw [h3] at cp
  rw [hN]
  refine Dp Tryz.func30 ?_
  intro C hP hN
  simp only [Tryz.f30] at hN ⊢
  exact Gy
 |true=>
 rw [h3,Bool.true_and] at hP
 rw [h3] at cp
 cases h4 : cI t.root q with
 |false=>
  rw [h4] at hP cq
  rw [hP,Bool.false_and,if_neg (by simp)] at hN
  rw [hN]
  refine Dp Tryz.func30 ?_
  intro C hP hN
  simp only [Tryz.f30] at hN ⊢
  exact Gy
 |true=>
 rw [h4] at hP cq
 rw [hP,Bool.true_and] at hN
 cases hv : aB t with
 |false=>
  rw [hv,if_neg (by simp)] at hN
  rw [hv,if_neg (by simp)] at co
  rw [hN]
  refine Dp Tryz.func30 ?_
  intro C hP hN
  simp only [Tryz.f30] at hN ⊢
  exact Gy
 |true=>
 rw [hv,if_pos rfl] at hN co
 rw [hN]
 clear hN hP
 have hz:=aY.1 (cG hv)
 have hbl:=bS hv
 have hol:=uV (js:=js) (ms:=ms) (w:=w) hv
 generalize je js ms w t=OL at *
 have b0:=zJ t OL p q 0 hv hol hpl hql
 have b1:=zJ t OL p q 1 hv hol hpl hql
 have b2:=zJ t OL p q 2 hv hol hpl hql
 have b3:=zJ t OL p q 3 hv hol hpl hql
 have hG : zL js ms t OL p q=if iJ t OL p q 0=true then (-1,-1,1) else if iJ t OL p q 3=false then (-1,-1,2) else if iJ t OL p q 1=true then lZ js ms t OL (ff t OL p q 1) else if iJ t OL p q 2=true then (-1,-1,5) else lZ js ms t OL (ff t OL p q 3):=rfl
 rw [hG]
 clear hG
 have m1:=t9 (op:=OL) (p:=p) (q:=q) (sort:=1) hv
 have m3:=t9 (op:=OL) (p:=p) (q:=q) (sort:=3) hv
 cases e0 : iJ t OL p q 0 with
 |true=>
  rw [e0] at b0
  simp only [if_true]
  generalize ff t OL p q 0=C0 at *
  refine Dp Tryz.func30 ?_
  intro C hP hN
  simp only [Tryz.f30] at hN ⊢
  exact Gy
 |false=>
 rw [e0] at b0
 simp only [Bool.false_eq_true,if_false]
 cases e3 : iJ t OL p q 3 with
 |false=>
  rw [e3] at b3
  simp only [if_true]
  generalize ff t OL p q 0=C0 at *
  generalize ff t OL p q 3=C3 at *
  refine Dp Tryz.func30 ?_
  intro C hP hN
  simp only [Tryz.f30] at hN ⊢
  exact Gy
 |true=>
 rw [e3] at b3
 simp only [Bool.true_eq_false,if_false]
 cases e1 : iJ t OL p q 1 with
 |true=>
  rw [e1] at b1
  simp only [if_true]
  obtain ⟨hlen,hmem⟩:=m1
  generalize ff t OL p q 0=C0 at *
  generalize ff t OL p q 1=C1 at *
  generalize ff t OL p q 3=C3 at *
  refine Dp Tryz.func30 ?_
  intro C hP hN
  simp only [Tryz.f30] at hN ⊢
  refine Gz ?_
  refine WP.loopN [] (C1).length (fun i st=>st.t 5=.ptr 5 0∧st.h 5=some (.box [.pv (.sl (js.map bT)),.pv (.sl (ms.map bY))] true false)∧st.t 13=.ptr 13 0∧st.h 13=some (.box [.pv (.sl (t.cells.map cT)),.pv (.sl ((af t).map iv)),.pv (.sl (OL.map B))] true false)∧st.t 17=.pv (.sl ((C1).map zN))∧st.t 23=.pv (Z i)∧uW t OL (C1) i) ?_ ?_
  ·simp
   exact fun j x hj=>by omega
  rintro i st hi ⟨g5,hb5,g13,hb13,g17,g23,hq0⟩
  by_cases hlt : i < (C1).length
  ·have hlt' : (i : Int) < ((C1).length : Int):=by omega
   have hwr:=ak hlt (by omega)
   generalize hke : (C1)[i]=k at *
   have hk : (C1)[i]?=some k:=by rw [List.getElem?_eq_getElem hlt,hke]
   obtain ⟨hkn,_⟩:=hmem k (List.mem_of_getElem? hk)
   obtain ⟨c,hc⟩ : ∃ c,t.cells[k]?=some c:=⟨_,List.getElem?_eq_getElem hkn⟩
   have hce : ∀ h,t.cells[k]'h=c:=fun h=>bg hc h
   have hko : k < OL.length:=by omega
   obtain ⟨o,ho⟩ : ∃ o,OL[k]?=some o:=⟨_,List.getElem?_eq_getElem hko⟩
   have hoe : ∀ h,OL[k]'h=o:=fun h=>bg ho h
   have hkb : k < (af t).length:=by omega
   have hbk : (af t)[k]?=some (aq t (k : Int)):=(dy hv (c:=(k : Int)) hkn).1
   have hbe : ∀ h,(af t)[k]'h=aq t (k : Int):=fun h=>bg hbk h
   have cw:=DA js ms (aq t (k : Int)) hjl hml (by have:=(dy hv (c:=(k : Int)) hkn).2.1;omega)
   have hnp : pV t OL k=(decide (c.v.kind=0) && o):=by simp [pV,ed,hc,ho]
   by_cases hk0 : c.v.kind=0
   ·have hk0' : (c.v.kind==0)=true:=by simp [hk0]
    cases o with
    |true=>
     have:=uY (js:=js) (ms:=ms) hq0 hk (by rw [hnp,hk0];rfl)
     rw [this]
     exact Gy
    |false=>
     have hst : uW t OL (C1) (i+1):=fun j x hj hx=>by
      by_cases e : j=i
      ·subst e;rw [hk] at hx;injection hx with hx;subst hx;rw [hnp,Bool.and_false]
      ·exact hq0 j x (by omega) hx
     exact Gy
     all_goals exact hst
   ·have hk0' : (c.v.kind==0)=false:=by simp [hk0]
    have hst : uW t OL (C1) (i+1):=fun j x hj hx=>by
     by_cases e : j=i
     ·subst e;rw [hk] at hx;injection hx with hx;subst hx;rw [hnp,decide_eq_false hk0,Bool.false_and]
     ·exact hq0 j x (by omega) hx
    exact Gy
    all_goals exact hst
  ·have hin : i=(C1).length:=by omega
   subst hin
   rw [uX hq0]
   exact Gy
 |false=>
 rw [e1] at b1
 simp only [Bool.false_eq_true,if_false]
 cases e2 : iJ t OL p q 2 with
 |true=>
  rw [e2] at b2
  simp only [if_true]
  generalize ff t OL p q 0=C0 at *
  generalize ff t OL p q 1=C1 at *
  generalize ff t OL p q 2=C2 at *
  generalize ff t OL p q 3=C3 at *
  refine Dp Tryz.func30 ?_
  intro C hP hN
  simp only [Tryz.f30] at hN ⊢
  exact Gy
 |false=>
  rw [e2] at b2
  simp only [Bool.false_eq_true,if_false]
  obtain ⟨hlen,hmem⟩:=m3
  generalize ff t OL p q 0=C0 at *
  generalize ff t OL p q 1=C1 at *
  generalize ff t OL p q 2=C2 at *
  generalize ff t OL p q 3=C3 at *
  refine Dp Tryz.func30 ?_
  intro C hP hN
  simp only [Tryz.f30] at hN ⊢
  refine Gz ?_
  refine WP.loopN [] (C3).length (fun i st=>st.t 5=.ptr 5 0∧st.h 5=some (.box [.pv (.sl (js.map bT)),.pv (.sl (ms.map bY))] true false)∧st.t 13=.ptr 13 0∧st.h 13=some (.box [.pv (.sl (t.cells.map cT)),.pv (.sl ((af t).map iv)),.pv (.sl (OL.map B))] true false)∧st.t 17=.pv (.sl ((C3).map zN))∧st.t 23=.pv (Z i)∧uW t OL (C3) i) ?_ ?_
  ·simp
   exact fun j x hj=>by omega
  rintro i st hi ⟨g5,hb5,g13,hb13,g17,g23,hq0⟩
  by_cases hlt : i < (C3).length
  ·have hlt' : (i : Int) < ((C3).length : Int):=by omega
   have hwr:=ak hlt (by omega)
   generalize hke : (C3)[i]=k at *
   have hk : (C3)[i]?=some k:=by rw [List.getElem?_eq_getElem hlt,hke]
   obtain ⟨hkn,_⟩:=hmem k (List.mem_of_getElem? hk)
   obtain ⟨c,hc⟩ : ∃ c,t.cells[k]?=some c:=⟨_,List.getElem?_eq_getElem hkn⟩
   have hce : ∀ h,t.cells[k]'h=c:=fun h=>bg hc h
   have hko : k < OL.length:=by omega
   obtain ⟨o,ho⟩ : ∃ o,OL[k]?=some o:=⟨_,List.getElem?_eq_getElem hko⟩
   have hoe : ∀ h,OL[k]'h=o:=fun h=>bg ho h
   have hkb : k < (af t).length:=by omega
   have hbk : (af t)[k]?=some (aq t (k : Int)):=(dy hv (c:=(k : Int)) hkn).1
   have hbe : ∀ h,(af t)[k]'h=aq t (k : Int):=fun h=>bg hbk h
   have cw:=DA js ms (aq t (k : Int)) hjl hml (by have:=(dy hv (c:=(k : Int)) hkn).2.1;omega)
   have hnp : pV t OL k=(decide (c.v.kind=0) && o):=by simp [pV,ed,hc,ho]
   by_cases hk0 : c.v.kind=0
   ·have hk0' : (c.v.kind==0)=true:=by simp [hk0]
    cases o with
    |true=>
     have:=uY (js:=js) (ms:=ms) hq0 hk (by rw [hnp,hk0];rfl)
     rw [this]
     exact Gy
    |false=>
     have hst : uW t OL (C3) (i+1):=fun j x hj hx=>by
      by_cases e : j=i
      ·subst e;rw [hk] at hx;injection hx with hx;subst hx;rw [hnp,Bool.and_false]
      ·exact hq0 j x (by omega) hx
     exact Gy
     all_goals exact hst
   ·have hk0' : (c.v.kind==0)=false:=by simp [hk0]
    have hst : uW t OL (C3) (i+1):=fun j x hj hx=>by
     by_cases e : j=i
     ·subst e;rw [hk] at hx;injection hx with hx;subst hx;rw [hnp,decide_eq_false hk0,Bool.false_and]
     ·exact hq0 j x (by omega) hx
    exact Gy
    all_goals exact hst
  ·have hin : i=(C3).length:=by omega
   subst hin
   rw [uX hq0]
   exact Gy
end Go.Ab
namespace Go.Ab
open Go.Proofs
theorem yN {a b c : List Iv} (h : k8 a b) (g : k8 b c) : k8 a c:=⟨h.1.trans g.1,fun k x z hx hz=>by
 obtain ⟨hl,_⟩:=List.getElem?_eq_some_iff.1 hx
 have hy : b[k]?=some (b[k]'(by rw [← h.1];exact hl)):=List.getElem?_eq_getElem _
 exact (h.2 k _ _ hx hy).trans (g.2 k _ _ hy hz)⟩
theorem Er {b : List Iv} (hv : aD vI b=true) : k8 b b:=⟨rfl,fun k x y hx hy=>by
 rw [hx] at hy;injection hy with hy;subst hy
 exact SubI.refl (bO.1 hv _ (List.mem_of_getElem? hx))⟩
theorem Bf {t : Tr} (hv : aB t=true) {i : Nat} (hi : i < t.cells.length) : k8 (aq t (i : Int)) t.root:=by
 have hrv:=(aY.1 (cG hv)).2.2.2.2
 have key : ∀ (k : Nat) (L : OL),(∀ (j : Nat) b,L[j]?=some (some b)→k8 b t.root)→∀ c L',dv t.cells.length k c L=some L'→L.length=t.cells.length→(∀ (j : Nat) b,L'[j]?=some (some b)→k8 b t.root):=by
  intro k L hL c L' hs hl j b hb
  obtain ⟨b0,hb0,⟨_,_,rfl⟩|⟨_,hin,hh,_,_,rfl⟩⟩:=eO hs
  ·exact hL j b hb
  ·have h0:=hL k b0 hb0
   rw [se hl hin] at hb
   split at hb
   ·injection hb with hb;injection hb with hb;subst hb
    exact yN (vk hh).2 h0
   ·split at hb
    ·injection hb with hb;injection hb with hb;subst hb
     exact yN (vk hh).1 h0
    ·exact hL j b hb
 obtain ⟨L,hL⟩:=Option.isSome_iff_exists.1 hv
 have hP:=ju (P:=fun k M=>BOk t k M∧∀ (j : Nat) b,M[j]?=some (some b)→k8 b t.root) hL ⟨oR (jb hL),fun j b hb=>by
  cases j with
  |zero=>simp [fT] at hb;subst hb;exact Er hrv
  |succ j=>simp [fT,List.getElem?_replicate] at hb⟩ (fun k c M M' _ hp hm=>⟨oS hp.1 hm,key k M hp.2 c M' hm hp.1.len⟩)
 obtain ⟨b,hb⟩:=hP.1.pre i hi
 rw [Ds hL hb]
 exact hP.2 i b hb
theorem Es {js : List J} {ms : List Ms} {b : Bx} (hc : ax js ms=0) (h : k8 b (aO js ms)) : jp js ms b=true:=by
 have hl : aO js ms=js.map iT:=by simp [aO,hc]
 rw [hl] at h
 obtain ⟨h1,h2⟩:=h
 rw [List.length_map] at h1
 simp only [jp,hc,h1,decide_true,Bool.true_and]
 rw [ke]
 intro i hi hi'
 have:=h2 i b[i] (iT js[i]) (List.getElem?_eq_getElem hi') (by rw [List.getElem?_map,List.getElem?_eq_getElem hi];rfl)
 simp only [cW,Bool.and_eq_true,decide_eq_true_eq]
 exact ⟨⟨⟨this.vx,this.vy⟩,this.lo⟩,this.hi⟩
theorem yh {js : List J} {ms : List Ms} (h : ax js ms=0) : ∀ (i : Nat) j,js[i]?=some j→bb js i j=0:=by
 unfold ax at h
 split at h
 ·cases h
 ·split at h
  ·rename_i hne;exact absurd h hne
  ·rename_i he
   intro i j hij
   have he' : fP js=0:=by simpa using he
   rw [kH] at he'
   by_cases hz : bb js i j=0
   ·exact hz
   ·exfalso
    cases hf : (js.mapIdx (bb js)).find? (fun e=>e !=0) with
    |none=>
     rw [List.find?_eq_none] at hf
     have hm : bb js i j ∈ js.mapIdx (bb js):=by
      rw [List.mem_mapIdx]
      obtain ⟨h1,h2⟩:=List.getElem?_eq_some_iff.1 hij
      exact ⟨i,h1,by rw [h2]⟩
     exact hf _ hm (by simpa using hz)
    |some e=>
     rw [hf] at he'
     have:=List.find?_some hf
     simp only at he'
     rw [he'] at this
     simp at this
theorem Cu {js : List J} {i : Nat} {j : J} (h : bb js i j=0) : -4194304≤j.lo∧j.lo≤j.hi∧j.hi≤4194304:=by
 have:=mV j.kind
 unfold bb at h
 repeat' split at h
 all_goals (try (cases h;done))
 all_goals omega
theorem Bg {js : List J} {ms : List Ms} (h : ax js ms=0) : cD (aO js ms)=true:=by
 have hl : aO js ms=js.map iT:=by simp [aO,h]
 have hlen:=ol h
 rw [hl]
 simp only [cD,List.length_map,Bool.and_eq_true,decide_eq_true_eq]
 refine ⟨⟨by omega,by omega⟩,bO.2 fun x hx=>?_⟩
 obtain ⟨j,hj,rfl⟩:=List.mem_map.1 hx
 obtain ⟨i,hi⟩:=List.getElem?_of_mem hj
 have:=Cu (yh h i j hi)
 exact bN.2 ⟨by simp only [iT];omega,by simp only [iT];omega,by simp only [iT];omega⟩
theorem rT {s : Sce} (h : az s=0) : ax s.js s.ms=0:=Decidable.byContradiction fun hn=>by
 unfold az at h;rw [if_pos hn] at h;exact hn h
theorem Fu {js : List J} {ms : List Ms} {t : Tr} {op : List Bool} {C : List Nat} {a b : Int} (h : lZ js ms t op C=(a,b,3)) : ∃ k,k ∈ C∧a=(k : Int)∧b=ij js ms (aq t (k : Int))∧pV t op k=true:=by
 unfold lZ at h
 split at h
 ·rename_i k hk
  injection h with h1 h2;injection h2 with h2 _
  exact ⟨k,List.mem_of_find?_eq_some hk,h1.symm,h2.symm,by have:=List.find?_some hk;exact this⟩
 ·injection h with _ h2;injection h2 with _ h3;cases h3
structure Nx (t : Tr) (a b : Int) : Prop where
 ex : ∃ k j : Nat,a=(k : Int)∧b=(j : Int)∧k < t.cells.length∧cZ t k=true∧(ed t k).kind=0∧aP (aq t (k : Int)) (j : Int)=true
theorem Bh {t : Tr} {op : List Bool} {sort : Int} {k : Nat} (h : fC t.cells op sort k=true) : cZ t k=true:=by
 unfold fC at h
 unfold cZ
 split at h
 ·rename_i c hc
  simp only [Bool.and_eq_true] at h
  rw [hc];exact h.1
 ·cases h
theorem Cv {js : List J} {ms : List Ms} {t : Tr} {p q : List Int} {w a b : Int} (h : eH js ms t p q w=(a,b,3)) : Nx t a b:=by
 unfold eH at h
 split at h
 case isFalse=>injection h with _ h2;injection h2 with _ h3;cases h3
 rename_i hc
 simp only [Bool.and_eq_true,vM,decide_eq_true_eq] at hc
 obtain ⟨⟨⟨⟨⟨_,_⟩,hw⟩,_⟩,_⟩,hv⟩:=hc
 have fin : ∀ sort,lZ js ms t (je js ms w t) (ff t (je js ms w t) p q sort)=(a,b,3)→Nx t a b:=fun sort h=>by
  obtain ⟨k,hk,ha,hb,hp⟩:=Fu h
  obtain ⟨hkn,hm⟩:=(t9 hv).2 k hk
  simp only [pV,Bool.and_eq_true,decide_eq_true_eq] at hp
  obtain ⟨hb1,hb2,hb3⟩:=dy hv (c:=(k : Int)) (by simpa using hkn)
  have hop : mt js ms w (aq t (k : Int))=true:=by
   have h2:=hp.2
   rw [je,List.getElem?_map] at h2
   rw [Int.toNat_natCast] at hb1
   rw [hb1] at h2
   simpa using h2
  rcases wO js ms (aq t (k : Int)) with e|⟨j,e,h1,_,_,x,hx,hx2⟩
  ·rw [wM e] at hop;cases hop
  ·refine ⟨k,j,ha,hb.trans e,hkn,Bh hm,hp.1,mg.2 ⟨by omega,hb3,x,by simpa using hx,hx2⟩⟩
 unfold zL at h
 split at h
 ·injection h with _ h2;injection h2 with _ h3;cases h3
 ·split at h
  ·injection h with _ h2;injection h2 with _ h3;cases h3
  ·split at h
   ·exact fin 1 h
   ·split at h
    ·injection h with _ h2;injection h2 with _ h3;cases h3
    ·exact fin 3 h
structure DeI (s : Sce) (t : Tr) : Prop where
 valid : aB t=true
 root : t.root=aO s.js s.ms
 tl : TL t
theorem zK {t : Tr} (hv : aB t=true) {k : Nat} (hk : cZ t k=true) (hlt : k < t.cells.length) (h0 : (ed t k).kind=0) {V : Verd} (hf : bX V=true) : bv t (k : Int) V=true:=by
 unfold bv
 rw [hv,Int.toNat_natCast,hk,h0,hf,decide_eq_true (by omega : (0 : Int)≤(k : Int)),decide_eq_true (by omega : (k : Int) < (t.cells.length : Int))]
 rfl
theorem ua {s : Sce} {t : Tr} (h0 : az s=0) (hI : DeI s t) {k : Nat} (hk : cZ t k=true) (hlt : k < t.cells.length) (hz : (ed t k).kind=0) : ga s t (k : Int)=true∧dW s t (k : Int)=dD t k (kY s t (k : Int))∧DeI s (dW s t (k : Int)):=by
 obtain ⟨b1,b2⟩:=BF hI.valid hlt
 have hin : jp s.js s.ms (dO t (k : Int))=true:=by
  rw [b2]
  exact Es (rT h0) (by rw [← hI.root];exact Bf hI.valid hlt)
 have hp : pP s t (k : Int)=true:=by simp [pP,h0,b1,hin]
 have hs : bv t (k : Int) (kY s t (k : Int))=true:=zK hI.valid hk hlt hz (BG _ _ _)
 have e1 : dW s t (k : Int)=dh t (k : Int) (kY s t (k : Int)):=by rw [dW,if_pos hp]
 have e2 : dh t (k : Int) (kY s t (k : Int))=dD t k (kY s t (k : Int)):=by rw [dh,if_pos hs,Int.toNat_natCast]
 obtain ⟨v1,v2,v3,_⟩:=xE hI.valid (k : Int) (kY s t (k : Int))
 refine ⟨by rw [ga,hp,hs];rfl,e1.trans e2,?_⟩
 refine ⟨by rw [e1];exact v1,by rw [e1,v2];exact hI.root,Bc hI.tl _⟩
theorem Fw {s : Sce} {t : Tr} {a b : Int} (h0 : az s=0) (hI : DeI s t) (hn : Nx t a b) (hl : t.cells.length+2≤2048) : pW s t a b=true∧DeI s (mv s t a b)∧(mv s t a b).cells.length=t.cells.length+2:=by
 obtain ⟨k,j,rfl,rfl,hlt,hk,hz,hh⟩:=hn.ex
 have hbx : (af t)[k]?=some (aq t (k : Int)):=(dy hI.valid (c:=(k : Int)) (by simpa using hlt)).1
 have hsp : bF t (k : Int) (j : Int)=true:=by
  simp only [bF,hI.valid,Int.toNat_natCast,hk,hbx,Option.getD_some,hh,Bool.and_true,Bool.true_and,Bool.and_eq_true,decide_eq_true_eq]
  exact ⟨⟨by omega,by omega⟩,hl⟩
 have hu : br t (k : Int) (j : Int)=fW t k (j : Int) (ed t k):=by rw [br,if_pos hsp,Int.toNat_natCast]
 obtain ⟨v1,v2,v3⟩:=yn hI.valid (k : Int) (j : Int)
 have hIu : DeI s (br t (k : Int) (j : Int)):=⟨v1,by rw [v2];exact hI.root,wL hI.tl (by omega) _ _⟩
 have c1 : (br t (k : Int) (j : Int)).cells[t.cells.length]?=some (bh (ed t k)):=by
  rw [hu];simp only [fW]
  rw [List.getElem?_append_right (by simp)];simp
 have c2 : (br t (k : Int) (j : Int)).cells[t.cells.length+1]?=some (bh (ed t k)):=by
  rw [hu];simp only [fW]
  rw [List.getElem?_append_right (by simp)];simp
 have hul : (br t (k : Int) (j : Int)).cells.length=t.cells.length+2:=by rw [hu,jV]
 have hrA : mu s t (k : Int) (j : Int)=dW s (br t (k : Int) (j : Int)) (t.cells.length : Int):=rfl
 have hO : pW s t (k : Int) (j : Int)=(bF t (k : Int) (j : Int) && ga s (br t (k : Int) (j : Int)) (t.cells.length : Int) && ga s (mu s t (k : Int) (j : Int)) ((t.cells.length : Int)+1)):=rfl
 have hF : mv s t (k : Int) (j : Int)=if pW s t (k : Int) (j : Int) then dW s (mu s t (k : Int) (j : Int)) ((t.cells.length : Int)+1) else t:=rfl
 generalize br t (k : Int) (j : Int)=u at *
 have lk : ∀ (x : Tr) (i : Nat) V,x.cells[i]?=some (bh V)→cZ x i=true∧ed x i=V:=fun x i V h=>⟨by simp only [cZ,h];exact iP V,by simp [ed,h,bh]⟩
 obtain ⟨l1,y1⟩:=lk u t.cells.length _ c1
 obtain ⟨o1,e1,I1⟩:=ua h0 hIu l1 (by omega) (by rw [y1];exact hz)
 rw [← hrA] at e1 I1
 generalize mu s t (k : Int) (j : Int)=u2 at *
 have c3 : u2.cells[t.cells.length+1]?=some (bh (ed t k)):=by
  rw [e1];simp only [dD]
  rw [List.getElem?_set,if_neg (by omega)];exact c2
 have hul2 : u2.cells.length=t.cells.length+2:=by rw [e1];simp [dD,hul]
 obtain ⟨l2,y2⟩:=lk u2 (t.cells.length+1) _ c3
 obtain ⟨o2,e2,I2⟩:=ua h0 I1 l2 (by omega) (by rw [y2];exact hz)
 rw [Int.natCast_add,Int.natCast_one] at o2 e2 I2
 have hok : pW s t (k : Int) (j : Int)=true:=by rw [hO,hsp,o1,o2];rfl
 rw [hok,if_pos rfl] at hF
 rw [hF]
 refine ⟨hok,I2,?_⟩
 rw [(nw _ _ _).1,hul2]
theorem Fx {s : Sce} (h0 : az s=0) : DeI s (pX s)∧(pX s).cells.length=1∧fo (aO s.js s.ms)=⟨aO s.js s.ms,[bh bz]⟩∧TL (fo (aO s.js s.ms)):=by
 have hr:=Bg (rT h0)
 have hn:=BH hr
 have hlen : (aO s.js s.ms).length≤10:=by
  simp only [cD,Bool.and_eq_true,decide_eq_true_eq] at hr;omega
 have ht : TL (fo (aO s.js s.ms)):=by
  rw [hn]
  refine ⟨by simp,by simp only;omega,fun c hc=>?_⟩
  simp at hc;subst hc;simp [bh,bz]
 have hI : DeI s (fo (aO s.js s.ms)):=⟨by rw [hn,vq];exact hr,by rw [hn],ht⟩
 have hlf : cZ (fo (aO s.js s.ms)) 0=true∧(ed (fo (aO s.js s.ms)) 0).kind=0:=by
  rw [hn];exact ⟨iP _,rfl⟩
 obtain ⟨_,_,h3⟩:=ua h0 hI hlf.1 (by rw [hn];simp) hlf.2
 refine ⟨h3,?_,hn,ht⟩
 rw [pX,(nw _ _ _).1,hn];rfl
end Go.Ab
namespace Go.Ab
open Go.Proofs
theorem Cw {s : Sce} {p q : List Int} {w cells : Int} {f : Nat} {t : Tr} (h : (eH s.js s.ms t p q w).2.2≠3) : lf s p q w cells (f+1) t=(t,(eH s.js s.ms t p q w).2.2):=by
 simp only [lf,if_neg h]
theorem Cy {s : Sce} {p q : List Int} {w cells : Int} {f : Nat} {t : Tr} (h : (eH s.js s.ms t p q w).2.2=3) (hc : cells - 2 < t.cells.length) : lf s p q w cells (f+1) t=(t,4):=by
 simp only [lf,if_pos h,if_pos hc]
theorem Cz {s : Sce} {p q : List Int} {w cells : Int} {f : Nat} {t : Tr} (h : (eH s.js s.ms t p q w).2.2=3) (hc : ¬ cells - 2 < t.cells.length) : lf s p q w cells (f+1) t=lf s p q w cells f (mv s t (eH s.js s.ms t p q w).1 (eH s.js s.ms t p q w).2.1):=by
 simp only [lf,if_pos h,if_neg hc]
set_option maxRecDepth 10000 in
theorem JB (s : Sce) (p q : List Int) (w cells : Int) (hs : ScL s) (hpl : p.length≤9223372036854775807) (hql : q.length≤9223372036854775807) : ab Tryz.prog 10 [.pv (eN s),.pv (zs p),.pv (zs q),.pv (Z w),.pv (Z cells)] [] [] (.pv (.tup [dc (uZ s p q w cells).1,Z (uZ s p q w cells).2])):=by
 have cs:=yR s hs
 have cp:=GR s.js s.ms p hs.js hs.ms
 have cq:=GR s.js s.ms q hs.js hs.ms
 have hd : uZ s p q w cells=if vN s p q w cells then lf s p q w cells 2048 (pX s) else (⟨[],[]⟩,0):=rfl
 have hP : vN s p q w cells=(decide (az s=0) && eU s.js s.ms p && eU s.js s.ms q && decide (1≤w) && decide (1≤cells) && decide (cells≤2048)):=rfl
 by_cases h0 : az s=0
 case neg=>
  rw [decide_eq_false h0] at hP
  simp only [Bool.false_and] at hP
  rw [hP,if_neg (by simp)] at hd
  have h0' : (az s !=0)=true:=by simp [h0]
  rw [hd]
  refine Dp Tryz.func10 ?_
  intro C hP hN
  simp only [Tryz.f10] at hN ⊢
  exact Gy
 have h0' : (az s !=0)=false:=by simp [h0]
 rw [decide_eq_true h0,Bool.true_and] at hP
 cases h1 : eU s.js s.ms p with
 |false=>
  rw [h1] at hP cp
  simp only [Bool.false_and] at hP
  rw [hP,if_neg (by simp)] at hd
  rw [hd]
  refine Dp Tryz.func10 ?_
  intro C hP hN
  simp only [Tryz.f10] at hN ⊢
  exact Gy
 |true=>
 rw [h1] at hP cp
 rw [Bool.true_and] at hP
 cases h2 : eU s.js s.ms q with
 |false=>
  rw [h2] at hP cq
  simp only [Bool.false_and] at hP
  rw [hP,if_neg (by simp)] at hd
  rw [hd]
  refine Dp Tryz.func10 ?_
  intro C hP hN
  simp only [Tryz.f10] at hN ⊢
  exact Gy
 |true=>
 rw [h2] at hP cq
 rw [Bool.true_and] at hP
 by_cases h3 : 1≤w
 case neg=>
  rw [decide_eq_false h3] at hP
  simp only [Bool.false_and] at hP
  rw [hP,if_neg (by simp)] at hd
  have h3' : w < 1:=by omega
  rw [hd]
  refine Dp Tryz.func10 ?_
  intro C hP hN
  simp only [Tryz.f10] at hN ⊢
  exact Gy
 have h3' : ¬ w < 1:=by omega
 rw [decide_eq_true h3,Bool.true_and] at hP
 by_cases h4 : 1≤cells
 case neg=>
  rw [decide_eq_false h4] at hP
  simp only [Bool.false_and] at hP
  rw [hP,if_neg (by simp)] at hd
  have h4' : cells < 1:=by omega
  rw [hd]
  refine Dp Tryz.func10 ?_
  intro C hP hN
  simp only [Tryz.f10] at hN ⊢
  exact Gy
 have h4' : ¬ cells < 1:=by omega
 rw [decide_eq_true h4,Bool.true_and] at hP
 by_cases h5 : cells≤2048
 case neg=>
  rw [decide_eq_false h5] at hP
  rw [hP,if_neg (by simp)] at hd
  have h5' : 2048 < cells:=by omega
  rw [hd]
  refine Dp Tryz.func10 ?_
  intro C hP hN
  simp only [Tryz.f10] at hN ⊢
  exact Gy
 have h5' : ¬ 2048 < cells:=by omega
 rw [decide_eq_true h5] at hP
 rw [hP,if_pos rfl] at hd
 have hwc : IntKind.i64.wrap (cells - 2)=cells - 2:=aa
 have cl:=GS s.js s.ms hs.js hs.ms
 have cn:=Hf (aO s.js s.ms)
 obtain ⟨I0,hl0,hnt,hT0⟩:=Fx h0
 have cc:=Ft s (fo (aO s.js s.ms)) 0 hs (by have:=hT0.c;omega) (by have:=hT0.r;omega) hT0.v
 have hde : dW s (fo (aO s.js s.ms)) 0=pX s:=rfl
 rw [hde] at cc
 have hrk:=Bg (rT h0)
 rw [hrk] at cn
 generalize ga s (fo (aO s.js s.ms)) 0=o1 at *
 clear hde hnt hT0
 generalize fo (aO s.js s.ms)=t0 at *
 generalize hRES : lf s p q w cells 2048 (pX s)=RES at *
 rw [hd]
 clear hd
 generalize hd0 : pX s=d0 at *
 have hrf:=fun (t : Tr) (a b : Int) (hI : DeI s t) (hn : Nx t a b) (hl : t.cells.length+2≤2048)=>Fw h0 hI hn hl
 have cx:=fun (t : Tr) (hI : DeI s t)=>JA s.js s.ms t p q w hs.js hs.ms (by have:=hI.tl.c;omega) (by have:=hI.tl.r;omega) hpl hql
 have crf:=fun (t : Tr) (hI : DeI s t) (hc : t.cells.length≤999990) (i j : Int)=>Jz s t i j hs hI.tl hc
 have hnf:=fun (t : Tr) (a b : Int) (h : eH s.js s.ms t p q w=(a,b,3))=>Cv h
 have hstop:=fun (f : Nat) (t : Tr)=>Cw (s:=s) (p:=p) (q:=q) (w:=w) (cells:=cells) (f:=f) (t:=t)
 have hfull:=fun (f : Nat) (t : Tr)=>Cy (s:=s) (p:=p) (q:=q) (w:=w) (cells:=cells) (f:=f) (t:=t)
 have hmore:=fun (f : Nat) (t : Tr)=>Cz (s:=s) (p:=p) (q:=q) (w:=w) (cells:=cells) (f:=f) (t:=t)
 obtain ⟨js,ms,SH,sks⟩:=s
 simp only at *
 refine Dp Tryz.func10 ?_
 intro C hP hN
 simp only [Tryz.f10] at hN ⊢
 refine Gz ?_
 refine WP.loopN [] 1100 (fun i st=>∃ t,DeI ⟨js,ms,SH,sks⟩ t∧t.cells.length=1+2 * i∧t.cells.length≤2048∧lf ⟨js,ms,SH,sks⟩ p q w cells (2048 - i) t=RES∧st.t 1=.pv (zs p)∧st.t 2=.pv (zs q)∧st.t 3=.pv (Z w)∧st.t 4=.pv (Z cells)∧st.t 5=.ptr 5 0∧st.h 5=some (.box [.pv (.sl (js.map bT)),.pv (.sl (ms.map bY)),.pv (.sl (SH.map du)),.pv (.sl (sks.map aJ))] true false)∧st.t 10=.ptr 10 0∧st.h 10=some (.box [.pv (.val (.slice none 0 0)),.pv (.val (.slice none 0 0))] true false)∧st.t 12=.ptr 12 0∧st.h 12=some (.box [.pv (iv t.root),.pv (.sl (t.cells.map cT))] true false)) ?_ ?_
 ·refine ⟨d0,I0,by omega,by omega,hRES,?_⟩
  simp
 rintro i st hi ⟨t,hI,htl,ht2,hgo,g1,g2,g3,g4,g5,hb5,g10,hb10,g12,hb12⟩
 have c1:=cx t hI
 rw [show 2048 - i=(2048 - (i+1))+1 by omega] at hgo
 by_cases e3 : (eH js ms t p q w).2.2=3
 ·have e3' : ((eH js ms t p q w).2.2 !=3)=false:=by simp [e3]
  by_cases e4 : cells - 2 < t.cells.length
  ·rw [hfull _ t e3 e4] at hgo
   subst hgo
   generalize eH js ms t p q w=NR at *
   exact Gy
  ·rw [hmore _ t e3 e4] at hgo
   have hNx:=hnf t (eH js ms t p q w).1 (eH js ms t p q w).2.1 (by rw [← e3])
   have c2:=crf t hI (by omega) (eH js ms t p q w).1 (eH js ms t p q w).2.1
   obtain ⟨r1,r2,r3⟩:=hrf t _ _ hI hNx (by omega)
   rw [r1] at c2
   generalize eH js ms t p q w=NR at *
   generalize mv ⟨js,ms,SH,sks⟩ t NR.1 NR.2.1=t' at *
   refine Gz ?_
   all_goals exact ⟨by omega,t',r2,by omega,by omega,(by rw [show 2047 - i=2048 - (i+1) by omega];exact hgo),rfl,rfl⟩
 ·have e3' : ((eH js ms t p q w).2.2 !=3)=true:=by simp [e3]
  rw [hstop _ t e3] at hgo
  subst hgo
  generalize eH js ms t p q w=NR at *
  exact Gy
end Go.Ab
namespace Go.Ab
open Go.Proofs
def NW (cs : List Cel) : Prop:=∀ c ∈ cs,c.v.nor.length≤1048576
theorem A4 {cs : List Cel} (h : NW cs) {c : Cel} (hc : c.v.nor.length≤1048576) (i : Nat) : NW (cs.set i c):=fun d hd=>by
 rcases List.mem_or_eq_of_mem_set hd with hd|rfl
 ·exact h d hd
 ·exact hc
theorem Cm {t : Tr} (h : NW t.cells) (i j : Int) : NW (br t i j).cells:=by
 unfold br
 split
 ·have hva : (ed t i.toNat).nor.length≤1048576:=by
   unfold ed
   split
   ·rename_i c hc;exact h c (List.mem_of_getElem? hc)
   ·simp [bz]
  intro c hc
  simp only [fW,List.mem_append] at hc
  rcases hc with hc|hc
  ·exact A4 h (c:=⟨j,t.cells.length,t.cells.length+1,bz⟩) (by simp [bz]) _ c hc
  ·simp at hc;subst hc;exact hva
 ·exact h
theorem wG {s : Sce} {t : Tr} (h : NW t.cells) (i : Int) : NW (dW s t i).cells:=by
 unfold dW
 split
 ·unfold dh
  split
  ·have hl:=wY s (dO t i) (ed t i.toNat).nor
   exact A4 h (by simp only [bh,kY,jS];omega) _
  ·exact h
 ·exact h
theorem Gs {s : Sce} {t : Tr} (h : NW t.cells) (i j : Int) : NW (mv s t i j).cells:=by
 unfold mv
 split
 ·exact wG (wG (Cm h i j) _) _
 ·exact h
theorem Ej (s : Sce) (t : Tr) (i j : Int) : (mv s t i j).cells.length≤t.cells.length+2∧(mv s t i j).root=t.root:=by
 unfold mv
 split
 ·have a:=nw s (mu s t i j) ((t.cells.length : Int)+1)
  have b:=nw s (br t i j) (t.cells.length : Int)
  have hA : mu s t i j=dW s (br t i j) (t.cells.length : Int):=rfl
  rw [hA] at a ⊢
  rw [a.1,a.2,b.1,b.2]
  unfold br
  split
  ·rw [jV];exact ⟨Nat.le_refl _,rfl⟩
  ·exact ⟨by omega,rfl⟩
 ·exact ⟨by omega,rfl⟩
theorem A5 {s : Sce} {p q : List Int} {w cells : Int} (hc : cells≤2048) : ∀ (f : Nat) (t : Tr),NW t.cells→t.cells.length≤2048→NW (lf s p q w cells f t).1.cells∧(lf s p q w cells f t).1.cells.length≤2048∧(lf s p q w cells f t).1.root=t.root
 |0,t,h,hl=>⟨h,hl,rfl⟩
 |f+1,t,h,hl=>by
  simp only [lf]
  split
  ·split
   ·exact ⟨h,hl,rfl⟩
   ·rename_i h2
    have r:=Ej s t (eH s.js s.ms t p q w).1 (eH s.js s.ms t p q w).2.1
    have ih:=A5 (s:=s) (p:=p) (q:=q) (w:=w) hc f (mv s t (eH s.js s.ms t p q w).1 (eH s.js s.ms t p q w).2.1) (Gs h (eH s.js s.ms t p q w).1 (eH s.js s.ms t p q w).2.1) (by omega)
    exact ⟨ih.1,ih.2.1,ih.2.2.trans r.2⟩
  ·exact ⟨h,hl,rfl⟩
theorem Fj {s : Sce} {p q : List Int} {w cells : Int} (hj : s.js.length≤1000) : ((uZ s p q w cells).1.root.length≤1000000∧NW (uZ s p q w cells).1.cells)∧(uZ s p q w cells).1.cells.length≤2048:=by
 unfold uZ
 split
 ·rename_i h
  have hc : cells≤2048:=by simp only [vN,Bool.and_eq_true,decide_eq_true_eq] at h;exact h.2
  have hz : NW (fo (aO s.js s.ms)).cells∧(fo (aO s.js s.ms)).cells.length≤1∧(fo (aO s.js s.ms)).root.length≤1000:=by
   unfold fo
   split
   ·refine ⟨fun c hc=>?_,by simp,?_⟩
    ·simp at hc;subst hc;simp [bh,bz]
    ·simp only [aO];split<;>simp;omega
   ·exact ⟨fun c hc=>by simp at hc,by simp,by simp⟩
  have h0 : NW (pX s).cells:=wG hz.1 0
  have hl:=nw s (fo (aO s.js s.ms)) 0
  have hd : pX s=dW s (fo (aO s.js s.ms)) 0:=rfl
  rw [← hd] at hl
  obtain ⟨r1,r2,r3⟩:=A5 (s:=s) (p:=p) (q:=q) (w:=w) hc 2048 (pX s) h0 (by omega)
  exact ⟨⟨by rw [r3,hl.2];omega,r1⟩,r2⟩
 ·exact ⟨⟨by simp,fun c hc=>by simp at hc⟩,by simp⟩
end Go.Ab
namespace Go.Ab
open Go.Proofs
abbrev V3:=Int × Int × Int
def k3 (v : V3) : List Int:=[v.1,v.2.1,v.2.2]
theorem A2 {a b : V3} : k3 a=k3 b↔a=b:=by
 obtain ⟨a1,a2,a3⟩:=a
 obtain ⟨b1,b2,b3⟩:=b
 simp [k3]
def jZ : List V3→V3→Nat
 |[],_=>0
 |v :: r,n=>if v=n then 0 else jZ r n+1
def io (tb : List V3) (n : V3) : Bool:=tb.any (fun v=>v==n)
theorem lW (v : V3) (r : List V3) (n : V3) : io (v :: r) n=(v==n || io r n):=rfl
theorem wF : ∀ {tb : List V3} {n : V3},io tb n=false→jZ tb n=tb.length
 |[],_,_=>rfl
 |v :: r,n,h=>by
  rw [lW,Bool.or_eq_false_iff] at h
  have : v≠n:=by simpa using h.1
  simp [jZ,this,wF h.2]
def rA : List V3→Nat→List (List Int × Value)
 |[],_=>[]
 |v :: r,i=>(k3 v,.int .i64 i) :: rA r (i+1)
theorem yE : ∀ (tb : List V3) (i : Nat) (n : V3),rJ (rA tb i) (k3 n)=if io tb n=true then some (.int .i64 ((i+jZ tb n : Nat) : Int)) else none
 |[],i,n=>by simp [rA,rJ,io]
 |v :: r,i,n=>by
  rw [rA,rJ,lW]
  by_cases e : v=n
  ·subst e;simp [jZ]
  ·have : k3 v≠k3 n:=fun h=>e (A2.1 h)
   rw [if_neg this,yE r (i+1) n]
   simp [e,jZ,show i+1+jZ r n=i+(jZ r n+1) by omega]
theorem yF : ∀ {tb : List V3} {i : Nat} {n : V3},io tb n=false→kT (rA tb i) (k3 n) (.int .i64 ((i+tb.length : Nat) : Int))=rA (tb++[n]) i
 |[],i,n,_=>by simp [rA,kT]
 |v :: r,i,n,h=>by
  rw [lW,Bool.or_eq_false_iff] at h
  have e : v≠n:=by simpa using h.1
  have : k3 v≠k3 n:=fun h=>e (A2.1 h)
  have ih:=yF (tb:=r) (i:=i+1) h.2
  rw [show i+1+r.length=i+(v :: r).length by simp;omega] at ih
  rw [rA,kT,if_neg this,ih]
  rfl
def db (ns : List V3) : Nat→List V3
 |0=>[]
 |k+1=>match ns[k]? with
  |some n=>if io (db ns k) n=true then db ns k else db ns k++[n]
  |none=>db ns k
def jr (ns : List V3) : Nat→List Int
 |0=>[]
 |k+1=>match ns[k]? with
  |some n=>jr ns k++[(jZ (db ns k) n : Int)]
  |none=>jr ns k
theorem yH {ns : List V3} {k : Nat} {n : V3} (h : ns[k]?=some n) (hh : io (db ns k) n=true) : db ns (k+1)=db ns k:=by simp [db,h,hh]
theorem yI {ns : List V3} {k : Nat} {n : V3} (h : ns[k]?=some n) (hh : io (db ns k) n=false) : db ns (k+1)=db ns k++[n]:=by simp [db,h,hh]
theorem rS {ns : List V3} {k : Nat} {n : V3} (h : ns[k]?=some n) : jr ns (k+1)=jr ns k++[(jZ (db ns k) n : Int)]:=by simp [jr,h]
theorem qT (ns : List V3) : ∀ k,(db ns k).length≤k
 |0=>by simp [db]
 |k+1=>by
  have:=qT ns k
  rw [db]
  split
  ·split
   ·omega
   ·simp;omega
  ·omega
theorem lC (ns : List V3) : ∀ k,k≤ns.length→(jr ns k).length=k
 |0,_=>by simp [jr]
 |k+1,h=>by
  rw [rS (List.getElem?_eq_getElem (show k < ns.length by omega))]
  simp [lC ns k (by omega)]
abbrev mr (ns : List V3) : PV:=.agg [aR (db ns ns.length),.sl [.agg [Z 0,Z 0,zs (jr ns ns.length)]]]
end Go.Ab
namespace Go.Ab
open Go.Proofs
def lb (t : Tr) (l : Int) : Bool:=(ed t l.toNat).kind==1
abbrev lY (ns : List V3) : PV:=mr ns
def mX (t : Tr) (l : Int) : List V3:=(ed t l.toNat).nor
def pU (t : Tr) (l : Int) : PV:=lY (mX t l)
def kw (s : Sce) (t : Tr) (chain p q : List Int) : Bool:=decide (az s=0) && bk t chain p q && decide (chain.length≤255)
def kf (s : Sce) (t : Tr) (chain p q : List Int) : Bool:=kw s t chain p q && chain.all (lb t)
abbrev jJ (ps : List (List Int)) (es : List PV) : PV:=.agg [.sl (ps.map zs),.sl es]
def ip (s : Sce) (t : Tr) (chain p q : List Int) : PV:=if kf s t chain p q then jJ (dM t chain p q) (chain.map (pU t)) else jJ [] []
theorem DH {t : Tr} {chain p q : List Int} (h : bk t chain p q=true) : (dM t chain p q).length=chain.length+1:=by
 simp [dM,h]
theorem ov {s : Sce} {t : Tr} {chain p q : List Int} (h : kf s t chain p q=false) : ip s t chain p q=jJ [] []:=by
 simp [ip,h]
theorem Fl {s : Sce} {t : Tr} {chain p q : List Int} (h : kf s t chain p q=true) : ip s t chain p q=jJ (dM t chain p q) (chain.map (pU t)):=by
 simp [ip,h]
theorem A7 {α : Type} {f : α→Bool} {l : List α} {i : Nat} {x : α} (hx : l[i]?=some x) (h : f x=false) : l.all f=false:=by
 rw [← Bool.not_eq_true,List.all_eq_true]
 intro ha
 have:=ha x (List.mem_of_getElem? hx)
 rw [h] at this;cases this
theorem Fm {α : Type} {f : α→Bool} {l : List α} (h : ∀ k x,k < l.length→l[k]?=some x→f x=true) : l.all f=true:=by
 rw [List.all_eq_true]
 intro x hx
 obtain ⟨i,hi,rfl⟩:=List.getElem_of_mem hx
 exact h i _ hi (List.getElem?_eq_getElem hi)
theorem wH {α β : Type} (f : α→β) {l : List α} {i : Nat} {x : α} (hx : l[i]?=some x) : (l.take i).map f++[f x]=(l.take (i+1)).map f:=by
 obtain ⟨hi,rfl⟩:=List.getElem?_eq_some_iff.1 hx
 rw [List.take_succ_eq_append_getElem hi,List.map_append];rfl
def yL (t : Tr) (chain : List Int) (i : Nat) : Prop:=∀ k x,k < i→chain[k]?=some x→lb t x=true
theorem wI (t : Tr) (chain : List Int) : yL t chain 0:=fun k x h=>by omega
theorem wJ {t : Tr} {chain : List Int} {i : Nat} {x : Int} (h : yL t chain i) (hx : chain[i]?=some x) (hf : lb t x=true) : yL t chain (i+1):=fun k y hk hy=>by
 by_cases e : k=i
 ·subst e;rw [hx] at hy;injection hy with hy;rw [← hy];exact hf
 ·exact h k y (by omega) hy
theorem yM {t : Tr} {chain : List Int} {i : Nat} (h : yL t chain i) (hi : ¬ i < chain.length) : chain.all (lb t)=true:=
 Fm fun k x hk hx=>h k x (by omega) hx
end Go.Ab
namespace Go.Ab
theorem WP.freezeB {C : Cx} {c : Code} {Q : Exit→St→Prop} {st : St} (kb j : Nat) {k e sz fz : Nat} {xs : List PV} {cs : List AV} {own fb : Bool} (hb : st.h kb=some (.box cs own fb)) (hj : cs[j]?=some (.arr k xs.length)) (hk : st.h k=some (.row e sz xs fz))
 (h : WP C c Q ⟨st.t,aw (aw st.h k (some (.row e sz xs xs.length))) kb (some (.box (cs.set j (.pv (.sl xs))) own fb))⟩) : WP C c Q st:=by
 intro a w hs
 obtain ⟨L,hm,hN,hdf,htm⟩:=hs
 obtain ⟨hA,hR⟩:=nY hm hk
 have hne : kb≠k:=by intro e;subst e;rw [hb] at hk;cases hk
 have hb1 : (aw st.h k (some (.row e sz xs xs.length))) kb=some (.box cs own fb):=by rw [aM hne];exact hb
 have hv : ∀ u,RepA w (ai C L st.h) L st.h (.arr k xs.length) u→u=(L k).slice xs.length:=fun u hu=>by
  cases hu with
  |arr hk2 hn2 hu=>
   rw [hk] at hk2;injection hk2 with hk2;injection hk2 with _ _ a3 _
   subst a3
   exact hu rfl
 have hbk:=hm.bl kb _ hb
 obtain ⟨arr,ty,hc,hl,hr⟩:=hbk
 have hown:=hm.own kb _ hb
 have hpk:=MemL.touch_pk (w':=w) hA.1 (blk':=.box (cs.set j (.pv (.sl xs))) own fb) hb1 (fun _ _ _=>rfl) (fun _ _ _ _ h=>h) (fun o h=>h) rfl Iff.rfl
 have h3:=MemL.touch (w':=w) hA.1 (blk':=.box (cs.set j (.pv (.sl xs))) own fb) hb1 (fun _ _ _=>rfl) (Nat.le_refl _) rfl rfl rfl (fun _ _ _ _ h=>h) (fun o h=>h) rfl Iff.rfl (by cases own<;>exact hown) ⟨arr,ty,hc,by simpa using hl,fun i p u hp hu=>?_⟩
 ·refine h a w ⟨L,h3.1,hN,hdf,fun n=>?_⟩
  exact ((htm n).mono hA.2.1 hA.2.2).mono h3.2.1 h3.2.2
 ·rw [List.getElem?_set] at hp
  by_cases ei : j=i
  ·subst ei
   rw [if_pos rfl] at hp
   split at hp
   ·injection hp with hp;subst hp
    have:=hv u (hr j _ u hj hu)
    subst this
    exact (RepA.pv hR).mono hpk.1 hpk.2
   ·cases hp
  ·rw [if_neg ei] at hp
   exact ((hr i p u hp hu).mono hA.2.1 hA.2.2).mono hpk.1 hpk.2
end Go.Ab
namespace Go.Ab
open Go.Proofs
def zI (x y : AV) (fb : Option aT) : Option aT:=match mJ x,mJ y with
 |some (a,b,e),some (c,d,f)=>some (.pv (.val (.bool (a==c && b==d && e==f))),[])
 |_,_=>fb
@[simp] theorem IX {dst : Option Nat} {ty : TypeId} {pos : String} {aft : Array Edge} {g : Option (Nat × Bool)} {ρ : Operand→AV} (x y : Operand) :
 aG Tryz.prog ⟨dst,.binOp .eql 77 x y 77,ty,pos,aft,g⟩ ρ=zI (ρ x) (ρ y) (dU Tryz.prog ⟨dst,.binOp .eql 77 x y 77,ty,pos,aft,g⟩ ρ):=by
 unfold zI
 split
 ·rename_i a b e c d f hx hy
  exact oh rfl (iN hx) (iN hy) (by kernel_rfl) (Ao a b e c d f)
 ·rfl
@[simp] theorem Gt (a b e c d f : Int) (fb : Option aT) : zI (.pv (.val (.agg #[.int .i64 a,.int .i64 b,.int .i64 e]))) (.pv (.val (.agg #[.int .i64 c,.int .i64 d,.int .i64 f]))) fb=some (.pv (.val (.bool (a==c && b==d && e==f))),[]):=rfl
def Co (x : AV) (fb : Option aT) : Option aT:=match x with
 |.pv (.val (.slice none 0 0))=>some (.pv (Z 0),[])
 |_=>fb
@[simp] theorem HV (fb : Option aT) : Co (.pv (.val (.slice none 0 0))) fb=some (.pv (Z 0),[]):=rfl
@[simp] theorem IY {dst : Option Nat} {ty : TypeId} {pos : String} {aft : Array Edge} {g : Option (Nat × Bool)} {ρ : Operand→AV} (x : Operand) :
 aG Tryz.prog ⟨dst,.call ⟨.builtin .len,#[x],#[57]⟩,ty,pos,aft,g⟩ ρ=Co (ρ x) (dU Tryz.prog ⟨dst,.call ⟨.builtin .len,#[x],#[57]⟩,ty,pos,aft,g⟩ ρ):=by
 unfold Co
 split
 ·rename_i hx
  refine bB (by simp [Op.operands,hx,cE]) ?_
  unfold execOp
  have hv : kr (ρ x)=.slice none 0 0:=(aK hx).2
  have h0 : ∀ b : Bool,ag Tryz.prog (builtin Builtin.len #[57] ty #[b] #[Value.slice none 0 0])=some (Next.value (Value.int IntKind.i64 0)):=by
   intro b
   simp only [builtin]
   kernel_rfl
  simp [resolve,hv,invoke,ae,h0]
 ·rfl
end Go.Ab
namespace Go.Ab
open Go.Proofs
abbrev t8 (ns : List V3) : PV:=.agg [Z 0,Z 0,aR ns]
end Go.Ab
namespace Go.Ab
open Go.Proofs
set_option maxRecDepth 100000 in
@[simp] theorem IZ : er Tryz.prog 76:=by
 have hf:=Tryz.func76;have nt:=Tryz.ntmps76;have rs:=Tryz.results76;exact E2
def G3 (ns : List V3) (k : Nat) (h : Hp) : Prop:=(k=0∧h 2=some (.box [.pv (.val (.slice none 0 0)),.pv (.val (.slice none 0 0))] true false)∧h 6=some (.box [.pv (Z 0),.pv (Z 0),.pv (.val (.slice none 0 0))] true false)∧h 49=none∧h 55=none)∨(0 < k∧h 2=some (.box [.arr 49 (db ns k).length,.pv (.val (.slice none 0 0))] true false)∧h 6=some (.box [.pv (Z 0),.pv (Z 0),.arr 55 k] true false)∧h 49=some (.row 77 3 ((db ns k).map aH) 0)∧h 55=some (.row 3 1 ((jr ns k).map Z) 0))
def DK (ns : List V3) (i : Nat) (h : Hp) : Prop:=(i=0∧h 2=some (.box [.pv (.val (.slice none 0 0)),.pv (.val (.slice none 0 0))] true false)∧h 5=none∧h 6=none∧h 8=none∧h 49=none∧h 55=none∧h 62=none∧h 12=some (.mp .i64 3 [] false))∨(i=1∧ns=[]∧h 2=some (.box [.pv (.val (.slice none 0 0)),.arr 62 1] true false)∧h 62=some (.row 151 3 [.agg [Z 0,Z 0,.sl []]] 0))∨(i=1∧h 2=some (.box [.arr 49 (db ns ns.length).length,.arr 62 1] true false)∧h 49=some (.row 77 3 ((db ns ns.length).map aH) 0)∧h 62=some (.row 151 3 [.agg [Z 0,Z 0,zs (jr ns ns.length)]] 0))
theorem Jv (ns : List V3) (hl : ns.length≤1048576) : ab Tryz.prog 42 [.pv (.sl [t8 ns])] [] [] (.pv (mr ns)):=by
 have w1 : IntKind.i64.wrap 1=1:=by decide
 refine Dp Tryz.func42 ?_
 intro C hP hN
 simp only [Tryz.f42] at hN ⊢
 with_reducible repeat' (first|refine Sp.h ?_|((first|refine Ss.h ?_|(refine Sb.h ?_ ?_ ?_<;>(try intro hgd)<;>try exact Xy))<;>simp -implicitDefEqProofs (maxSteps:=2000000) [hP,hN])|refine X2 ?_ ?_|(refine Xd ?_ ?_<;>intro hcd<;>try exact Xx))
 refine WP.loopN [5,6,8,55] 1 (fun i st=>st.t 2=.ptr 2 0∧st.t 3=.ext (.mp 12)∧st.t 13=.pv (.sl [t8 ns])∧st.t 14=.pv (Z 1)∧st.t 15=.pv (Z i)∧DK ns i st.h) (by simp [DK]) ?_
 rintro i st hi ⟨g2,g3,g13,g14,g15,hO⟩
 rcases hO with ⟨hi0,b2,b5,b6,b8,b49,b55,b62,b12⟩|⟨hi1,hns,b2,b62⟩|⟨hi1,b2,b49,b62⟩
 ·subst hi0
  with_reducible repeat' (first|refine Sp.h ?_|((first|refine Ss.h ?_|(refine Sb.h ?_ ?_ ?_<;>(try intro hgd)<;>try exact Xy))<;>simp -implicitDefEqProofs (maxSteps:=2000000) [hP,hN,g2,g3,g13,g14,g15,b2,b5,b6,b8,b49,b55,b62,b12])|refine X2 ?_ ?_|(refine Xd ?_ ?_<;>intro hcd<;>try exact Xx))
  refine WP.loopN [8] ns.length (fun k st=>st.t 2=.ptr 2 0∧st.t 3=.ext (.mp 12)∧st.t 6=.ptr 6 0∧st.t 13=.pv (.sl [t8 ns])∧st.t 14=.pv (Z 1)∧st.t 15=.pv (Z (0 : Nat))∧st.t 25=.pv (aR ns)∧st.t 26=.pv (Z ns.length)∧st.t 27=.pv (Z k)∧st.h 8=none∧st.h 62=none∧st.h 12=some (.mp .i64 3 (rA (db ns k) 0) false)∧G3 ns k st.h) (by simp [G3,g2,g3,g13,g14,g15,b8,b49,b55,b62,b2,b12,db,rA]) ?_
  clear g2 g3 g13 g14 g15 b2 b5 b6 b8 b49 b55 b62 b12
  rintro k st hk ⟨g2,g3,g6,g13,g14,g15,g25,g26,g27,b8,b62,b12,hR⟩
  have hTl:=qT ns k
  have hNl:=lC ns k hk
  by_cases hlt : k < ns.length
  ·have hw:=ak hlt (by omega)
   have hx : ns[k]?=some ns[k]:=List.getElem?_eq_getElem hlt
   have hNs:=rS hx
   have hNl':=lC ns (k+1) hlt
   have hG:=yE (db ns k) 0 ns[k]
   have hMs:=fun (h : io (db ns k) ns[k]=false)=>yF (tb:=db ns k) (i:=0) (n:=ns[k]) h
   generalize hxe : ns[k]=v at *
   obtain ⟨v1,v2,v3⟩:=v
   simp only [k3,Nat.zero_add] at hG hMs
   have hf1 : (k+1) * 8≤140737488355328:=by omega
   have hf2 : ((db ns k).length+1) * 24≤140737488355328:=by omega
   have hf3 : k+1≤9223372036854775807:=by omega
   have hf4 : (db ns k).length+1≤9223372036854775807:=by omega
   cases hh : io (db ns k) (v1,v2,v3) with
   |true=>
    have hTn:=yH hx hh
    rw [hh,if_pos rfl] at hG
    rcases hR with ⟨hk0,b2,b6,b49,b55⟩|⟨hkp,b2,b6,b49,b55⟩
    ·subst hk0;simp [db,io] at hh
    ·skip
     with_reducible repeat' (first|refine Sp.h ?_|((first|refine Ss.h ?_|(refine Sb.h ?_ ?_ ?_<;>(try intro hgd)<;>try exact Xy))<;>simp -implicitDefEqProofs (maxSteps:=2000000) [hP,hN,g2,g3,g6,g13,g14,g15,g25,g26,g27,b8,b62,b12,b2,b6,b49,b55,hlt,hw,hx,hxe,hG,hNl,hf1,hf3])|refine X2 ?_ ?_|(refine Xd ?_ ?_<;>intro hcd<;>try exact Xx))
     all_goals (refine ⟨by rw [hTn],.inr ⟨by omega,?_⟩⟩;simp [hTn,hNs,b2,b6,b49,b55])
   |false=>
    have hTn:=yI hx hh
    have hpi:=wF hh
    rw [hh,if_neg (by simp)] at hG
    have hMs:=hMs hh
    rw [hpi] at hNs
    rcases hR with ⟨hk0,b2,b6,b49,b55⟩|⟨hkp,b2,b6,b49,b55⟩
    ·subst hk0
     rw [show db ns 0=[] from rfl] at hTn hNs hG hMs b12
     rw [show jr ns 0=[] from rfl] at hNs
     with_reducible repeat' (first|refine Sp.h ?_|((first|refine Ss.h ?_|(refine Sb.h ?_ ?_ ?_<;>(try intro hgd)<;>try exact Xy))<;>simp -implicitDefEqProofs (maxSteps:=2000000) [hP,hN,g2,g3,g6,g13,g14,g15,g25,g26,g27,b8,b62,b12,b2,b6,b49,b55,hlt,hw,hx,hxe,hG,w1])|refine X2 ?_ ?_|(refine Xd ?_ ?_<;>intro hcd<;>try exact Xx))
     all_goals (refine ⟨by first|rw [hTn];simpa using hMs|simpa [hTn] using hMs,.inr ⟨by omega,?_⟩⟩;simp [hTn,hNs,b2,b6,b49,b55])
    ·skip
     with_reducible repeat' (first|refine Sp.h ?_|((first|refine Ss.h ?_|(refine Sb.h ?_ ?_ ?_<;>(try intro hgd)<;>try exact Xy))<;>simp -implicitDefEqProofs (maxSteps:=2000000) [hP,hN,g2,g3,g6,g13,g14,g15,g25,g26,g27,b8,b62,b12,b2,b6,b49,b55,hlt,hw,hx,hxe,hG,hNl,hf1,hf2,hf3,hf4])|refine X2 ?_ ?_|(refine Xd ?_ ?_<;>intro hcd<;>try exact Xx))
     all_goals (refine ⟨by rw [hTn];exact hMs,.inr ⟨by omega,?_⟩⟩;simp [hTn,hNs,b2,b6,b49,b55])
  ·have hkc : k=ns.length:=by omega
   subst hkc
   rcases hR with ⟨hk0,b2,b6,b49,b55⟩|⟨hkp,b2,b6,b49,b55⟩
   ·have hns : ns=[]:=by simpa using hk0
    subst hns
    with_reducible repeat' (first|refine Sp.h ?_|((first|refine Ss.h ?_|(refine Sb.h ?_ ?_ ?_<;>(try intro hgd)<;>try exact Xy))<;>simp -implicitDefEqProofs (maxSteps:=2000000) [hP,hN,g2,g3,g6,g13,g14,g15,g25,g26,g27,b8,b62,b12,b2,b6,b49,b55,hlt])|refine X2 ?_ ?_|(refine Xd ?_ ?_<;>intro hcd<;>try exact Xx))
    all_goals simp [DK,w1,jr]
   ·refine WP.freezeB 6 2 (k:=55) b6 (by simp [hNl]) b55 ?_
    with_reducible repeat' (first|refine Sp.h ?_|((first|refine Ss.h ?_|(refine Sb.h ?_ ?_ ?_<;>(try intro hgd)<;>try exact Xy))<;>simp -implicitDefEqProofs (maxSteps:=2000000) [hP,hN,g2,g3,g6,g13,g14,g15,g25,g26,g27,b8,b62,b12,b2,b6,b49,b55,hlt])|refine X2 ?_ ?_|(refine Xd ?_ ?_<;>intro hcd<;>try exact Xx))
    all_goals simp [DK,w1,b49]
 ·subst hi1
  subst hns
  with_reducible repeat' (first|refine Sp.h ?_|((first|refine Ss.h ?_|(refine Sb.h ?_ ?_ ?_<;>(try intro hgd)<;>try exact Xy))<;>simp -implicitDefEqProofs (maxSteps:=2000000) [hP,hN,g2,g3,g13,g14,g15,b2,b62])|refine X2 ?_ ?_|(refine Xd ?_ ?_<;>intro hcd<;>try exact Xx))
  all_goals simp [db,jr]
 ·subst hi1
  with_reducible repeat' (first|refine Sp.h ?_|((first|refine Ss.h ?_|(refine Sb.h ?_ ?_ ?_<;>(try intro hgd)<;>try exact Xy))<;>simp -implicitDefEqProofs (maxSteps:=2000000) [hP,hN,g2,g3,g13,g14,g15,b2,b49,b62])|refine X2 ?_ ?_|(refine Xd ?_ ?_<;>intro hcd<;>try exact Xx))
end Go.Ab
namespace Go.Ab
open Go.Proofs
set_option maxRecDepth 100000 in
@[simp] theorem I3 : er Tryz.prog 40:=by
 have hf:=Tryz.func40;have nt:=Tryz.ntmps40;have rs:=Tryz.results40;exact E3
theorem wK {t : Tr} (hn : ∀ c ∈ t.cells,c.v.nor.length≤1048576) (l : Int) : (mX t l).length≤1048576:=by
 unfold mX ed
 split
 ·rename_i c hc;exact hn c (List.mem_of_getElem? hc)
 ·simp [bz]
theorem nv {s : Sce} {t : Tr} {chain p q : List Int} (h : kw s t chain p q=false) : kf s t chain p q=false:=by simp [kf,h]
def DL (a b : Nat) (P : PV) (t : Tr) (chain : List Int) (i : Nat) (h : Hp) : Prop:=(i=0∧h a=some (.box [.pv P,.pv (.val (.slice none 0 0))] true false)∧h b=none)∨(0 < i∧h a=some (.box [.pv P,.arr b i] true false)∧h b=some (.row 60 2 ((chain.take i).map (pU t)) 0))
set_option maxRecDepth 10000 in
theorem Jw (s : Sce) (t : Tr) (chain p q : List Int) (hs : ScL s) (hl : t.cells.length≤9223372036854775807) (hr : t.root.length≤9223372036854775807) (hk : chain.length≤1000000) (hn : ∀ c ∈ t.cells,c.v.nor.length≤1048576) : ab Tryz.prog 15 [.pv (eN s),.pv (dc t),.pv (zs chain),.pv (zs p),.pv (zs q)] [] [] (.pv (.tup [ip s t chain p q,B (kf s t chain p q)])):=by
 have cp:=Hc t chain p q hl hr hk
 have cs:=JI s hs
 by_cases h0 : az s=0
 case neg=>
  have hcr:=nv (s:=s) (t:=t) (chain:=chain) (p:=p) (q:=q) (by simp [kw,h0])
  rw [hcr,ov hcr]
  have h0' : (az s !=0)=true:=by simp [h0]
  generalize az s=z at *
  obtain ⟨js,ms,SH,sks⟩:=s
  refine Dp Tryz.func15 ?_
  intro C hP hN
  simp only [Tryz.f15] at hN ⊢
  with_reducible repeat' (first|refine Sp.h ?_|((first|refine Wd ?_|refine Ss.h ?_|refine Sc.h (cp) ?_|refine Sc.h (cs) ?_|(refine Sb.h ?_ ?_ ?_<;>(try intro hgd)<;>try exact Xy))<;>simp -implicitDefEqProofs (maxSteps:=2000000) [hP,hN,h0']<;>try refine Ya ?_)|refine X2 ?_ ?_|(refine Xd ?_ ?_<;>intro hcd<;>try exact Xx))
 have h0' : (az s !=0)=false:=by simp [h0]
 cases hok : bk t chain p q with
 |false=>
  have hcr:=nv (s:=s) (t:=t) (chain:=chain) (p:=p) (q:=q) (by simp [kw,hok])
  rw [hcr,ov hcr]
  rw [hok] at cp
  generalize az s=z at *
  obtain ⟨js,ms,SH,sks⟩:=s
  refine Dp Tryz.func15 ?_
  intro C hP hN
  simp only [Tryz.f15] at hN ⊢
  with_reducible repeat' (first|refine Sp.h ?_|((first|refine Wd ?_|refine Ss.h ?_|refine Sc.h (cp) ?_|refine Sc.h (cs) ?_|(refine Sb.h ?_ ?_ ?_<;>(try intro hgd)<;>try exact Xy))<;>simp -implicitDefEqProofs (maxSteps:=2000000) [hP,hN,h0']<;>try refine Ya ?_)|refine X2 ?_ ?_|(refine Xd ?_ ?_<;>intro hcd<;>try exact Xx))
 |true=>
 have hpn:=DH hok
 by_cases h3 : chain.length≤255
 case neg=>
  have hcr:=nv (s:=s) (t:=t) (chain:=chain) (p:=p) (q:=q) (by simp [kw,h3])
  rw [hcr,ov hcr]
  rw [hok] at cp
  have h3' : (256 : Int) < (dM t chain p q).length:=by omega
  generalize az s=z at *
  obtain ⟨js,ms,SH,sks⟩:=s
  refine Dp Tryz.func15 ?_
  intro C hP hN
  simp only [Tryz.f15] at hN ⊢
  with_reducible repeat' (first|refine Sp.h ?_|((first|refine Wd ?_|refine Ss.h ?_|refine Sc.h (cp) ?_|refine Sc.h (cs) ?_|(refine Sb.h ?_ ?_ ?_<;>(try intro hgd)<;>try exact Xy))<;>simp -implicitDefEqProofs (maxSteps:=2000000) [hP,hN,h0',h3']<;>try refine Ya ?_)|refine X2 ?_ ?_|(refine Xd ?_ ?_<;>intro hcd<;>try exact Xx))
 have h3' : ¬ (256 : Int) < (dM t chain p q).length:=by omega
 have hcO : kf s t chain p q=chain.all (lb t):=by simp [kf,kw,h0,hok,h3]
 have hcP : ip s t chain p q=if chain.all (lb t) then jJ (dM t chain p q) (chain.map (pU t)) else jJ [] []:=by simp [ip,hcO]
 rw [hcO,hcP]
 obtain ⟨OK,hOK⟩ : ∃ b,b=chain.all (lb t):=⟨_,rfl⟩
 rw [← hOK]
 rw [hok] at cp
 obtain ⟨hC,_⟩:=me hok
 have hget:=fun (i : Nat) (hi : i < chain.length)=>hC.get hi
 clear hC hcO hcP
 generalize az s=z at *
 generalize dM t chain p q=PS at *
 obtain ⟨js,ms,SH,sks⟩:=s
 refine Dp Tryz.func15 ?_
 intro C hP hN
 simp only [Tryz.f15] at hN ⊢
 with_reducible repeat' (first|refine Sp.h ?_|((first|refine Wd ?_|refine Ss.h ?_|refine Sc.h (cp) ?_|refine Sc.h (cs) ?_|(refine Sb.h ?_ ?_ ?_<;>(try intro hgd)<;>try exact Xy))<;>simp -implicitDefEqProofs (maxSteps:=2000000) [hP,hN,h0',h3']<;>try refine Ya ?_)|refine X2 ?_ ?_|(refine Xd ?_ ?_<;>intro hcd<;>try exact Xx))
 refine WP.loopN [15] chain.length (fun i st=>st.t 6=.ptr 6 0∧st.h 6=some (.box [.pv (iv t.root),.pv (.sl (t.cells.map cT))] true false)∧st.t 10=.ptr 10 0∧st.t 11=.ptr 11 0∧st.h 11=some (.box [.pv (B true)] true false)∧st.t 40=.pv (zs chain)∧st.t 41=.pv (Z chain.length)∧st.t 42=.pv (Z i)∧st.h 15=none∧DL 10 64 (.sl (PS.map zs)) t chain i st.h∧yL t chain i) (by simp [DL,wI]) ?_
 rintro i st hi ⟨g6,b6,g10,g11,b11,g40,g41,g42,b15,hE,hT⟩
 by_cases hlt : i < chain.length
 ·have hw:=ak hlt (by omega)
  have hx : chain[i]?=some chain[i]:=List.getElem?_eq_getElem hlt
  obtain ⟨x0,x1,x2,_,_⟩:=hget i hlt
  have hst:=wH (pU t) hx
  have hnx:=fun h=>wJ hT hx h
  have hno:=fun h=>A7 (f:=lb t) hx h
  have cp:=Jv (mX t chain[i]) (wK hn _)
  generalize hxe : chain[i]=x at *
  obtain ⟨m,rfl⟩:=Int.eq_ofNat_of_zero_le x0
  have hml : m < t.cells.length:=by omega
  have hc : t.cells[m]?=some t.cells[m]:=List.getElem?_eq_getElem hml
  have hv : ed t m=t.cells[m].v:=by simp [ed,hc]
  have hfr : lb t (m : Int)=(t.cells[m].v.kind==1):=by simp [lb,hv]
  have hnr : mX t (m : Int)=t.cells[m].v.nor:=by simp [mX,hv]
  have hed : pU t (m : Int)=mr t.cells[m].v.nor:=by simp [pU,hnr]
  rw [hnr] at cp
  rw [hed] at hst
  rw [hfr] at hnx hno
  generalize hce : t.cells[m]=c at *
  have hf1 : (i+1) * 48≤140737488355328:=by omega
  have hf3 : i+1≤9223372036854775807:=by omega
  by_cases hk1 : c.v.kind=1
  ·have hk1' : (c.v.kind !=1)=false:=by simp [hk1]
   have hnx':=hnx (by simp [hk1])
   have htl : min i chain.length=i:=by omega
   simp only [List.map_take] at hst
   rcases hE with ⟨hi0,b10,b64⟩|⟨hi0,b10,b64⟩
   ·subst hi0
    simp only [List.take_zero,List.nil_append,Nat.zero_add] at hst
    with_reducible repeat' (first|refine Sp.h ?_|((first|refine Wd ?_|refine Ss.h ?_|refine Sc.h (cp) ?_|(refine Sb.h ?_ ?_ ?_<;>(try intro hgd)<;>try exact Xy))<;>simp -implicitDefEqProofs (maxSteps:=2000000) [hP,hN,g6,b6,g10,g11,b11,g40,g41,g42,b15,b10,b64,hlt,hw,hx,hxe,hml,hc,hce,hk1']<;>try refine Ya ?_)|refine X2 ?_ ?_|(refine Xd ?_ ?_<;>intro hcd<;>try exact Xx))
    all_goals first|(refine ⟨.inr ⟨by omega,?_⟩,hnx'⟩;simp [b10,b64,hst])|(refine .inr ⟨by omega,?_⟩;simp [b10,b64,hst])
   ·skip
    with_reducible repeat' (first|refine Sp.h ?_|((first|refine Wd ?_|refine Ss.h ?_|refine Sc.h (cp) ?_|(refine Sb.h ?_ ?_ ?_<;>(try intro hgd)<;>try exact Xy))<;>simp -implicitDefEqProofs (maxSteps:=2000000) [hP,hN,g6,b6,g10,g11,b11,g40,g41,g42,b15,b10,b64,hlt,hw,hx,hxe,hml,hc,hce,hk1',hf1,hf3,htl]<;>try refine Ya ?_)|refine X2 ?_ ?_|(refine Xd ?_ ?_<;>intro hcd<;>try exact Xx))
    all_goals first|(refine ⟨.inr ⟨by omega,?_⟩,hnx'⟩;simp [b10,b64,hst])|(refine .inr ⟨by omega,?_⟩;simp [b10,b64,hst])
  ·have hk1' : (c.v.kind !=1)=true:=by simp [hk1]
   have hno':=hno (by simp [hk1])
   have hOf : OK=false:=by rw [hOK];exact hno'
   subst hOf
   rcases hE with ⟨hi0,b10,b64⟩|⟨hi0,b10,b64⟩
   ·subst hi0
    with_reducible repeat' (first|refine Sp.h ?_|((first|refine Wd ?_|refine Ss.h ?_|(refine Sb.h ?_ ?_ ?_<;>(try intro hgd)<;>try exact Xy))<;>simp -implicitDefEqProofs (maxSteps:=2000000) [hP,hN,g6,b6,g10,g11,b11,g40,g41,g42,b15,b10,b64,hlt,hw,hx,hxe,hml,hc,hce,hk1']<;>try refine Ya ?_)|refine X2 ?_ ?_|(refine Xd ?_ ?_<;>intro hcd<;>try exact Xx))
   ·skip
    with_reducible repeat' (first|refine Sp.h ?_|((first|refine Wd ?_|refine Ss.h ?_|(refine Sb.h ?_ ?_ ?_<;>(try intro hgd)<;>try exact Xy))<;>simp -implicitDefEqProofs (maxSteps:=2000000) [hP,hN,g6,b6,g10,g11,b11,g40,g41,g42,b15,b10,b64,hlt,hw,hx,hxe,hml,hc,hce,hk1']<;>try refine Ya ?_)|refine X2 ?_ ?_|(refine Xd ?_ ?_<;>intro hcd<;>try exact Xx))
 ·have hic : i=chain.length:=by omega
  have hOt : OK=true:=by rw [hOK];exact yM hT hlt
  subst hOt
  subst hic
  rcases hE with ⟨hi0,b10,b64⟩|⟨hi0,b10,b64⟩
  ·have hn0 : chain=[]:=by simpa using hi0
   subst hn0
   with_reducible repeat' (first|refine Sp.h ?_|((first|refine Wd ?_|refine Ss.h ?_|(refine Sb.h ?_ ?_ ?_<;>(try intro hgd)<;>try exact Xy))<;>simp -implicitDefEqProofs (maxSteps:=2000000) [hP,hN,g6,b6,g10,g11,b11,g40,g41,g42,b15,b10,b64,hlt]<;>try refine Ya ?_)|refine X2 ?_ ?_|(refine Xd ?_ ?_<;>intro hcd<;>try exact Xx))
  ·skip
   with_reducible repeat' (first|refine Sp.h ?_|((first|refine Wd ?_|refine Ss.h ?_|(refine Sb.h ?_ ?_ ?_<;>(try intro hgd)<;>try exact Xy))<;>simp -implicitDefEqProofs (maxSteps:=2000000) [hP,hN,g6,b6,g10,g11,b11,g40,g41,g42,b15,b10,b64,hlt]<;>try refine Ya ?_)|refine X2 ?_ ?_|(refine Xd ?_ ?_<;>intro hcd<;>try exact Xx))
end Go.Ab
namespace Go.Ab
open Go.Proofs
theorem NL : ∀ {tb : List V3} {n : V3},io tb n=true→tb[jZ tb n]?=some n
 |[],_,h=>by simp [io] at h
 |v :: r,n,h=>by
  rw [lW] at h
  by_cases e : v=n
  ·simp [jZ,e]
  ·have : io r n=true:=by simpa [e] using h
   simp [jZ,e,NL this]
theorem Ox {ns : List V3} {k : Nat} {j : Nat} {v : V3} (h : (db ns k)[j]?=some v) : (db ns (k+1))[j]?=some v:=by
 cases hx : ns[k]? with
 |none=>simp [db,hx,h]
 |some n=>
  cases hh : io (db ns k) n with
  |true=>rw [yH hx hh];exact h
  |false=>
   rw [yI hx hh,List.getElem?_append_left (List.getElem?_eq_some_iff.1 h).1]
   exact h
theorem Ng {ns : List V3} : ∀ {K : Nat},K≤ns.length→∀ {i : Nat} {v : V3},i < K→ns[i]?=some v→∃ j : Nat,(jr ns K)[i]?=some (j : Int)∧(db ns K)[j]?=some v
 |0,_,i,v,h,_=>by omega
 |K+1,hK,i,v,h,hv=>by
  have hx : ns[K]?=some ns[K]:=List.getElem?_eq_getElem (by omega)
  have hl:=lC ns K (by omega)
  rw [rS hx]
  by_cases e : i=K
  ·subst e
   rw [hx] at hv;injection hv with hv
   refine ⟨jZ (db ns i) ns[i],?_,?_⟩
   ·rw [List.getElem?_append_right (by omega),hl];simp
   ·cases hh : io (db ns i) ns[i] with
    |true=>rw [yH hx hh,NL hh,hv]
    |false=>rw [yI hx hh,wF hh,List.getElem?_append_right (Nat.le_refl _)];simp [hv]
  ·obtain ⟨j,h1,h2⟩:=Ng (K:=K) (by omega) (i:=i) (by omega) hv
   refine ⟨j,?_,Ox h2⟩
   rw [List.getElem?_append_left (by omega)];exact h1
end Go.Ab
