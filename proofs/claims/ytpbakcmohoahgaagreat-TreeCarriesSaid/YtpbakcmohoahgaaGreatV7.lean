/- The contracts and facts that the laws of this seat need, in one text (K8, K9, K11, K10, Ab26, Ab29, K11b, K11c, K11d, K11e, K12). -/
import Derived.Test.YtpbakcmohoahgaaGreatV6
set_option linter.all false
set_option maxHeartbeats 16000000
namespace Go.Ab
open Go.Proofs
def j9 (n : Int) (x : Iv) : Int:=min (n * x.1) (n * x.2)
def kc (n : Int) (x : Iv) : Int:=max (n * x.1) (n * x.2)
def dF (n : Vc) (v : ai) : Int:=j9 n.1 v.1+j9 n.2.1 v.2.1+j9 n.2.2 v.2.2
def dG (n : Vc) (v : ai) : Int:=kc n.1 v.1+kc n.2.1 v.2.1+kc n.2.2 v.2.2
theorem Av {x : Iv} (h : bJ x=true) : (-268435456≤x.1∧x.1≤268435456)∧(-268435456≤x.2∧x.2≤268435456):=by
 rw [dN] at h;omega
theorem rr {x : Int} (h : eU x 16384=true) : -16384≤x∧x≤16384:=by rw [bf] at h;omega
theorem ke {n : Int} {x : Iv} (hn : eU n 16384=true) (hx : bJ x=true) : (-4398046511104≤n * x.1∧n * x.1≤4398046511104)∧(-4398046511104≤n * x.2∧n * x.2≤4398046511104)∧(-4398046511104≤j9 n x∧j9 n x≤4398046511104)∧(-4398046511104≤kc n x∧kc n x≤4398046511104):=by
 have h1:=rr hn
 have h2:=Av hx
 have m1:=bi (a:=n) (b:=x.1) 16384 268435456 (by omega) (by omega) (by omega) (by omega)
 have m2:=bi (a:=n) (b:=x.2) 16384 268435456 (by omega) (by omega) (by omega) (by omega)
 unfold j9 kc
 omega
theorem FU (n : Vc) (v : ai) (hn : ax 16384 n=true) (hv : bn v=true) : ab Tryz.prog 423 [.pv (aC n),.pv (bg v)] [] [] (.pv (.tup [Z (dF n v),Z (dG n v)])):=by
 rw [bV] at hn
 rw [fe] at hv
 obtain ⟨n1,n2,n3⟩:=hn
 obtain ⟨v1,v2,v3⟩:=hv
 have a1:=ke n1 v1
 have a2:=ke n2 v2
 have a3:=ke n3 v3
 have e1 : dF n v=j9 n.1 v.1+j9 n.2.1 v.2.1+j9 n.2.2 v.2.2:=rfl
 have e2 : dG n v=kc n.1 v.1+kc n.2.1 v.2.1+kc n.2.2 v.2.2:=rfl
 rw [e1,e2]
 have w1 : IntKind.i64.wrap (n.1 * v.1.1)=n.1 * v.1.1:=aa (by omega) (by omega)
 have w2 : IntKind.i64.wrap (n.1 * v.1.2)=n.1 * v.1.2:=aa (by omega) (by omega)
 have w3 : IntKind.i64.wrap (n.2.1 * v.2.1.1)=n.2.1 * v.2.1.1:=aa (by omega) (by omega)
 have w4 : IntKind.i64.wrap (n.2.1 * v.2.1.2)=n.2.1 * v.2.1.2:=aa (by omega) (by omega)
 have w5 : IntKind.i64.wrap (n.2.2 * v.2.2.1)=n.2.2 * v.2.2.1:=aa (by omega) (by omega)
 have w6 : IntKind.i64.wrap (n.2.2 * v.2.2.2)=n.2.2 * v.2.2.2:=aa (by omega) (by omega)
 have f1 : min (n.1 * v.1.1) (n.1 * v.1.2)=j9 n.1 v.1:=rfl
 have f2 : min (n.2.1 * v.2.1.1) (n.2.1 * v.2.1.2)=j9 n.2.1 v.2.1:=rfl
 have f3 : min (n.2.2 * v.2.2.1) (n.2.2 * v.2.2.2)=j9 n.2.2 v.2.2:=rfl
 have f4 : max (n.1 * v.1.1) (n.1 * v.1.2)=kc n.1 v.1:=rfl
 have f5 : max (n.2.1 * v.2.1.1) (n.2.1 * v.2.1.2)=kc n.2.1 v.2.1:=rfl
 have f6 : max (n.2.2 * v.2.2.1) (n.2.2 * v.2.2.2)=kc n.2.2 v.2.2:=rfl
 generalize hp1 : j9 n.1 v.1=p1 at *
 generalize hp2 : j9 n.2.1 v.2.1=p2 at *
 generalize hp3 : j9 n.2.2 v.2.2=p3 at *
 generalize hq1 : kc n.1 v.1=q1 at *
 generalize hq2 : kc n.2.1 v.2.1=q2 at *
 generalize hq3 : kc n.2.2 v.2.2=q3 at *
 have u1 : IntKind.i64.wrap p1=p1:=aa (by omega) (by omega)
 have u2 : IntKind.i64.wrap (p1+p2)=p1+p2:=aa (by omega) (by omega)
 have u3 : IntKind.i64.wrap (p1+p2+p3)=p1+p2+p3:=aa (by omega) (by omega)
 have u4 : IntKind.i64.wrap q1=q1:=aa (by omega) (by omega)
 have u5 : IntKind.i64.wrap (q1+q2)=q1+q2:=aa (by omega) (by omega)
 have u6 : IntKind.i64.wrap (q1+q2+q3)=q1+q2+q3:=aa (by omega) (by omega)
 refine Dp Tryz.func423 ?_
 intro C hP hN
 simp only [Tryz.f423] at hN ⊢
 with_reducible repeat' (first|refine Sp.h ?_|((first|refine Wd ?_|refine Ss.h ?_|(refine Sb.h ?_ ?_ ?_<;>(try intro hgd)<;>try exact Xy))<;>simp -implicitDefEqProofs (maxSteps:=2000000) [hP,hN]<;>try refine Ya ?_)|refine X2 ?_ ?_|(refine Xd ?_ ?_<;>intro hcd<;>try exact Xx))
 refine WP.loopN [9] 3 (fun k st=>st.t 2=.ptr 2 0∧st.h 2=some (.box [.pv (Z n.1),.pv (Z n.2.1),.pv (Z n.2.2)] true false)∧st.t 12=.pv (bg v)∧st.t 13=.pv (Z k)∧st.h 9=none∧st.t 6=.pv (Z (if k=0 then 0 else if k=1 then p1 else if k=2 then p1+p2 else p1+p2+p3))∧st.t 7=.pv (Z (if k=0 then 0 else if k=1 then q1 else if k=2 then q1+q2 else q1+q2+q3))) (by simp) ?_
 rintro k st hk ⟨g2,hb2,g12,g13,hb9,g6,g7⟩
 rcases bH hk with rfl|rfl|rfl|rfl
 all_goals (simp at g6 g7)
 ·skip
  with_reducible repeat' (first|refine Sp.h ?_|((first|refine Wd ?_|refine Ss.h ?_|(refine Sb.h ?_ ?_ ?_<;>(try intro hgd)<;>try exact Xy))<;>simp -implicitDefEqProofs (maxSteps:=2000000) [hP,hN,g2,hb2,g12,g13,hb9,g6,g7,w1,w2,f1,f4,u1,u4]<;>try refine Ya ?_)|refine X2 ?_ ?_|(refine Xd ?_ ?_<;>intro hcd<;>try exact Xx))
 ·skip
  with_reducible repeat' (first|refine Sp.h ?_|((first|refine Wd ?_|refine Ss.h ?_|(refine Sb.h ?_ ?_ ?_<;>(try intro hgd)<;>try exact Xy))<;>simp -implicitDefEqProofs (maxSteps:=2000000) [hP,hN,g2,hb2,g12,g13,hb9,g6,g7,w3,w4,f2,f5,u2,u5]<;>try refine Ya ?_)|refine X2 ?_ ?_|(refine Xd ?_ ?_<;>intro hcd<;>try exact Xx))
 ·skip
  with_reducible repeat' (first|refine Sp.h ?_|((first|refine Wd ?_|refine Ss.h ?_|(refine Sb.h ?_ ?_ ?_<;>(try intro hgd)<;>try exact Xy))<;>simp -implicitDefEqProofs (maxSteps:=2000000) [hP,hN,g2,hb2,g12,g13,hb9,g6,g7,w5,w6,f3,f6,u3,u6]<;>try refine Ya ?_)|refine X2 ?_ ?_|(refine Xd ?_ ?_<;>intro hcd<;>try exact Xx))
 ·skip
  with_reducible repeat' (first|refine Sp.h ?_|((first|refine Wd ?_|refine Ss.h ?_|(refine Sb.h ?_ ?_ ?_<;>(try intro hgd)<;>try exact Xy))<;>simp -implicitDefEqProofs (maxSteps:=2000000) [hP,hN,g2,hb2,g12,g13,hb9,g6,g7]<;>try refine Ya ?_)|refine X2 ?_ ?_|(refine Xd ?_ ?_<;>intro hcd<;>try exact Xx))
abbrev sD (n : Vc) : PV:=.rptr (aC n) 0
abbrev Jr (n : Vc) : PV:=.agg [.fn (.func 422) [] [sD n],.val (.func (.func 424) #[] #[])]
abbrev Js (n : Vc) : PV:=.agg [.fn (.func 425) [] [sD n],.val (.func (.func 426) #[] #[])]
theorem Jt (n : Vc) : ab Tryz.prog 401 [.pv (aC n)] [] [] (.pv (Jr n)):=by
 refine Dp Tryz.func401 ?_
 intro C hP hN
 simp only [Tryz.f401] at hN ⊢
 with_reducible repeat' (first|refine Sp.h ?_|((first|refine Ss.h ?_|(refine Sb.h ?_ ?_ ?_<;>(try intro hgd)<;>try exact Xy))<;>simp -implicitDefEqProofs (maxSteps:=2000000) [hP,hN])|refine X2 ?_ ?_|(refine Xd ?_ ?_<;>intro hcd<;>try exact Xx))
theorem Ju (n : Vc) : ab Tryz.prog 403 [.pv (aC n)] [] [] (.pv (Js n)):=by
 refine Dp Tryz.func403 ?_
 intro C hP hN
 simp only [Tryz.f403] at hN ⊢
 with_reducible repeat' (first|refine Sp.h ?_|((first|refine Ss.h ?_|(refine Sb.h ?_ ?_ ?_<;>(try intro hgd)<;>try exact Xy))<;>simp -implicitDefEqProofs (maxSteps:=2000000) [hP,hN])|refine X2 ?_ ?_|(refine Xd ?_ ?_<;>intro hcd<;>try exact Xx))
theorem Jv (x y : Int) : ab Tryz.prog 424 [.pv (Z x),.pv (Z y)] [] [] (.pv (B (decide (x < y)))):=by
 refine Dp Tryz.func424 ?_
 intro C hP hN
 simp only [Tryz.f424] at hN ⊢
 with_reducible repeat' (first|refine Sp.h ?_|((first|refine Ss.h ?_|(refine Sb.h ?_ ?_ ?_<;>(try intro hgd)<;>try exact Xy))<;>simp -implicitDefEqProofs (maxSteps:=2000000) [hP,hN])|refine X2 ?_ ?_|(refine Xd ?_ ?_<;>intro hcd<;>try exact Xx))
theorem Jw (x y : Int) : ab Tryz.prog 426 [.pv (Z x),.pv (Z y)] [] [] (.pv (B (decide (y < x)))):=by
 refine Dp Tryz.func426 ?_
 intro C hP hN
 simp only [Tryz.f426] at hN ⊢
 with_reducible repeat' (first|refine Sp.h ?_|((first|refine Ss.h ?_|(refine Sb.h ?_ ?_ ?_<;>(try intro hgd)<;>try exact Xy))<;>simp -implicitDefEqProofs (maxSteps:=2000000) [hP,hN])|refine X2 ?_ ?_|(refine Xd ?_ ?_<;>intro hcd<;>try exact Xx))
theorem Jx (n : Vc) (v : ai) (hn : ax 16384 n=true) (hv : bn v=true) : ab Tryz.prog 422 [.pv (bg v),.pv (sD n)] [] [] (.pv (Z (dF n v))):=by
 have cd:=FU n v hn hv
 generalize dF n v=a at *
 generalize dG n v=b at *
 refine Dp Tryz.func422 ?_
 intro C hP hN
 simp only [Tryz.f422] at hN ⊢
 with_reducible repeat' (first|refine Sp.h ?_|((first|refine Ss.h ?_|refine Sc.h (cd) ?_|(refine Sb.h ?_ ?_ ?_<;>(try intro hgd)<;>try exact Xy))<;>simp -implicitDefEqProofs (maxSteps:=2000000) [hP,hN])|refine X2 ?_ ?_|(refine Xd ?_ ?_<;>intro hcd<;>try exact Xx))
theorem Jy (n : Vc) (v : ai) (hn : ax 16384 n=true) (hv : bn v=true) : ab Tryz.prog 425 [.pv (bg v),.pv (sD n)] [] [] (.pv (Z (dG n v))):=by
 have cd:=FU n v hn hv
 generalize dF n v=a at *
 generalize dG n v=b at *
 refine Dp Tryz.func425 ?_
 intro C hP hN
 simp only [Tryz.f425] at hN ⊢
 with_reducible repeat' (first|refine Sp.h ?_|((first|refine Ss.h ?_|refine Sc.h (cd) ?_|(refine Sb.h ?_ ?_ ?_<;>(try intro hgd)<;>try exact Xy))<;>simp -implicitDefEqProofs (maxSteps:=2000000) [hP,hN])|refine X2 ?_ ?_|(refine Xd ?_ ?_<;>intro hcd<;>try exact Xx))
def em (val : ai→Int) (bet : Int→Int→Bool) (xs : List ai) : Nat→Int × Nat
 |0=>(0,0)
 |i+1=>match xs[i]? with
  |some v=>if i=0∨bet (val v) (em val bet xs i).1=true then (val v,i) else em val bet xs i
  |none=>em val bet xs i
def sE (val : ai→Int) (bet : Int→Int→Bool) (xs : List ai) : Int × Nat:=em val bet xs xs.length
theorem iM {val : ai→Int} {bet : Int→Int→Bool} {xs : List ai} {i : Nat} {v : ai} (h : xs[i]?=some v) : em val bet xs (i+1)=if i=0∨bet (val v) (em val bet xs i).1=true then (val v,i) else em val bet xs i:=by simp only [em,h]
theorem FV (n : Vc) (f g : FuncId) (val : ai→Int) (bet : Int→Int→Bool) (xs : List ai) (hl : xs.length≤1000) (hf : ∀ v,bn v=true→ab Tryz.prog f [.pv (bg v),.pv (sD n)] [] [] (.pv (Z (val v)))) (hg : ∀ x y,ab Tryz.prog g [.pv (Z x),.pv (Z y)] [] [] (.pv (B (bet x y)))) (hp : xs.all bn=true) : ab Tryz.prog 402 [.pv (.agg [.fn (.func f) [] [sD n],.val (.func (.func g) #[] #[])]),.pv (aF xs)] [] [] (.pv (.tup [Z (sE val bet xs).1,Z (sE val bet xs).2])):=by
 refine Dp Tryz.func402 ?_
 intro C hP hN
 simp only [Tryz.f402] at hN ⊢
 with_reducible repeat' (first|refine Sp.h ?_|((first|refine Ss.h ?_|(refine Sb.h ?_ ?_ ?_<;>(try intro hgd)<;>try exact Xy))<;>simp -implicitDefEqProofs (maxSteps:=2000000) [hP,hN])|refine X2 ?_ ?_|(refine Xd ?_ ?_<;>intro hcd<;>try exact Xx))
 refine WP.loopN [9] xs.length (fun i st=>st.t 2=.ptr 2 0∧st.h 2=some (.box [.pv (.fn (.func f) [] [sD n]),.pv (.val (.func (.func g) #[] #[]))] true false)∧st.t 11=.pv (aF xs)∧st.t 12=.pv (Z xs.length)∧st.t 13=.pv (Z i)∧st.h 9=none∧st.t 6=.pv (Z (em val bet xs i).1)∧st.t 7=.pv (Z (em val bet xs i).2)) (by simp [em]) ?_
 rintro i st hi ⟨g2,hb2,g11,g12,g13,hb9,g6,g7⟩
 by_cases hlt : i < xs.length
 ·have hw:=aw hlt (by omega)
  generalize hxe : xs[i]=v at *
  have hx : xs[i]?=some v:=by rw [List.getElem?_eq_getElem hlt,hxe]
  have cv:=hf v (List.all_eq_true.1 hp v (List.mem_of_getElem? hx))
  have hs:=iM (val:=val) (bet:=bet) hx
  generalize em val bet xs i=s at *
  generalize em val bet xs (i+1)=s' at *
  have cb:=hg (val v) s.1
  generalize val v=y at *
  by_cases h0 : i=0
  ·subst h0
   rw [if_pos (.inl rfl)] at hs
   subst hs
   with_reducible repeat' (first|refine Sp.h ?_|((first|refine Ss.h ?_|refine Sc.h (cv) ?_|refine Sc.h (cb) ?_|(refine Sb.h ?_ ?_ ?_<;>(try intro hgd)<;>try exact Xy))<;>simp -implicitDefEqProofs (maxSteps:=2000000) [hP,hN,g2,hb2,g11,g12,g13,hb9,g6,g7,hlt,hx,hxe,hw])|refine X2 ?_ ?_|(refine Xd ?_ ?_<;>intro hcd<;>try exact Xx))
  ·have h0' : ((i : Int)==0)=false:=by simp;omega
   cases hbt : bet y s.1 with
   |true=>
    rw [hbt] at cb
    rw [if_pos (.inr hbt)] at hs
    subst hs
    with_reducible repeat' (first|refine Sp.h ?_|((first|refine Ss.h ?_|refine Sc.h (cv) ?_|refine Sc.h (cb) ?_|(refine Sb.h ?_ ?_ ?_<;>(try intro hgd)<;>try exact Xy))<;>simp -implicitDefEqProofs (maxSteps:=2000000) [hP,hN,g2,hb2,g11,g12,g13,hb9,g6,g7,hlt,hx,hxe,hw,h0,h0'])|refine X2 ?_ ?_|(refine Xd ?_ ?_<;>intro hcd<;>try exact Xx))
   |false=>
    rw [hbt] at cb
    rw [if_neg (by rintro (h|h);exact h0 h;rw [hbt] at h;cases h)] at hs
    subst hs
    with_reducible repeat' (first|refine Sp.h ?_|((first|refine Ss.h ?_|refine Sc.h (cv) ?_|refine Sc.h (cb) ?_|(refine Sb.h ?_ ?_ ?_<;>(try intro hgd)<;>try exact Xy))<;>simp -implicitDefEqProofs (maxSteps:=2000000) [hP,hN,g2,hb2,g11,g12,g13,hb9,g6,g7,hlt,hx,hxe,hw,h0,h0'])|refine X2 ?_ ?_|(refine Xd ?_ ?_<;>intro hcd<;>try exact Xx))
 ·have hin : i=xs.length:=by omega
  subst hin
  with_reducible repeat' (first|refine Sp.h ?_|((first|refine Ss.h ?_|(refine Sb.h ?_ ?_ ?_<;>(try intro hgd)<;>try exact Xy))<;>simp -implicitDefEqProofs (maxSteps:=2000000) [hP,hN,g2,hb2,g11,g12,g13,hb9,g6,g7])|refine X2 ?_ ?_|(refine Xd ?_ ?_<;>intro hcd<;>try exact Xx))
  all_goals exact ⟨rfl,rfl⟩
def eL (x y : Int) : Bool:=decide (x < y)
def eM (x y : Int) : Bool:=decide (y < x)
def ey (n : Vc) (xs : List ai) : Int × Nat:=sE (dF n) eL xs
def eC (n : Vc) (xs : List ai) : Int × Nat:=sE (dG n) eM xs
theorem bY {xs : List ai} (h : av xs=true) : xs.all bn=true∧xs.length≤8∧1≤xs.length:=by
 simp only [av,Bool.and_eq_true,decide_eq_true_eq] at h
 exact ⟨h.2,h.1.2,h.1.1⟩
theorem Jz (n : Vc) (xs : List ai) (hl : xs.length≤9223372036854775807) : ab Tryz.prog 341 [.pv (aC n),.pv (aF xs)] [] [] (.pv (.tup (if aJ n && av xs then [Z (ey n xs).1,Z (ey n xs).2,B true] else [Z 0,Z 0,B false]))):=by
 have cu:=C3 n
 have cp:=CV xs hl
 cases hu : aJ n with
 |false=>
  rw [hu] at cu
  refine Dp Tryz.func341 ?_
  intro C hP hN
  simp only [Tryz.f341] at hN ⊢
  with_reducible repeat' (first|refine Sp.h ?_|((first|refine Ss.h ?_|refine Sc.h (cu) ?_|refine Sc.h (cp) ?_|(refine Sb.h ?_ ?_ ?_<;>(try intro hgd)<;>try exact Xy))<;>simp -implicitDefEqProofs (maxSteps:=2000000) [hP,hN])|refine X2 ?_ ?_|(refine Xd ?_ ?_<;>intro hcd<;>try exact Xx))
 |true=>
  rw [hu] at cu
  cases hpl : av xs with
  |false=>
   rw [hpl] at cp
   refine Dp Tryz.func341 ?_
   intro C hP hN
   simp only [Tryz.f341] at hN ⊢
   with_reducible repeat' (first|refine Sp.h ?_|((first|refine Ss.h ?_|refine Sc.h (cu) ?_|refine Sc.h (cp) ?_|(refine Sb.h ?_ ?_ ?_<;>(try intro hgd)<;>try exact Xy))<;>simp -implicitDefEqProofs (maxSteps:=2000000) [hP,hN])|refine X2 ?_ ?_|(refine Xd ?_ ?_<;>intro hcd<;>try exact Xx))
  |true=>
   rw [hpl] at cp
   have hn : ax 16384 n=true:=by simp only [aJ,Bool.and_eq_true] at hu;exact hu.1
   obtain ⟨h1,h2,_⟩:=bY hpl
   have cb:=FV n 422 424 (dF n) eL xs (by omega) (fun v hv=>Jx n v hn hv) Jv h1
   have hL : sE (dF n) eL xs=ey n xs:=rfl
   rw [hL] at cb
   generalize ey n xs=r at *
   refine Dp Tryz.func341 ?_
   intro C hP hN
   simp only [Tryz.f341] at hN ⊢
   with_reducible repeat' (first|refine Sp.h ?_|((first|refine Ss.h ?_|refine Sc.h (cu) ?_|refine Sc.h (cp) ?_|refine Sc.h (Jt n) ?_|refine Sc.h (cb) ?_|(refine Sb.h ?_ ?_ ?_<;>(try intro hgd)<;>try exact Xy))<;>simp -implicitDefEqProofs (maxSteps:=2000000) [hP,hN])|refine X2 ?_ ?_|(refine Xd ?_ ?_<;>intro hcd<;>try exact Xx))
theorem JA (n : Vc) (xs : List ai) (hl : xs.length≤9223372036854775807) : ab Tryz.prog 342 [.pv (aC n),.pv (aF xs)] [] [] (.pv (.tup (if aJ n && av xs then [Z (eC n xs).1,Z (eC n xs).2,B true] else [Z 0,Z 0,B false]))):=by
 have cu:=C3 n
 have cp:=CV xs hl
 cases hu : aJ n with
 |false=>
  rw [hu] at cu
  refine Dp Tryz.func342 ?_
  intro C hP hN
  simp only [Tryz.f342] at hN ⊢
  with_reducible repeat' (first|refine Sp.h ?_|((first|refine Ss.h ?_|refine Sc.h (cu) ?_|refine Sc.h (cp) ?_|(refine Sb.h ?_ ?_ ?_<;>(try intro hgd)<;>try exact Xy))<;>simp -implicitDefEqProofs (maxSteps:=2000000) [hP,hN])|refine X2 ?_ ?_|(refine Xd ?_ ?_<;>intro hcd<;>try exact Xx))
 |true=>
  rw [hu] at cu
  cases hpl : av xs with
  |false=>
   rw [hpl] at cp
   refine Dp Tryz.func342 ?_
   intro C hP hN
   simp only [Tryz.f342] at hN ⊢
   with_reducible repeat' (first|refine Sp.h ?_|((first|refine Ss.h ?_|refine Sc.h (cu) ?_|refine Sc.h (cp) ?_|(refine Sb.h ?_ ?_ ?_<;>(try intro hgd)<;>try exact Xy))<;>simp -implicitDefEqProofs (maxSteps:=2000000) [hP,hN])|refine X2 ?_ ?_|(refine Xd ?_ ?_<;>intro hcd<;>try exact Xx))
  |true=>
   rw [hpl] at cp
   have hn : ax 16384 n=true:=by simp only [aJ,Bool.and_eq_true] at hu;exact hu.1
   obtain ⟨h1,h2,_⟩:=bY hpl
   have cb:=FV n 425 426 (dG n) eM xs (by omega) (fun v hv=>Jy n v hn hv) Jw h1
   have hL : sE (dG n) eM xs=eC n xs:=rfl
   rw [hL] at cb
   generalize eC n xs=r at *
   refine Dp Tryz.func342 ?_
   intro C hP hN
   simp only [Tryz.f342] at hN ⊢
   with_reducible repeat' (first|refine Sp.h ?_|((first|refine Ss.h ?_|refine Sc.h (cu) ?_|refine Sc.h (cp) ?_|refine Sc.h (Ju n) ?_|refine Sc.h (cb) ?_|(refine Sb.h ?_ ?_ ?_<;>(try intro hgd)<;>try exact Xy))<;>simp -implicitDefEqProofs (maxSteps:=2000000) [hP,hN])|refine X2 ?_ ?_|(refine Xd ?_ ?_<;>intro hcd<;>try exact Xx))
abbrev sG (a : List ai) (ra : Int) (b : List ai) (rb : Int) : PV:=.agg [aF a,Z ra,aF b,Z rb]
def kf (a : List ai) (r : Int) : Bool:=av a && decide (0≤r) && decide (r≤1048576)
theorem FW (a : List ai) (r : Int) (hl : a.length≤9223372036854775807) : ab Tryz.prog 340 [.pv (.agg [aF a,Z r])] [] [] (.pv (B (kf a r))):=by
 have cp:=CV a hl
 have hs : kf a r=(av a && decide (0≤r) && decide (r≤1048576)):=rfl
 rw [hs]
 generalize av a=p at *
 cases p
 ·skip
  refine Dp Tryz.func340 ?_
  intro C hP hN
  simp only [Tryz.f340] at hN ⊢
  with_reducible repeat' (first|refine Sp.h ?_|((first|refine Ss.h ?_|refine Sc.h (cp) ?_|(refine Sb.h ?_ ?_ ?_<;>(try intro hgd)<;>try exact Xy))<;>simp -implicitDefEqProofs (maxSteps:=2000000) [hP,hN])|refine X2 ?_ ?_|(refine Xd ?_ ?_<;>intro hcd<;>try exact Xx))
  all_goals (try (simp only [decide_eq_true_eq,decide_eq_false_iff_not] at hgd;intros;omega))
 ·skip
  refine Dp Tryz.func340 ?_
  intro C hP hN
  simp only [Tryz.f340] at hN ⊢
  with_reducible repeat' (first|refine Sp.h ?_|((first|refine Ss.h ?_|refine Sc.h (cp) ?_|(refine Sb.h ?_ ?_ ?_<;>(try intro hgd)<;>try exact Xy))<;>simp -implicitDefEqProofs (maxSteps:=2000000) [hP,hN])|refine X2 ?_ ?_|(refine Xd ?_ ?_<;>intro hcd<;>try exact Xx))
  all_goals (try (simp only [decide_eq_true_eq,decide_eq_false_iff_not] at hgd;intros;omega))
theorem JB (a : List ai) (ra : Int) (b : List ai) (rb : Int) : ab Tryz.prog 242 [.pv (aF a),.pv (Z ra),.pv (aF b),.pv (Z rb)] [] [] (.pv (sG a ra b rb)):=by
 refine Dp Tryz.func242 ?_
 intro C hP hN
 simp only [Tryz.f242] at hN ⊢
 with_reducible repeat' (first|refine Sp.h ?_|((first|refine Ss.h ?_|(refine Sb.h ?_ ?_ ?_<;>(try intro hgd)<;>try exact Xy))<;>simp -implicitDefEqProofs (maxSteps:=2000000) [hP,hN])|refine X2 ?_ ?_|(refine Xd ?_ ?_<;>intro hcd<;>try exact Xx))
theorem sH {val : ai→Int} {bet : Int→Int→Bool} {xs : List ai} {m : Int} (h0 : 0≤m) (h : ∀ v ∈ xs,-m≤val v∧val v≤m) : ∀ i,-m≤(em val bet xs i).1∧(em val bet xs i).1≤m
 |0=>by simp [em];omega
 |i+1=>by
  have ih:=sH (val:=val) (bet:=bet) h0 h i
  simp only [em]
  split
  ·rename_i v hv
   split
   ·exact h v (List.mem_of_getElem? hv)
   ·exact ih
  ·exact ih
theorem zq {n : Vc} {v : ai} (hn : ax 16384 n=true) (hv : bn v=true) : (-13194139533312≤dF n v∧dF n v≤13194139533312)∧(-13194139533312≤dG n v∧dG n v≤13194139533312):=by
 rw [bV] at hn
 rw [fe] at hv
 obtain ⟨n1,n2,n3⟩:=hn
 obtain ⟨v1,v2,v3⟩:=hv
 have a1:=ke n1 v1
 have a2:=ke n2 v2
 have a3:=ke n3 v3
 unfold dF dG
 omega
theorem vu {n : Vc} {xs : List ai} (hn : ax 16384 n=true) (hx : xs.all bn=true) : -13194139533312≤(ey n xs).1∧(ey n xs).1≤13194139533312:=
 sH (by decide) (fun v hv=>(zq hn (List.all_eq_true.1 hx v hv)).1) _
theorem vw {n : Vc} {xs : List ai} (hn : ax 16384 n=true) (hx : xs.all bn=true) : -13194139533312≤(eC n xs).1∧(eC n xs).1≤13194139533312:=
 sH (by decide) (fun v hv=>(zq hn (List.all_eq_true.1 hx v hv)).2) _
theorem BF {v : Vc} (hv : ax 16384 v=true) : qw v≤805306368:=by
 rw [bV,bf,bf,bf] at hv
 obtain ⟨v1,v2,v3⟩:=v
 simp only at hv
 have m1:=bi (a:=v1) (b:=v1) 16384 16384 (by omega) (by omega) (by omega) (by omega)
 have m2:=bi (a:=v2) (b:=v2) 16384 16384 (by omega) (by omega) (by omega) (by omega)
 have m3:=bi (a:=v3) (b:=v3) 16384 16384 (by omega) (by omega) (by omega) (by omega)
 show (v1 * v1+v2 * v2+v3 * v3).toNat≤_
 omega
theorem sI (v : Vc) : 0≤eg v∧eg v≤32768:=by
 unfold eg
 split
 ·rename_i hu
  have hv : ax 16384 v=true:=by simp only [aJ,Bool.and_eq_true] at hu;exact hu.1
  have h1:=BF hv
  have h2:=(mX (n:=qw v) (by omega)).1
  have h3 : bU (qw v) < 32768:=by
   rcases Nat.lt_or_ge (bU (qw v)) 32768 with h|h
   ·exact h
   ·have:=Nat.mul_le_mul h h;omega
  unfold nF
  split<;>omega
 ·omega
def gc (n : Vc) (a : List ai) (ra : Int) (b : List ai) (rb : Int) : Int:=(ey n a).1 - (eC n b).1 - eg n * (ra+rb)
def fP (n : Vc) (a : List ai) (ra : Int) (b : List ai) (rb : Int) : Bool:=kf a ra && kf b rb && aJ n
theorem JC (n : Vc) (a : List ai) (ra : Int) (b : List ai) (rb : Int) (hl : a.length≤9223372036854775807) (hl' : b.length≤9223372036854775807) : ab Tryz.prog 241 [.pv (sG a ra b rb),.pv (aC n)] [] [] (.pv (.tup (if fP n a ra b rb then [Z (gc n a ra b rb),B true] else [Z 0,B false]))):=by
 have ca:=FW a ra hl
 have cb:=FW b rb hl'
 have hm : fP n a ra b rb=(kf a ra && kf b rb && aJ n):=rfl
 rw [hm]
 cases ha : kf a ra with
 |false=>
  rw [ha] at ca
  refine Dp Tryz.func241 ?_
  intro C hP hN
  simp only [Tryz.f241] at hN ⊢
  with_reducible repeat' (first|refine Sp.h ?_|((first|refine Wd ?_|refine Ss.h ?_|refine Sc.h (ca) ?_|refine Sc.h (cb) ?_|(refine Sb.h ?_ ?_ ?_<;>(try intro hgd)<;>try exact Xy))<;>simp -implicitDefEqProofs (maxSteps:=2000000) [hP,hN]<;>try refine Ya ?_)|refine X2 ?_ ?_|(refine Xd ?_ ?_<;>intro hcd<;>try exact Xx))
 |true=>
  rw [ha] at ca
  cases hb : kf b rb with
  |false=>
   rw [hb] at cb
   refine Dp Tryz.func241 ?_
   intro C hP hN
   simp only [Tryz.f241] at hN ⊢
   with_reducible repeat' (first|refine Sp.h ?_|((first|refine Wd ?_|refine Ss.h ?_|refine Sc.h (ca) ?_|refine Sc.h (cb) ?_|(refine Sb.h ?_ ?_ ?_<;>(try intro hgd)<;>try exact Xy))<;>simp -implicitDefEqProofs (maxSteps:=2000000) [hP,hN]<;>try refine Ya ?_)|refine X2 ?_ ?_|(refine Xd ?_ ?_<;>intro hcd<;>try exact Xx))
  |true=>
   rw [hb] at cb
   simp only [kf,Bool.and_eq_true,decide_eq_true_eq] at ha hb
   obtain ⟨⟨ha1,ha2⟩,ha3⟩:=ha
   obtain ⟨⟨hb1,hb2⟩,hb3⟩:=hb
   have cl:=Jz n a hl
   have cg:=JA n b hl'
   rw [ha1,Bool.and_true] at cl
   rw [hb1,Bool.and_true] at cg
   cases hu : aJ n with
   |false=>
    rw [hu] at cl
    simp at cl
    refine Dp Tryz.func241 ?_
    intro C hP hN
    simp only [Tryz.f241] at hN ⊢
    with_reducible repeat' (first|refine Sp.h ?_|((first|refine Wd ?_|refine Ss.h ?_|refine Sc.h (ca) ?_|refine Sc.h (cb) ?_|refine Sc.h (cl) ?_|(refine Sb.h ?_ ?_ ?_<;>(try intro hgd)<;>try exact Xy))<;>simp -implicitDefEqProofs (maxSteps:=2000000) [hP,hN]<;>try refine Ya ?_)|refine X2 ?_ ?_|(refine Xd ?_ ?_<;>intro hcd<;>try exact Xx))
   |true=>
    rw [hu] at cl cg
    simp at cl cg
    have hn : ax 16384 n=true:=by simp only [aJ,Bool.and_eq_true] at hu;exact hu.1
    have r1:=vu hn (bY ha1).1
    have r2:=vw hn (bY hb1).1
    have r3:=sI n
    have cn:=Jq n
    have hM : gc n a ra b rb=(ey n a).1 - (eC n b).1 - eg n * (ra+rb):=rfl
    rw [hM]
    generalize ey n a=l at *
    generalize eC n b=g at *
    generalize eg n=q at *
    have m1:=bi (a:=q) (b:=ra+rb) 32768 2097152 (by omega) (by omega) (by omega) (by omega)
    have w1 : IntKind.i64.wrap (ra+rb)=ra+rb:=aa (by omega) (by omega)
    have w2 : IntKind.i64.wrap (q * (ra+rb))=q * (ra+rb):=aa (by omega) (by omega)
    have w3 : IntKind.i64.wrap (l.1 - g.1)=l.1 - g.1:=aa (by omega) (by omega)
    have w4 : IntKind.i64.wrap (l.1 - g.1 - q * (ra+rb))=l.1 - g.1 - q * (ra+rb):=aa (by omega) (by omega)
    refine Dp Tryz.func241 ?_
    intro C hP hN
    simp only [Tryz.f241] at hN ⊢
    with_reducible repeat' (first|refine Sp.h ?_|((first|refine Wd ?_|refine Ss.h ?_|refine Sc.h (ca) ?_|refine Sc.h (cb) ?_|refine Sc.h (cl) ?_|refine Sc.h (cg) ?_|refine Sc.h (cn) ?_|(refine Sb.h ?_ ?_ ?_<;>(try intro hgd)<;>try exact Xy))<;>simp -implicitDefEqProofs (maxSteps:=2000000) [hP,hN,w1,w2,w3,w4]<;>try refine Ya ?_)|refine X2 ?_ ?_|(refine Xd ?_ ?_<;>intro hcd<;>try exact Xx))
def f9 (n : Vc) (a : List ai) (ra : Int) (b : List ai) (rb : Int) : Bool:=fP n a ra b rb && decide (0 < gc n a ra b rb)
theorem JD (n : Vc) (a : List ai) (ra : Int) (b : List ai) (rb : Int) (hl : a.length≤9223372036854775807) (hl' : b.length≤9223372036854775807) : ab Tryz.prog 327 [.pv (sG a ra b rb),.pv (aC n)] [] [] (.pv (B (f9 n a ra b rb))):=by
 have cm:=JC n a ra b rb hl hl'
 have hs : f9 n a ra b rb=(fP n a ra b rb && decide (0 < gc n a ra b rb)):=rfl
 rw [hs]
 generalize gc n a ra b rb=m at *
 cases hb : fP n a ra b rb<;>rw [hb] at cm<;>simp at cm
 ·skip
  refine Dp Tryz.func327 ?_
  intro C hP hN
  simp only [Tryz.f327] at hN ⊢
  with_reducible repeat' (first|refine Sp.h ?_|((first|refine Ss.h ?_|refine Sc.h (cm) ?_|(refine Sb.h ?_ ?_ ?_<;>(try intro hgd)<;>try exact Xy))<;>simp -implicitDefEqProofs (maxSteps:=2000000) [hP,hN])|refine X2 ?_ ?_|(refine Xd ?_ ?_<;>intro hcd<;>try exact Xx))
 ·skip
  refine Dp Tryz.func327 ?_
  intro C hP hN
  simp only [Tryz.f327] at hN ⊢
  with_reducible repeat' (first|refine Sp.h ?_|((first|refine Ss.h ?_|refine Sc.h (cm) ?_|(refine Sb.h ?_ ?_ ?_<;>(try intro hgd)<;>try exact Xy))<;>simp -implicitDefEqProofs (maxSteps:=2000000) [hP,hN])|refine X2 ?_ ?_|(refine Xd ?_ ?_<;>intro hcd<;>try exact Xx))
theorem JE (n : Vc) (a : List ai) (ra : Int) (b : List ai) (rb : Int) (hl : a.length≤9223372036854775807) (hl' : b.length≤9223372036854775807) : ab Tryz.prog 233 [.pv (aC n),.pv (aF a),.pv (Z ra),.pv (aF b),.pv (Z rb)] [] [] (.pv (B (f9 n a ra b rb))):=by
 have cs:=JD n a ra b rb hl hl'
 generalize f9 n a ra b rb=s at *
 refine Dp Tryz.func233 ?_
 intro C hP hN
 simp only [Tryz.f233] at hN ⊢
 with_reducible repeat' (first|refine Sp.h ?_|((first|refine Wd ?_|refine Ss.h ?_|refine Sc.h (JB a ra b rb) ?_|refine Sc.h (cs) ?_|(refine Sb.h ?_ ?_ ?_<;>(try intro hgd)<;>try exact Xy))<;>simp -implicitDefEqProofs (maxSteps:=2000000) [hP,hN]<;>try refine Ya ?_)|refine X2 ?_ ?_|(refine Xd ?_ ?_<;>intro hcd<;>try exact Xx))
end Go.Ab
namespace Go.Ab
open Go.Proofs
def eP (w : Int) (s x : Iv) : Iv:=(s.1+w * x.1,s.2+w * x.2)
def Aw (w : Int) (s x : ai) : ai:=(eP w s.1 x.1,eP w s.2.1 x.2.1,eP w s.2.2 x.2.2)
def dv (l : List ai) (ws : List Int) : Nat→ai
 |0=>aL
 |i+1=>match l[i]?,ws[i]? with
  |some x,some w=>Aw w (dv l ws i) x
  |_,_=>dv l ws i
def aW (ws : List Int) : Nat→Int
 |0=>0
 |i+1=>aW ws i+(ws[i]?).getD 0
def wB (w : Int) : Bool:=!(decide (w < 0) || decide (65536 < w))
def dX (l : List ai) (ws : List Int) : Bool:=av l && decide (ws.length=l.length) && ws.all wB && !(decide (aW ws ws.length < 1) || decide (65536 < aW ws ws.length))
abbrev k8 (l : List ai) (ws : List Int) : PV:=.tup (if dX l ws then [bg (dv l ws ws.length),Z (aW ws ws.length),B true] else [bg aL,Z 0,B false])
theorem kJ {w : Int} {s x : Iv} {m : Nat} (hw : 0≤w∧w≤65536) (hx : bJ x=true) (hs : (-((m : Int) * 17592186044416)≤s.1∧s.1≤(m : Int) * 17592186044416)∧(-((m : Int) * 17592186044416)≤s.2∧s.2≤(m : Int) * 17592186044416)) :
 ((-17592186044416≤w * x.1∧w * x.1≤17592186044416)∧(-17592186044416≤w * x.2∧w * x.2≤17592186044416))∧(-(((m+1 : Nat) : Int) * 17592186044416)≤(eP w s x).1∧(eP w s x).1≤((m+1 : Nat) : Int) * 17592186044416)∧(-(((m+1 : Nat) : Int) * 17592186044416)≤(eP w s x).2∧(eP w s x).2≤((m+1 : Nat) : Int) * 17592186044416):=by
 rw [dN] at hx
 have m1:=bi (a:=w) (b:=x.1) 65536 268435456 (by omega) (by omega) (by omega) (by omega)
 have m2:=bi (a:=w) (b:=x.2) 65536 268435456 (by omega) (by omega) (by omega) (by omega)
 simp only [eP]
 omega
def Ax (m : Nat) (s : Iv) : Prop:=(-((m : Int) * 17592186044416)≤s.1∧s.1≤(m : Int) * 17592186044416)∧(-((m : Int) * 17592186044416)≤s.2∧s.2≤(m : Int) * 17592186044416)
def C5 (m : Nat) (s : ai) : Prop:=Ax m s.1∧Ax m s.2.1∧Ax m s.2.2
theorem sJ {l : List ai} {ws : List Int} (hl : ∀ v ∈ l,bn v=true) (h : ∀ w ∈ ws,wB w=true) : ∀ i : Nat,C5 i (dv l ws i)
 |0=>by simp [dv,C5,Ax,aL]
 |i+1=>by
  have ih:=sJ hl h i
  simp only [dv]
  split
  ·rename_i x w hx hw
   have h1:=hl x (List.mem_of_getElem? hx)
   have h2:=h w (List.mem_of_getElem? hw)
   rw [fe] at h1
   simp only [wB,Bool.not_eq_true',Bool.or_eq_false_iff,decide_eq_false_iff_not] at h2
   exact ⟨(kJ ⟨by omega,by omega⟩ h1.1 ih.1).2,(kJ ⟨by omega,by omega⟩ h1.2.1 ih.2.1).2,(kJ ⟨by omega,by omega⟩ h1.2.2 ih.2.2).2⟩
  ·obtain ⟨⟨⟨a1,a2⟩,a3,a4⟩,⟨⟨b1,b2⟩,b3,b4⟩,⟨c1,c2⟩,c3,c4⟩:=ih
   refine ⟨⟨⟨?_,?_⟩,?_,?_⟩,⟨⟨?_,?_⟩,?_,?_⟩,⟨?_,?_⟩,?_,?_⟩<;>omega
def zt (s x : ai) (w : Int) (k : Nat) : List AV:=[.pv (Z (if 0 < k then (eP w s.1 x.1).1 else s.1.1)),.pv (Z (if 0 < k then (eP w s.1 x.1).2 else s.1.2)),.pv (Z (if 1 < k then (eP w s.2.1 x.2.1).1 else s.2.1.1)),.pv (Z (if 1 < k then (eP w s.2.1 x.2.1).2 else s.2.1.2)),.pv (Z (if 2 < k then (eP w s.2.2 x.2.2).1 else s.2.2.1)),.pv (Z (if 2 < k then (eP w s.2.2 x.2.2).2 else s.2.2.2))]
abbrev b6 (s : ai) : List AV:=[.pv (Z s.1.1),.pv (Z s.1.2),.pv (Z s.2.1.1),.pv (Z s.2.1.2),.pv (Z s.2.2.1),.pv (Z s.2.2.2)]
end Go.Ab
namespace Go.Ab
open Go.Proofs
def f8 (l : List Vc) : Bool:=decide (1≤l.length) && decide (l.length≤8) && l.all (ax 268435456)
def aZ (v w : Vc) : Vc:=(v.1 - w.1,v.2.1 - w.2.1,v.2.2 - w.2.2)
def bP (v w : Vc) : Int:=v.1 * w.1+v.2.1 * w.2.1+v.2.2 * w.2.2
theorem nt {v w : Vc} {m n : Nat} (hv : eZ m v) (hw : eZ n w) : (-((m * n : Nat) : Int)≤v.1 * w.1∧v.1 * w.1≤((m * n : Nat) : Int))∧(-((m * n : Nat) : Int)≤v.2.1 * w.2.1∧v.2.1 * w.2.1≤((m * n : Nat) : Int))∧(-((m * n : Nat) : Int)≤v.2.2 * w.2.2∧v.2.2 * w.2.2≤((m * n : Nat) : Int)):=
 ⟨bi m n hv.1.1 hv.1.2 hw.1.1 hw.1.2,bi m n hv.2.1.1 hv.2.1.2 hw.2.1.1 hw.2.1.2,bi m n hv.2.2.1 hv.2.2.2 hw.2.2.1 hw.2.2.2⟩
def dE (l : List Vc) (w : List Int) : Nat→Vc
 |0=>(0,0,0)
 |i+1=>match l[i]?,w[i]? with
  |some p,some k=>((dE l w i).1+k * p.1,(dE l w i).2.1+k * p.2.1,(dE l w i).2.2+k * p.2.2)
  |_,_=>dE l w i
structure WgOk (w : List Int) : Prop where
 pos : ∀ k ∈ w,0≤k
 tot : aW w w.length≤65536
theorem oV {w : List Int} {i : Nat} {k : Int} (h : w[i]?=some k) : aW w (i+1)=aW w i+k:=by simp [aW,h]
theorem gQ {w : List Int} (h : ∀ k ∈ w,0≤k) {i j : Nat} (hij : i≤j) : aW w i≤aW w j:=by
 induction hij with
 |refl=>exact Int.le_refl _
 |step h1 ih=>
  rename_i m
  cases hw : w[m]? with
  |none=>simp only [aW,hw,Option.getD_none];omega
  |some k=>
   have:=h k (List.mem_of_getElem? hw)
   rw [oV hw];omega
theorem xf {w : List Int} (h : ∀ k ∈ w,0≤k) (i : Nat) : 0≤aW w i:=gQ h (Nat.zero_le i)
theorem qj {k x m : Int} (hk : 0≤k) (hx : -m≤x∧x≤m) : -(k * m)≤k * x∧k * x≤k * m:=by
 refine ⟨?_,Int.mul_le_mul_of_nonneg_left hx.2 hk⟩
 have:=Int.mul_le_mul_of_nonneg_left hx.1 hk
 rw [Int.mul_neg] at this;exact this
theorem eX {v : Vc} (h : ax 268435456 v=true) : eZ 268435456 v:=by
 rw [bV,bf,bf,bf] at h
 exact ⟨⟨by omega,by omega⟩,⟨by omega,by omega⟩,⟨by omega,by omega⟩⟩
theorem vj {l : List Vc} {w : List Int} (hl : l.all (ax 268435456)=true) (hw : ∀ k ∈ w,0≤k) : ∀ i : Nat,eZ (aW w i * 268435456) (dE l w i)
 |0=>by simp [dE,aW,eZ]
 |i+1=>by
  have ih:=vj hl hw i
  have hm:=gQ hw (Nat.le_succ i)
  simp only [dE]
  split
  ·rename_i p k hp hk
   have h1:=eX (List.all_eq_true.1 hl p (List.mem_of_getElem? hp))
   have h2:=hw k (List.mem_of_getElem? hk)
   rw [oV hk]
   obtain ⟨a,b,c⟩:=h1
   have e1:=qj h2 a
   have e2:=qj h2 b
   have e3:=qj h2 c
   obtain ⟨i1,i2,i3⟩:=ih
   exact ⟨⟨by simp only;omega,by simp only;omega⟩,⟨by simp only;omega,by simp only;omega⟩,⟨by simp only;omega,by simp only;omega⟩⟩
  ·obtain ⟨i1,i2,i3⟩:=ih
   have hm' : aW w i≤aW w (i+1):=hm
   exact ⟨⟨by omega,by omega⟩,⟨by omega,by omega⟩,⟨by omega,by omega⟩⟩
theorem ky {l : List Vc} {w : List Int} (hl : l.all (ax 268435456)=true) (hw : WgOk w) (i : Nat) (hi : i≤w.length) : eZ 17592186044416 (dE l w i):=by
 have h1:=vj hl hw.pos i
 have h2:=gQ hw.pos hi
 have h3:=hw.tot
 obtain ⟨i1,i2,i3⟩:=h1
 exact ⟨⟨by omega,by omega⟩,⟨by omega,by omega⟩,⟨by omega,by omega⟩⟩
def oW (s p : Vc) (k : Int) (j : Nat) : List AV:=[.pv (Z (if 0 < j then s.1+k * p.1 else s.1)),.pv (Z (if 1 < j then s.2.1+k * p.2.1 else s.2.1)),.pv (Z (if 2 < j then s.2.2+k * p.2.2 else s.2.2))]
def dW (bet : Int→Int→Bool) (n p0 : Vc) (l : List Vc) : Nat→Int × Nat
 |0=>(bP n p0,0)
 |i+1=>match l[i]? with
  |some v=>if bet (bP n v) (dW bet n p0 l i).1=true then (bP n v,i) else dW bet n p0 l i
  |none=>dW bet n p0 l i
theorem oX {bet : Int→Int→Bool} {n p0 : Vc} {l : List Vc} {i : Nat} {v : Vc} (h : l[i]?=some v) : dW bet n p0 l (i+1)=if bet (bP n v) (dW bet n p0 l i).1=true then (bP n v,i) else dW bet n p0 l i:=by simp only [dW,h]
theorem oY {bet : Int→Int→Bool} {n p0 : Vc} {l : List Vc} (hl : 0 < l.length) : ∀ i,(dW bet n p0 l i).2 < l.length
 |0=>hl
 |i+1=>by
  have:=oY (bet:=bet) (n:=n) (p0:=p0) hl i
  simp only [dW]
  split
  ·rename_i v hv
   obtain ⟨h,_⟩:=List.getElem?_eq_some_iff.1 hv
   split
   ·exact h
   ·exact this
  ·exact this
def dt (bet : Int→Int→Bool) (n : Vc) (l : List Vc) : Int × Nat:=dW bet n ((l[0]?).getD (0,0,0)) l l.length
end Go.Ab
namespace Go.Ab
open Go.Proofs
def Aj (x y z : AV) (fb : Option bI) : Option bI:=match x,y,z with
 |.pv (.val (.int .i64 a)),.pv (.val (.int .i64 b)),.pv (.val (.int .i64 c))=>some (.pv (Z (max a (max b c))),[])
 |_,_,_=>fb
@[simp] theorem GR (a b c : Int) (fb : Option bI) : Aj (.pv (.val (.int .i64 a))) (.pv (.val (.int .i64 b))) (.pv (.val (.int .i64 c))) fb=some (.pv (Z (max a (max b c))),[]):=rfl
@[simp] theorem KR {dst : Option Nat} {ty : TypeId} {ts : Array TypeId} {pos : String} {aft : Array Edge} {g : Option (Nat × Bool)} {ρ : Operand→AV} (x y z : Operand) :
 aR Tryz.prog ⟨dst,.call ⟨.builtin .max,#[x,y,z],ts⟩,ty,pos,aft,g⟩ ρ=Aj (ρ x) (ρ y) (ρ z) (ga Tryz.prog ⟨dst,.call ⟨.builtin .max,#[x,y,z],ts⟩,ty,pos,aft,g⟩ ρ):=by
 unfold Aj
 split
 ·rename_i a b c hx hy hz
  refine cW (by simp [Op.operands,Call.operands,hx,hy,hz,dC]) ?_
  unfold execOp
  simp [resolve,invoke,builtin,Builtin.max_,hx,hy,hz,lT,dC,Builtin.max2,af,cF]
  try omega
 ·rfl
def lK (x y : Int) : Int:=max (max (max (max 0 x) (-x)) y) (-y)
set_option maxRecDepth 100000 in
@[simp] theorem Iq : cO Tryz.prog 336:=by
 refine ⟨by kernel_rfl,fun args w=>?_⟩
 refine callsD_of_wpS Tryz.func336 rfl fun c₀ cs hu=>?_
 apply wpS_seq
 apply wpS_region
 have hk : ∀ k,k < Tryz.f336.ntmps→k < args.size+(Tryz.f336.ntmps - args.size):=by intro k h;omega
 rw [Tryz.ntmps336] at hk
 have h0:=hk 0 (by decide)
 have h1:=hk 1 (by decide)
 have h2:=hk 2 (by decide)
 have h3:=hk 3 (by decide)
 simp [wpOpsS,go_sem,recoverD,hu,Tryz.ntmps336,Exit.thenS,h0,h1,h2,h3]
 refine wpS_cond (t:=false) (by simp [Act.eval,h0,h1,h2,h3]) ?_
 simp only [Bool.false_eq_true,if_false]
 refine wpS_of_wp (wp_skip ?_)
 cases c₀
 simp_all [bodyPostS,results,Tryz.results336]
set_option maxRecDepth 100000 in
@[simp] theorem Ir : cO Tryz.prog 238:=by
 refine ⟨by kernel_rfl,fun args w=>?_⟩
 refine callsD_of_wpS Tryz.func238 rfl fun c₀ cs hu=>?_
 apply wpS_seq
 apply wpS_region
 have hk : ∀ k,k < Tryz.f238.ntmps→k < args.size+(Tryz.f238.ntmps - args.size):=by intro k h;omega
 rw [Tryz.ntmps238] at hk
 have h0:=hk 0 (by decide)
 have h1:=hk 1 (by decide)
 have h2:=hk 2 (by decide)
 simp [wpOpsS,go_sem,recoverD,hu,Tryz.ntmps238,Exit.thenS,h0,h1,h2]
 refine wpS_cond (t:=false) (by simp [Act.eval,h0,h1,h2]) ?_
 simp only [Bool.false_eq_true,if_false]
 refine wpS_of_wp (wp_skip ?_)
 cases c₀
 simp_all [bodyPostS,results,Tryz.results238]
def gH (u v : Iv) (tot : Int) : Int:=(lK (u.1 - v.2) (u.2 - v.1)+tot - 1) / tot
def Ak (m : List Int) (reach : Int) : Nat→Int
 |0=>reach * reach
 |k+1=>Ak m reach k - (m[k]?).getD 0 * (m[k]?).getD 0
def Al (U V : ai) (tot : Int) : List Int:=[gH U.1 V.1 tot,gH U.2.1 V.2.1 tot,gH U.2.2 V.2.2 tot]
def uv (m : List Int) (reach : Int) : Int:=if m.all (fun x=>decide (x≤reach)) then Ak m reach 3 else -1
def jY (left right : List Int) (a : List ai) (ra : Int) (b : List ai) (rb : Int) : Bool:=
 dX a left && dX b right && decide (aW left left.length=aW right right.length) && bz ra 0 1048576 && bz rb 0 1048576
def jp (left right : List Int) (a : List ai) (ra : Int) (b : List ai) (rb : Int) : Int:=
 if jY left right a ra b rb then uv (Al (dv a left left.length) (dv b right right.length) (aW left left.length)) (ra+rb) else 0
theorem xd {a : List ai} {w : List Int} (h : dX a w=true) : C5 8 (dv a w w.length):=by
 simp only [dX,av,Bool.and_eq_true,decide_eq_true_eq,List.all_eq_true] at h
 obtain ⟨⟨⟨⟨⟨h1,h2⟩,h3⟩,h4⟩,h5⟩,h6⟩:=h
 obtain ⟨⟨⟨a1,a2⟩,a3,a4⟩,⟨⟨b1,b2⟩,b3,b4⟩,⟨c1,c2⟩,c3,c4⟩:=sJ h3 h5 w.length
 refine ⟨⟨⟨?_,?_⟩,?_,?_⟩,⟨⟨?_,?_⟩,?_,?_⟩,⟨?_,?_⟩,?_,?_⟩<;>omega
theorem xe {a : List ai} {w : List Int} (h : dX a w=true) : 1≤aW w w.length∧aW w w.length≤65536:=by
 simp only [dX,Bool.and_eq_true,Bool.not_eq_true',Bool.or_eq_false_iff,decide_eq_false_iff_not] at h
 omega
theorem CG {x y : Int} {m : Int} (hx : -m≤x∧x≤m) (hy : -m≤y∧y≤m) : 0≤lK x y∧lK x y≤m:=by
 unfold lK;omega
theorem Ev {h t : Int} (h0 : 0≤h) (h1 : h≤4503599627370496) (t1 : 1≤t) (t2 : t≤65536) : 0≤(h+t - 1) / t∧(h+t - 1) / t≤4503599627370496:=by
 refine ⟨Int.ediv_nonneg (by omega) (by omega),?_⟩
 have : (h+t - 1) / t < 4503599627370496+1:=Int.ediv_lt_of_lt_mul (by omega) (by
  have h2 : (4503599627370496+1) * 1≤(4503599627370496+1) * t:=by omega
  omega)
 omega
theorem qi {x m : Int} (h0 : 0≤x) (h1 : x≤m) : 0≤x * x∧x * x≤m * m:=⟨Int.mul_nonneg h0 h0,Int.mul_le_mul h1 h1 h0 (by omega)⟩
end Go.Ab
namespace Go.Ab
theorem lS {C : Cx} {hn : List Nat} {ops : Array Oper} {Q : St→Prop} {Q' : Exit→Act→World→Prop} {rest : List Oper} (hQ : ∀ st a w,gx C st a w→Q st→wpList C.P ops Q' rest a w) :
 ∀ {l : List Oper} {st : St} {a : Act} {w : World},gx C st a w→eH C.P hn C.N ops Q l st→wpList C.P ops Q' (l++rest) a w
 |[],st,a,w,hs,e=>hQ st a w hs e
 |o :: l,st,a,w,hs,e=>by
  obtain ⟨L,hm,hN,hdf,ht⟩:=hs
  rw [eH.eq_2] at e
  obtain ⟨hd,e⟩:=e
  rw [List.cons_append]
  refine wpList_step (fun K hK=>?_)
  split at e
  ·rename_i hg
   rw [dc ht (kT hg),if_pos rfl]
   exact qX hm hN hdf ht hd e (fun eff a' w' hk hsim=>hK _ _ (lS hQ hsim hk))
  ·rename_i d b want hg
   rw [dc ht (ji hg)]
   unfold rG at e
   simp only at e
   split at e
   ·rename_i hgt
    subst hgt
    rw [if_pos (by simp)]
    exact qX hm hN hdf ht hd e (fun eff a' w' hk hsim=>hK _ _ (lS hQ hsim hk))
   ·rename_i hgt
    rw [if_neg (by simpa using hgt)]
    exact hK _ _ (lS hQ (gx.put hm hN hdf ht hd (W:=[]) (aI.refl hm) (.pv (.val _))) e)
  ·exact e.elim
def rekey (h : Hp) (ks : List Nat) (k : Nat) (blk : Blk) : Hp:=fun q=>if q=k then some blk else if ks.contains q=true then none else (h q).map (iS ks)
def St.rekey (st : St) (ks : List Nat) (k : Nat) (blk : Blk) : St:=⟨fun n=>iq ks (st.t n),Go.Ab.rekey st.h ks k blk⟩
section
variable {C : Cx} {L : Nat→Loc} {h : Hp} {w : World}
end
section
variable {C : Cx} {Q : Exit→St→Prop} {st : St}
theorem ym {ops : Array Oper} {a : Act} {o : Oper} (hg : o.guard=none) : Region.wanted o (yielded ops a.tmps)=true:=by
 unfold Region.wanted;rw [hg]
end
attribute [simp] St.rekey rekey
def EV (e1 sz1 : Nat) (xs' : List PV) : Exit→St→Prop
 |.normal,st=>st.h 2000000=some (.row e1 sz1 xs' 0)
 |.ret,st=>st.h 2000000=some (.row e1 sz1 xs' 0)
 |_,_=>False
@[simp] theorem Gz {e1 sz1 : Nat} {xs' : List PV} {st : St} : EV e1 sz1 xs' .normal st=(st.h 2000000=some (.row e1 sz1 xs' 0)):=rfl
@[simp] theorem HE {e1 sz1 : Nat} {xs' : List PV} {st : St} : EV e1 sz1 xs' .ret st=(st.h 2000000=some (.row e1 sz1 xs' 0)):=rfl
end Go.Ab
namespace Go.Ab
def qP (ren : Nat→Nat) : AV→AV
 |.ptr k off=>.ptr (ren k) off
 |.arr k n=>.arr (ren k) n
 |x=>x
def Cd (ren : Nat→Nat) : AV→AV
 |.agg cs=>.agg (cs.map (qP ren))
 |x=>qP ren x
def nJ (K : List Nat) : AV→Bool
 |.pv _=>true
 |.ptr k _=>K.contains k
 |.arr k _=>K.contains k
 |_=>false
def EW (K : List Nat) : AV→Bool
 |.agg cs=>cs.all (nJ K)
 |x=>nJ K x
def di : List (Nat × Blk)→Hp
 |[]=>fun _=>none
 |(k,b) :: r=>fun q=>if q=k then some b else di r q
def jz (ren : Nat→Nat) (own : Bool) : Blk→Blk
 |.box cs _ _=>.box (cs.map (qP ren)) own false
 |b=>b
def oH (K : List Nat) (k : Nat) : Blk→Bool
 |.box cs own fz=>cs.all (nJ K) && !own && !fz && decide (1000000≤k) && decide (k < 2000000)
 |.row _ _ _ fz=>decide (fz=0) && decide (2000000≤k)
def vX : Blk→Blk→Bool
 |.box _ _ _,.box _ _ _=>true
 |.row e sz xs _,.row e' sz' xs' _=>e==e' && sz==sz' && xs.length==xs'.length
 |_,_=>false
theorem iy {G : List (Nat × Blk)} {k : Nat} {b : Blk} (h : di G k=some b) : (k,b) ∈ G:=by
 induction G with
 |nil=>cases h
 |cons x r ih=>
  obtain ⟨k',b'⟩:=x
  simp only [di] at h
  split at h
  ·rename_i e;injection h with h;subst e;subst h;exact List.mem_cons_self
  ·exact List.mem_cons_of_mem _ (ih h)
theorem mv {G : List (Nat × Blk)} (hn : (G.map (·.1)).Nodup) {k : Nat} {b : Blk} (h : (k,b) ∈ G) : di G k=some b:=by
 induction G with
 |nil=>cases h
 |cons x r ih=>
  obtain ⟨k',b'⟩:=x
  simp only [di]
  rw [List.map_cons,List.nodup_cons] at hn
  rcases List.mem_cons.1 h with e|e
  ·injection e with e1 e2;subst e1;subst e2;rw [if_pos rfl]
  ·have hne : k≠k':=by
    rintro rfl
    exact hn.1 (List.mem_map.2 ⟨(k,b),e,rfl⟩)
   rw [if_neg hne];exact ih hn.2 e
section
variable {w : World} {M M' : Nat→Nat→Prop} {L L' : Nat→Loc} {h h' : Hp} {ren : Nat→Nat} {K : List Nat}
theorem pM (hM : ∀ b o,M' b o→M b o) (hk : ∀ k ∈ K,∀ blk,h (ren k)=some blk→∃ blk',h' k=some blk'∧gC blk (L (ren k)) blk' (L' k)) {x : AV} {u : Value} (ho : nJ K x=true) (hx : RepA w M L h (qP ren x) u) : RepA w M' L' h' x u:=by
 cases x with
 |pv p=>cases hx with
  |pv hr=>exact .pv (hr.mono (ba.sub hM))
 |ptr k off=>
  cases hx with
  |ptr hb=>
   obtain ⟨blk',h1,h2⟩:=hk k (by simpa [nJ] using ho) _ hb
   cases blk' with
   |row=>exact h2.elim
   |box cs own fz=>
    have h2 : (L' k).b=(L (ren k)).b:=h2
    rw [← h2];exact .ptr h1
 |arr k n=>
  cases hx with
  |arr hb hn hu=>
   obtain ⟨blk',h1,h2⟩:=hk k (by simpa [nJ] using ho) _ hb
   cases blk' with
   |box=>exact h2.elim
   |row e sz xs fz=>
    obtain ⟨_,_,a2,a3⟩:=h2
    refine .arr h1 (by omega) (fun e=>?_)
    have : xs.length=_:=Nat.le_antisymm (by omega) a2
    rw [a3 this];exact hu (by omega)
 |_=>cases ho
theorem Ce (hM : ∀ b o,M' b o→M b o) (hk : ∀ k ∈ K,∀ blk,h (ren k)=some blk→∃ blk',h' k=some blk'∧gC blk (L (ren k)) blk' (L' k)) {x : AV} {u : Value} (ho : EW K x=true) (hx : RepA w M L h (Cd ren x) u) : RepA w M' L' h' x u:=by
 cases x with
 |agg cs=>
  cases hx with
  |agg _ vs hl hh=>
   refine .agg cs vs (by simpa using hl) (fun i p u hp hu=>?_)
   exact pM hM hk (List.all_eq_true.1 ho p (List.mem_of_getElem? hp)) (hh i _ u (by simp [hp]) hu)
 |_=>exact pM hM hk ho hx
theorem zL (hM : ∀ b o,M' b o→M b o) (hk : ∀ k ∈ K,∀ blk,h' k=some blk→∃ blk',h (ren k)=some blk'∧gC blk (L' k) blk' (L (ren k))) {x : AV} {u : Value} (ho : nJ K x=true) (hx : RepA w M L' h' x u) : RepA w M' L h (qP ren x) u:=by
 cases x with
 |pv p=>cases hx with
  |pv hr=>exact .pv (hr.mono (ba.sub hM))
 |ptr k off=>
  cases hx with
  |ptr hb=>
   obtain ⟨blk',h1,h2⟩:=hk k (by simpa [nJ] using ho) _ hb
   cases blk' with
   |row=>exact h2.elim
   |box cs own fz=>
    have h2 : (L (ren k)).b=(L' k).b:=h2
    rw [← h2];exact .ptr h1
 |arr k n=>
  cases hx with
  |arr hb hn hu=>
   obtain ⟨blk',h1,h2⟩:=hk k (by simpa [nJ] using ho) _ hb
   cases blk' with
   |box=>exact h2.elim
   |row e sz xs fz=>
    obtain ⟨_,_,a2,a3⟩:=h2
    refine .arr h1 (by omega) (fun e=>?_)
    have : xs.length=_:=Nat.le_antisymm (by omega) a2
    rw [a3 this];exact hu (by omega)
 |_=>cases ho
end
def DO (G : List (Nat × Blk)) (L : Nat→Loc) (b : Nat) : Prop:=∃ k blk,di G k=some blk∧blk.live (L k)∧b=(L k).b
structure OkG (G G' : List (Nat × Blk)) : Prop where
 keys : G'.map (·.1)=G.map (·.1)
 nodup : (G.map (·.1)).Nodup
 okin : ∀ k b,(k,b) ∈ G→oH (G.map (·.1)) k b=true
 okout : ∀ k b,(k,b) ∈ G'→oH (G.map (·.1)) k b=true
 same : ∀ k b b',di G k=some b→di G' k=some b'→vX b b'=true
def HF (P : Program) (f : FuncId) (args : List AV) (G G' : List (Nat × Blk)) (res : PV) : Prop:=
 ei P f=true∧OkG G G'∧∀ (w : World) (M : Nat→Nat→Prop) (L : Nat→Loc) (vs : List Value),(∀ b o,M b o→b < w.heap.size)→
  (∀ k blk,di G k=some blk→blk.live (L k)→∀ o,M (L k).b o)→
  (∀ k k' blk blk',k≠k'→di G k=some blk→di G k'=some blk'→blk.live (L k)→blk'.live (L k')→(L k).b≠(L k').b)→
  (∀ k blk,di G k=some blk→eo w M L (di G) (L k) blk)→aB w M L (di G) args vs→
  Calls P f vs.toArray w fun e w'=>∃ v,e=.returned v∧Ext (DO G L) w w'∧(∀ k blk,di G' k=some blk→eo w' M L (di G') (L k) blk)∧Rep w' M res v
def zM (P : Program) (rs : List ResultVar) (G' : List (Nat × Blk)) (res : PV) (st : St) : Prop:=
 od res=true∧(∃ r,pX P st rs=some r∧∃ W,frz st.h r=some (res,W))∧∀ kb ∈ G',st.h kb.1=some kb.2
def EX (P : Program) (rs : List ResultVar) (G' : List (Nat × Blk)) (res : PV) : Exit→St→Prop
 |.normal,st=>zM P rs G' res st
 |.ret,st=>zM P rs G' res st
 |_,_=>False
@[simp] theorem GA {P : Program} {rs : List ResultVar} {G' : List (Nat × Blk)} {res : PV} {st : St} : EX P rs G' res .normal st=zM P rs G' res st:=rfl
@[simp] theorem HG {P : Program} {rs : List ResultVar} {G' : List (Nat × Blk)} {res : PV} {st : St} : EX P rs G' res .ret st=zM P rs G' res st:=rfl
def kP (h : Hp) (q : Nat) : Bool:=match h q with
 |some (.box _ own _)=>own
 |_=>false
def je (ren : Nat→Nat) (h : Hp) (G' : List (Nat × Blk)) : List (Nat × Blk):=G'.map fun kb=>(ren kb.1,jz ren (kP h (ren kb.1)) kb.2)
theorem sV {ren : Nat→Nat} {g : Nat × Blk→Blk} : ∀ (l : List (Nat × Blk)) (h : Hp),(l.map fun x=>ren x.1).Nodup→∀ x ∈ l,ah h (l.map fun x=>(ren x.1,g x)) (ren x.1)=some (g x)
 |[],_,_,x,hx=>by cases hx
 |y :: l,h,hn,x,hx=>by
  rw [List.map_cons,List.nodup_cons] at hn
  rw [List.map_cons]
  show ah (az h (ren y.1) (some (g y))) (l.map fun x=>(ren x.1,g x)) (ren x.1)=_
  rcases List.mem_cons.1 hx with rfl|hx
  ·rw [iF,aG]
   intro kb hkb
   obtain ⟨z,hz,rfl⟩:=List.mem_map.1 hkb
   intro e
   exact hn.1 (List.mem_map.2 ⟨z,hz,e⟩)
  ·exact sV l _ hn.2 x hx
theorem lc {ren : Nat→Nat} {own : Bool} {b : Blk} {l : Loc} : (jz ren own b).live l↔b.live l:=by cases b<;>exact Iff.rfl
theorem r6 {ren : Nat→Nat} {own : Bool} {b : Blk} {K : List Nat} {k o : Nat} (h : oH K k b=true) : ¬ (jz ren own b).frz o:=by
 cases b with
 |box cs own' fz=>simp [jz,Blk.frz]
 |row e sz xs fz=>
  simp only [oH,Bool.and_eq_true,decide_eq_true_eq] at h
  rw [h.1];simp [jz,Blk.frz]
structure Share (h : Hp) (ren : Nat→Nat) (G G' : List (Nat × Blk)) : Prop where
 ok : OkG G G'
 inj : (G.map fun x=>ren x.1).Nodup
 have_ : ∀ kb ∈ G,h (ren kb.1)=some (jz ren (kP h (ren kb.1)) kb.2)
section
variable {C : Cx} {L : Nat→Loc} {h : Hp} {w : World} {ren : Nat→Nat} {G G' : List (Nat × Blk)}
theorem Share.ren_inj (hs : Share h ren G G') {k k' : Nat} {b b' : Blk} (hk : di G k=some b) (hk' : di G k'=some b') (e : ren k=ren k') : k=k':=by
 obtain ⟨i,hi⟩:=List.mem_iff_getElem?.1 (iy hk)
 obtain ⟨j,hj⟩:=List.mem_iff_getElem?.1 (iy hk')
 have h1 : (G.map fun x=>ren x.1)[i]?=some (ren k):=by simp [hi]
 have h2 : (G.map fun x=>ren x.1)[j]?=some (ren k'):=by simp [hj]
 obtain ⟨l1,e1⟩:=List.getElem?_eq_some_iff.1 h1
 obtain ⟨l2,e2⟩:=List.getElem?_eq_some_iff.1 h2
 have : i=j:=(List.getElem_inj hs.inj).1 (e1.trans (e.trans e2.symm))
 subst this
 rw [hi] at hj;injection hj with hj;injection hj with hj
theorem Share.inout (hs : Share h ren G G') {k : Nat} {blk : Blk} (hk : di G k=some blk) : ∃ blk',di G' k=some blk':=by
 have hm : k ∈ G'.map (·.1):=by rw [hs.ok.keys];exact List.mem_map.2 ⟨_,iy hk,rfl⟩
 obtain ⟨⟨k',b'⟩,h1,h2⟩:=List.mem_map.1 hm
 simp only at h2;subst h2
 exact ⟨b',mv (by rw [hs.ok.keys];exact hs.ok.nodup) h1⟩
theorem Share.outin (hs : Share h ren G G') {k : Nat} {blk : Blk} (hk : di G' k=some blk) : ∃ blk',di G k=some blk':=by
 have hm : k ∈ G.map (·.1):=by rw [← hs.ok.keys];exact List.mem_map.2 ⟨_,iy hk,rfl⟩
 obtain ⟨⟨k',b'⟩,h1,h2⟩:=List.mem_map.1 hm
 simp only at h2;subst h2
 exact ⟨b',mv hs.ok.nodup h1⟩
theorem Share.at_ (hs : Share h ren G G') {k : Nat} {blk : Blk} (hk : di G k=some blk) : h (ren k)=some (jz ren (kP h (ren k)) blk):=hs.have_ _ (iy hk)
theorem Share.new (hs : Share h ren G G') {k : Nat} {blk : Blk} (hk : di G' k=some blk) : ah h (je ren h G') (ren k)=some (jz ren (kP h (ren k)) blk):=by
 have hn : (G'.map fun x=>ren x.1).Nodup:=by
  have e : (G'.map fun x=>ren x.1)=(G.map fun x=>ren x.1):=by
   have:=congrArg (List.map ren) hs.ok.keys
   simpa [List.map_map,Function.comp_def] using this
  rw [e];exact hs.inj
 exact sV (g:=fun kb=>jz ren (kP h (ren kb.1)) kb.2) G' h hn (k,blk) (iy hk)
theorem Share.other (hs : Share h ren G G') {q : Nat} (hq : ∀ k blk,di G k=some blk→q≠ren k) : ah h (je ren h G') q=h q:=by
 refine iF ?_
 intro kb hkb e
 obtain ⟨⟨k,b⟩,hz,rfl⟩:=List.mem_map.1 hkb
 obtain ⟨blk',hk'⟩:=hs.outin (mv (by rw [hs.ok.keys];exact hs.ok.nodup) hz)
 exact hq k _ hk' e.symm
theorem Share.cases (hs : Share h ren G G') {q : Nat} {b : Blk} (hq : ah h (je ren h G') q=some b) :
 (∃ k blk blk',di G k=some blk∧di G' k=some blk'∧q=ren k∧b=jz ren (kP h (ren k)) blk')∨((∀ k blk,di G k=some blk→q≠ren k)∧h q=some b):=by
 by_cases hc : ∃ k blk,di G k=some blk∧q=ren k
 ·obtain ⟨k,blk,hk,rfl⟩:=hc
  obtain ⟨blk',hk'⟩:=hs.inout hk
  rw [hs.new hk'] at hq;injection hq with hq
  exact .inl ⟨k,blk,blk',hk,hk',rfl,hq.symm⟩
 ·have hne : ∀ k blk,di G k=some blk→q≠ren k:=fun k blk hk e=>hc ⟨k,blk,hk,e⟩
  rw [hs.other hne] at hq
  exact .inr ⟨hne,hq⟩
theorem wo {b b' : Blk} {l : Loc} {ren : Nat→Nat} {own : Bool} (h : vX b b'=true) : gC (jz ren own b) l (jz ren own b') l:=by
 cases b<;>cases b'<;>first|(cases h;done)|skip
 ·exact rfl
 ·simp only [vX,Bool.and_eq_true,beq_iff_eq] at h
  exact ⟨h.1.1.symm,h.1.2.symm,Nat.le_of_eq h.2,fun _=>rfl⟩
theorem Share.okin (hs : Share h ren G G') {k : Nat} {b : Blk} (hk : di G k=some b) : oH (G.map (·.1)) k b=true:=hs.ok.okin _ _ (iy hk)
theorem Share.okout (hs : Share h ren G G') {k : Nat} {b : Blk} (hk : di G' k=some b) : oH (G.map (·.1)) k b=true:=hs.ok.okout _ _ (iy hk)
theorem Share.view (hs : Share h ren G G') (hm : MemL C L h w) {k : Nat} {blk : Blk} (hk : di G k=some blk) : eo w (ak C L h) (fun k=>L (ren k)) (di G) (L (ren k)) blk:=by
 have hb:=hm.bl _ _ (hs.at_ hk)
 cases blk with
 |row e sz xs fz=>exact hb
 |box cs own fz=>
  obtain ⟨arr,ty,e1,e2⟩:=hb
  have ho:=hs.okin hk
  simp only [oH,Bool.and_eq_true] at ho
  refine ⟨arr,ty,e1,by simpa using e2.1,fun i p u hp hu=>?_⟩
  refine pM (ren:=ren) (K:=G.map (·.1)) (fun b o h=>h) (fun q hq b hb=>?_) (List.all_eq_true.1 ho.1.1.1.1 p (List.mem_of_getElem? hp)) (e2.2 i _ u (by simp [hp]) hu)
  obtain ⟨⟨q',b'⟩,h1,h2⟩:=List.mem_map.1 hq
  simp only at h2;subst h2
  have hq':=mv hs.ok.nodup h1
  refine ⟨b',hq',?_⟩
  rw [hs.at_ hq'] at hb;injection hb with hb;subst hb
  cases b' with
  |box=>exact rfl
  |row=>exact ⟨rfl,rfl,Nat.le_refl _,fun _=>rfl⟩
theorem MemL.shareStep (hm : MemL C L h w) (hs : Share h ren G G') {w' : World} (hx : Ext (DO G (fun k=>L (ren k))) w w')
 (hb : ∀ k blk,di G' k=some blk→eo w' (ak C L h) (fun k=>L (ren k)) (di G') (L (ren k)) blk) : aI C L h w L (ah h (je ren h G')) w':=by
 have hMM : ∀ b o,ak C L (ah h (je ren h G')) b o→ak C L h b o:=by
  rintro b o (h0|⟨q,blk,hq,hl,hqb,hf⟩)
  ·exact .inl h0
  ·rcases hs.cases hq with ⟨k,b1,b2,hk,hk',rfl,rfl⟩|⟨_,hq'⟩
   ·refine .inr ⟨ren k,_,hs.at_ hk,?_,hqb,r6 (hs.okin hk)⟩
    have hsm:=hs.ok.same k _ _ hk hk'
    cases b1<;>cases b2<;>first|(cases hsm;done)|exact hl
   ·exact .inr ⟨q,blk,hq',hl,hqb,hf⟩
 have hkc : KC L h L (ah h (je ren h G')):=by
  intro q blk hq
  by_cases hc : ∃ k b,di G k=some b∧q=ren k
  ·obtain ⟨k,b,hk,rfl⟩:=hc
   obtain ⟨b',hk'⟩:=hs.inout hk
   rw [hs.at_ hk] at hq;injection hq with hq;subst hq
   exact ⟨_,hs.new hk',wo (hs.ok.same k _ _ hk hk')⟩
  ·exact ⟨blk,by rw [hs.other (fun k b hk e=>hc ⟨k,b,hk,e⟩)];exact hq,fa _ _⟩
 have hpres : ba w (ak C L h) w' (ak C L (ah h (je ren h G'))):=by
  intro b o v hc hn
  refine ⟨(hx.cell (iO hc) ?_).trans hc,fun h=>hn (hMM b o h)⟩
  rintro ⟨k,blk,hk,hl,rfl⟩
  exact hn (.inr ⟨ren k,_,hs.at_ hk,lc.2 hl,rfl,r6 (hs.okin hk)⟩)
 refine ⟨⟨?_,hm.m0,?_,?_,?_⟩,hpres,hkc⟩
 ·refine hm.ext.trans hx (fun b hb0 hmem=>?_)
  obtain ⟨k,blk,hk,hl,rfl⟩:=hmem
  have hb1 : (L (ren k)).b < C.w0.heap.size:=hb0
  have how:=hm.own _ _ (hs.at_ hk)
  cases blk with
  |box cs own fz=>
   cases hown : kP h (ren k) with
   |false=>rw [hown] at how;exact how.2.2.1
   |true=>rw [hown] at how;simp only [jz,fA] at how;omega
  |row e sz xs fz=>
   rcases how.row hl with h9|h9
   ·omega
   ·exact h9.1
 ·intro q blk hq
  rcases hs.cases hq with ⟨k,b1,b2,hk,hk',rfl,rfl⟩|⟨hne,hq'⟩
  ·have hbr:=hb k b2 hk'
   cases b2 with
   |row e sz xs fz=>
    obtain ⟨g1,g2,g3,g4,g5⟩:=hbr
    refine ⟨g1,g2,g3,g4,fun hn=>?_⟩
    obtain ⟨a1,a2,arr,a3,a4,a5⟩:=g5 hn
    exact ⟨a1,a2,arr,a3,a4,fun i x j p hx9 hj=>by obtain ⟨u,hu,hr⟩:=a5 i x j p hx9 hj;exact ⟨u,hu,hr.mono (ba.sub hMM)⟩⟩
   |box cs own fz=>
    obtain ⟨arr,ty,e1,e2⟩:=hbr
    have ho:=hs.okout hk'
    simp only [oH,Bool.and_eq_true] at ho
    refine ⟨arr,ty,e1,by simpa using e2.1,fun i p u hp hu=>?_⟩
    simp only [List.getElem?_map,Option.map_eq_some_iff] at hp
    obtain ⟨y,hy,rfl⟩:=hp
    refine zL (ren:=ren) (K:=G.map (·.1)) (L':=fun k=>L (ren k)) (h':=di G') hMM (fun q hq b hb=>?_) (List.all_eq_true.1 ho.1.1.1.1 y (List.mem_of_getElem? hy)) (e2.2 i y u hy hu)
    refine ⟨_,hs.new hb,?_⟩
    cases b with
    |box=>exact rfl
    |row=>exact ⟨rfl,rfl,Nat.le_refl _,fun _=>rfl⟩
  ·refine (hm.bl q blk hq').mono hpres hkc (fun hl=>hx.block _ ((hm.bl q blk hq').lt hl) ?_)
   rintro ⟨k,b,hk,hl',e⟩
   exact hm.sep q (ren k) _ _ (hne k b hk) hq' (hs.at_ hk) hl (lc.2 hl') e
 ·have aux : ∀ q b,ah h (je ren h G') q=some b→b.live (L q)→∃ b0,h q=some b0∧b0.live (L q):=by
   intro q b hq hl
   rcases hs.cases hq with ⟨k,b1,b2,hk,hk',rfl,rfl⟩|⟨_,hq'⟩
   ·refine ⟨_,hs.at_ hk,?_⟩
    have hsm:=hs.ok.same k _ _ hk hk'
    cases b1<;>cases b2<;>first|(cases hsm;done)|exact hl
   ·exact ⟨b,hq',hl⟩
  intro q q' b1 b2 hne hq hq' hl hl'
  obtain ⟨c1,d1,f1⟩:=aux q b1 hq hl
  obtain ⟨c2,d2,f2⟩:=aux q' b2 hq' hl'
  exact hm.sep q q' c1 c2 hne d1 d2 f1 f2
 ·intro q blk hq
  rcases hs.cases hq with ⟨k,b1,b2,hk,hk',rfl,rfl⟩|⟨_,hq'⟩
  ·have how:=hm.own _ _ (hs.at_ hk)
   have hsm:=hs.ok.same k _ _ hk hk'
   cases b1<;>cases b2<;>first|(cases hsm;done)|skip
   ·cases hown : kP h (ren k) with
    |false=>rw [hown] at how;exact how
    |true=>rw [hown] at how;exact how
   ·exact how
  ·exact hm.own q blk hq'
end
section
variable {C : Cx} {Q : Exit→St→Prop} {st : St}
def EY (C : Cx) (Q : St→Prop) (f : Operand) (xs : List Operand) (d : Option Nat) (st : St) : Prop:=
 ∃ g args G G' res ren,dm (st.ev f)=some (g,[],[])∧HF C.P g args G G' res∧od res=true∧xs.map st.ev=args.map (Cd ren)∧args.all (EW (G.map (·.1)))=true∧(G.map fun x=>ren x.1).Nodup∧
  (∀ kb ∈ G,st.h (ren kb.1)=some (jz ren (kP st.h (ren kb.1)) kb.2))∧fY C.N d=true∧Q (st.put d (.pv res) (je ren st.h G'))
theorem WP.share {hn : List Nat} {id : Nat} {ops : Array Oper} {pre post : List Oper} {o : Oper} {f : Operand} {xs : List Operand} {ats : Array TypeId} (hops : ops.toList=pre++o :: post) (hop : o.op=.call { callee:=.value f,args:=xs.toArray,argTypes:=ats }) (hg : o.guard=none)
 (hq : eH C.P hn C.N ops (EY C (eH C.P hn C.N ops (Q .normal) post) f xs o.dst) pre st) : WP C (.region id ops false) Q st:=by
 intro a w hs
 refine wp_region_list ?_
 rw [hops]
 refine lS (fun st1 a1 w1 hs1 hq1=>?_) hs hq
 obtain ⟨g,args,G,G',res,ren,hce,⟨hcall,hok,hD⟩,hml,hargs,hokA,hinj,hhave,hdN,hQ⟩:=hq1
 obtain ⟨L,hm,hN,hdf,ht⟩:=hs1
 have hsh : Share st1.h ren G G':=⟨hok,hinj,hhave⟩
 refine wpList_step (fun K hK=>?_)
 rw [ym hg,if_pos rfl]
 obtain ⟨vs,us,hfv,hv1,hv2⟩:=oh (ej ht f) hce
 have hvs:=hv1.nil_inv
 have hus:=hv2.nil_inv
 subst hvs;subst hus
 have hlenA : xs.length=args.length:=by have:=congrArg List.length hargs;simpa using this
 have hrepA : aB w1 (ak C L st1.h) (fun k=>L (ren k)) (di G) args (xs.map a1.eval):=by
  refine ⟨by simp [hlenA],fun i p u hp hu=>?_⟩
  simp only [List.getElem?_map,Option.map_eq_some_iff] at hu
  obtain ⟨x,hx,rfl⟩:=hu
  have he:=congrArg (fun l : List AV=>l[i]?) hargs
  simp only [List.getElem?_map,hx,hp,Option.map_some,Option.some.injEq] at he
  have hr:=ej ht x
  rw [he] at hr
  refine Ce (K:=G.map (·.1)) (fun b o h=>h) (fun q hq b hb=>?_) (List.all_eq_true.1 hokA p (List.mem_of_getElem? hp)) hr
  obtain ⟨⟨q',b'⟩,h1,h2⟩:=List.mem_map.1 hq
  simp only at h2;subst h2
  have hq':=mv hsh.ok.nodup h1
  refine ⟨b',hq',?_⟩
  rw [hsh.at_ hq'] at hb;injection hb with hb;subst hb
  cases b' with
  |box=>exact rfl
  |row=>exact ⟨rfl,rfl,Nat.le_refl _,fun _=>rfl⟩
 have hcalls:=hD w1 (ak C L st1.h) (fun k=>L (ren k)) (xs.map a1.eval) (fun b o h=>hm.mlt h)
  (fun k blk hk hl o=>.inr ⟨ren k,_,hsh.at_ hk,lc.2 hl,rfl,r6 (hsh.okin hk)⟩)
  (fun k k' b b' hne hk hk' hl hl'=>hm.sep (ren k) (ren k') _ _ (fun e=>hne (hsh.ren_inj hk hk' e)) (hsh.at_ hk) (hsh.at_ hk') (lc.2 hl) (lc.2 hl'))
  (fun k blk hk=>hsh.view hm hk) hrepA
 have hrun : (execOp a1.eval o).run C.P w1=.ok (.enter g (xs.map a1.eval).toArray) w1:=by
  unfold ei at hcall
  cases hfn : C.P.funcs[g]? with
  |none=>rw [hfn] at hcall;cases hcall
  |some fn=>
   rw [hfn] at hcall
   simp only [Bool.and_eq_true,Bool.not_eq_true',beq_eq_false_iff_ne,ne_eq] at hcall
   have hb : fn.body.isNone=false:=by cases hbb : fn.body<;>simp_all
   unfold execOp
   rw [hop]
   simp only [resolve,hfv,Deferred.ofValue,pure_bind,Sem.run_bind,Result.andThen_ok,invoke,callFunc,program,Sem.run,hfn]
   simp [hcall.2,hb]
 unfold Oper.wp
 rw [hrun]
 simp only [Oper.upon]
 refine hcalls.mono ?_
 rintro ee w' ⟨v,rfl,hx,hb,hr⟩
 have hA:=hm.shareStep hsh hx hb
 refine hK _ _ ?_
 exact lh (fun st' a' w' hs' hq'=>⟨st',hs',hq'⟩) (gx.put hm hN hdf ht hdN hA (.pv (rP hml hr))) hQ
end
attribute [simp] Cd qP EW nJ di jz oH vX je kP
end Go.Ab
namespace Go.Ab
open Go.Proofs
def pJ (x : Int) : Int:=cH (max x (-x)) 65536 * cH (max x (-x)) 65536
def rj (v : Vc) (rho : Int) : Bool:=decide (pJ v.1+pJ v.2.1+pJ v.2.2≤rho * rho)
theorem uw {x : Int} (h : -35184372088832≤x∧x≤35184372088832) : (0≤cH (max x (-x)) 65536∧cH (max x (-x)) 65536≤536870912)∧0≤pJ x∧pJ x≤288230376151711744:=by
 have h1 : 0≤cH (max x (-x)) 65536∧cH (max x (-x)) 65536≤536870912:=by unfold cH;omega
 have h2:=qi h1.1 h1.2
 exact ⟨h1,h2.1,by unfold pJ;omega⟩
def lm (x s : Vc) : Int:=if bP x (aZ x s)≤0 then 0 else min 256 (bP x (aZ x s) / max 1 (bP (aZ x s) (aZ x s) / 256))
theorem sr {v w : Vc} {a b : Int} (hv : eZ a v) (hw : eZ b w) : eZ (a+b) (aZ v w):=by
 obtain ⟨v1,v2,v3⟩:=hv
 obtain ⟨w1,w2,w3⟩:=hw
 refine ⟨?_,?_,?_⟩<;>(simp only [aZ];omega)
theorem jZ (x s : Vc) : 0≤lm x s∧lm x s≤256:=by
 unfold lm
 split
 ·omega
 ·rename_i h
  have h1 : 0≤bP x (aZ x s) / max 1 (bP (aZ x s) (aZ x s) / 256):=Int.ediv_nonneg (by omega) (by omega)
  omega
theorem kY {v : Vc} {a b : Int} (h : eZ a v) (hab : a≤b) : eZ b v:=by
 obtain ⟨v1,v2,v3⟩:=h
 exact ⟨by omega,by omega,by omega⟩
theorem Am (v : Vc) : 0≤bP v v:=by
 have h : ∀ x : Int,0≤x * x:=fun x=>by
  rcases Int.le_total 0 x with h|h
  ·exact Int.mul_nonneg h h
  ·have:=Int.mul_nonneg (show 0≤-x by omega) (show 0≤-x by omega)
   rw [Int.neg_mul_neg] at this;exact this
 have h1:=h v.1
 have h2:=h v.2.1
 have h3:=h v.2.2
 unfold bP;omega
end Go.Ab
namespace Go.Ab
open Go.Proofs
def ed (w : List Int) (t : Int) (i : Nat) : List Int:=w.mapIdx fun j k=>if j < i then k - k * t / 256 else k
def eE (w : List Int) (t : Int) : Nat→Int
 |0=>0
 |i+1=>eE w t i+(w[i]?).getD 0 * t / 256
def jc (w : List Int) (q : Nat) (t : Int) : List Int:=(ed w t w.length).set q (((ed w t w.length)[q]?).getD 0+eE w t w.length)
theorem ln (w : List Int) (t : Int) (i : Nat) : (ed w t i).length=w.length:=by simp [ed]
theorem iI (w : List Int) (t : Int) (i j : Nat) : (ed w t i)[j]?=(w[j]?).map fun k=>if j < i then k - k * t / 256 else k:=by simp [ed,List.getElem?_mapIdx]
theorem tI (w : List Int) (t : Int) : ed w t 0=w:=by
 apply List.ext_getElem?
 intro j
 rw [iI];cases w[j]?<;>simp
theorem tJ {w : List Int} {t : Int} {i : Nat} {k : Int} (hk : w[i]?=some k) : ed w t (i+1)=(ed w t i).set i (k - k * t / 256):=by
 apply List.ext_getElem?
 intro j
 rw [List.getElem?_set,iI,iI,ln]
 by_cases e : i=j
 ·subst e
  obtain ⟨h,_⟩:=List.getElem?_eq_some_iff.1 hk
  rw [hk];simp [h]
 ·rw [if_neg e]
  cases w[j]? with
  |none=>rfl
  |some x=>
   simp only [Option.map_some]
   congr 1
   by_cases h : j < i
   ·rw [if_pos h,if_pos (by omega)]
   ·rw [if_neg h,if_neg (by omega)]
theorem ss (w : List Int) : ∀ i,aW w i=(w.take i).sum
 |0=>by simp [aW]
 |i+1=>by
  rw [List.take_succ]
  cases h : w[i]? with
  |none=>simp [aW,h,ss w i]
  |some k=>simp [aW,h,ss w i]
theorem su (w : List Int) : aW w w.length=w.sum:=by rw [ss,List.take_length]
theorem uy {w : List Int} {q : Nat} {x y : Int} (h : w[q]?=some y) : (w.set q x).sum=w.sum - y+x:=by
 induction w generalizing q with
 |nil=>simp at h
 |cons a r ih=>
  cases q with
  |zero=>simp at h;subst h;simp;omega
  |succ q=>simp at h;simp only [List.set_cons_succ,List.sum_cons,ih h];omega
theorem xg (w : List Int) (t : Int) : ∀ i,i≤w.length→(ed w t i).sum=w.sum - eE w t i
 |0,_=>by simp [tI,eE]
 |i+1,h=>by
  have hk : w[i]?=some w[i]:=List.getElem?_eq_getElem (by omega)
  have hkk : (ed w t i)[i]?=some w[i]:=by rw [iI,hk];simp
  rw [tJ hk,uy hkk,xg w t i (by omega)]
  simp only [eE,hk,Option.getD_some];omega
theorem Ew {w : List Int} {q : Nat} {t : Int} (hq : q < w.length) : (jc w q t).sum=w.sum:=by
 have hlen:=ln w t w.length
 have hk : (ed w t w.length)[q]?=some ((ed w t w.length)[q]'(by omega)):=List.getElem?_eq_getElem (by omega)
 unfold jc
 rw [uy hk,xg w t _ (Nat.le_refl _),hk]
 simp only [Option.getD_some];omega
theorem oZ {k t : Int} (hk : 0≤k) (ht : 0≤t) (ht2 : t≤256) : 0≤k * t∧k * t≤k * 256∧0≤k * t / 256∧k * t / 256≤k:=by
 have h1 : 0≤k * t:=Int.mul_nonneg hk ht
 have h2 : k * t≤k * 256:=Int.mul_le_mul_of_nonneg_left ht2 hk
 omega
theorem sx {w : List Int} {t : Int} (hw : ∀ k ∈ w,0≤k) (ht : 0≤t) (ht2 : t≤256) : ∀ i,0≤eE w t i∧eE w t i≤aW w i
 |0=>by simp [eE,aW]
 |i+1=>by
  have ih:=sx hw ht ht2 i
  cases h : w[i]? with
  |none=>simp [eE,aW,h];omega
  |some k=>
   have:=oZ (hw k (List.mem_of_getElem? h)) ht ht2
   simp only [eE,aW,h,Option.getD_some];omega
theorem uz (w : List Int) (q : Nat) (t : Int) : (jc w q t).length=w.length:=by simp [jc,ln]
theorem Bt {w : List Int} {q : Nat} {t : Int} (hw : WgOk w) (hq : q < w.length) (ht : 0≤t) (ht2 : t≤256) : WgOk (jc w q t):=by
 constructor
 ·intro k hk
  obtain ⟨j,hj,rfl⟩:=List.mem_iff_getElem.1 hk
  have hjl : j < w.length:=by rw [uz] at hj;exact hj
  have hwj : w[j]?=some w[j]:=List.getElem?_eq_getElem hjl
  have hp:=oZ (hw.pos _ (List.getElem_mem hjl)) ht ht2
  have hkj : (ed w t w.length)[j]?=some (w[j] - w[j] * t / 256):=by rw [iI,hwj];simp [hjl]
  have hl:=sx hw.pos ht ht2 w.length
  generalize hx : (jc w q t)[j]=x
  have hg : (jc w q t)[j]?=some x:=by rw [List.getElem?_eq_getElem hj,hx]
  clear hx hk
  unfold jc at hg
  rw [List.getElem?_set] at hg
  by_cases e : q=j
  ·subst e
   rw [if_pos rfl,if_pos (by rw [ln];exact hjl),hkj] at hg
   simp only [Option.getD_some,Option.some.injEq] at hg
   omega
  ·rw [if_neg e,hkj] at hg
   simp only [Option.some.injEq] at hg
   omega
 ·rw [su,Ew hq,← su];exact hw.tot
end Go.Ab
namespace Go.Ab
open Go.Proofs
def dp (A : List Vc) (w : List Int) (B' : List Vc) (v : List Int) : Vc:=aZ (dE A w A.length) (dE B' v B'.length)
def gR (t : Vc) : Vc:=(t.1.tdiv 65536,t.2.1.tdiv 65536,t.2.2.tdiv 65536)
structure NSt where
 w : List Int
 v : List Int
 n : Vc
 r : Nat
inductive NEnd where
 |stop (kind : Int) (s : NSt)
 |step (s : NSt)
def ou (A B' : List Vc) (rho : Int) (steps : Nat) (s : NSt) : NEnd:=
 if rj (dp A s.w B' s.v) rho=true then .stop 2 s
 else if nz (bo (gR (dp A s.w B' s.v)))=false then .stop 0 ⟨s.w,s.v,bo (gR (dp A s.w B' s.v)),s.r⟩
 else if eg (bo (gR (dp A s.w B' s.v))) * rho < (dt eL (bo (gR (dp A s.w B' s.v))) A).1 - (dt eM (bo (gR (dp A s.w B' s.v))) B').1 then .stop 1 ⟨s.w,s.v,bo (gR (dp A s.w B' s.v)),s.r⟩
 else if s.r=steps then .stop 0 ⟨s.w,s.v,bo (gR (dp A s.w B' s.v)),s.r⟩
 else if lm (gR (dp A s.w B' s.v)) (aZ ((A[(dt eL (bo (gR (dp A s.w B' s.v))) A).2]?).getD (0,0,0)) ((B'[(dt eM (bo (gR (dp A s.w B' s.v))) B').2]?).getD (0,0,0)))=0 then .stop 0 ⟨s.w,s.v,bo (gR (dp A s.w B' s.v)),s.r⟩
 else .step ⟨jc s.w (dt eL (bo (gR (dp A s.w B' s.v))) A).2 (lm (gR (dp A s.w B' s.v)) (aZ ((A[(dt eL (bo (gR (dp A s.w B' s.v))) A).2]?).getD (0,0,0)) ((B'[(dt eM (bo (gR (dp A s.w B' s.v))) B').2]?).getD (0,0,0)))),jc s.v (dt eM (bo (gR (dp A s.w B' s.v))) B').2 (lm (gR (dp A s.w B' s.v)) (aZ ((A[(dt eL (bo (gR (dp A s.w B' s.v))) A).2]?).getD (0,0,0)) ((B'[(dt eM (bo (gR (dp A s.w B' s.v))) B').2]?).getD (0,0,0)))),bo (gR (dp A s.w B' s.v)),s.r+1⟩
def nu (A B' : List Vc) (rho : Int) (steps : Nat) : Nat→NSt→Int × NSt
 |0,s=>(0,s)
 |f+1,s=>match ou A B' rho steps s with
  |.stop k s'=>(k,s')
  |.step s'=>nu A B' rho steps f s'
theorem FB {t : Vc} (h : eZ 35184372088832 t) : eZ 536870912 (gR t):=by
 have h1 : ∀ x : Int,-35184372088832≤x∧x≤35184372088832→-536870912≤x.tdiv 65536∧x.tdiv 65536≤536870912:=fun x hx=>by
  rcases Int.le_total 0 x with h0|h0
  ·rw [Int.tdiv_eq_ediv_of_nonneg h0];omega
  ·have e : x.tdiv 65536=-((-x).tdiv 65536):=by rw [Int.neg_tdiv,Int.neg_neg]
   rw [e,Int.tdiv_eq_ediv_of_nonneg (by omega)];omega
 exact ⟨h1 _ h.1,h1 _ h.2.1,h1 _ h.2.2⟩
structure NsOk (A B' : List Vc) (s : NSt) : Prop where
 w : WgOk s.w
 v : WgOk s.v
 wl : s.w.length=A.length
 vl : s.v.length=B'.length
theorem kz {l : List Vc} : f8 l=true↔1≤l.length∧l.length≤8∧l.all (ax 268435456)=true:=by
 simp only [f8,Bool.and_eq_true,decide_eq_true_eq,and_assoc]
theorem CH {A B' : List Vc} {s : NSt} (hA : f8 A=true) (hB : f8 B'=true) (hs : NsOk A B' s) : eZ 35184372088832 (dp A s.w B' s.v):=by
 rw [kz] at hA hB
 have h1:=ky hA.2.2 hs.w A.length (by rw [hs.wl];exact Nat.le_refl _)
 have h2:=ky hB.2.2 hs.v B'.length (by rw [hs.vl];exact Nat.le_refl _)
 exact sr h1 h2
theorem nv {bet : Int→Int→Bool} {n : Vc} {l : List Vc} (hl : 1≤l.length) : (dt bet n l).2 < l.length:=oY hl _
theorem tK : ∀ (k : Nat) (v : Vc),eZ (16384 * ((2 ^ k : Nat) : Int)) v→ax 16384 (jy k v)=true
 |0,v,h=>by
  obtain ⟨h1,h2,h3⟩:=h
  simp only [jy]
  rw [bV,bf,bf,bf]
  simp only [Nat.pow_zero] at h1 h2 h3
  exact ⟨by omega,by omega,by omega⟩
 |k+1,v,h=>by
  simp only [jy]
  split
  ·assumption
  ·refine tK k _ (C4 ?_)
   have e : 2 * (16384 * ((2 ^ k : Nat) : Int))=16384 * ((2 ^ (k+1) : Nat) : Int):=by rw [Nat.pow_succ];omega
   rw [e];exact h
theorem Bu (v : Vc) (h : eZ 1099511627776 v) : ax 16384 (bo v)=true:=tK 64 v (kY h (by decide))
theorem tM {A B' : List Vc} {rho : Int} {steps : Nat} {s : NSt} (hA : f8 A=true) (hB : f8 B'=true) (hs : NsOk A B' s) : (∀ k s',ou A B' rho steps s=.stop k s'→NsOk A B' s')∧∀ s',ou A B' rho steps s=.step s'→NsOk A B' s':=by
 rw [kz] at hA hB
 unfold ou
 refine ⟨fun k s' h=>?_,fun s' h=>?_⟩
 ·repeat' split at h
  all_goals first
   |(injection h with _ h;subst h;exact hs)
   |(injection h with _ h;subst h;exact ⟨hs.w,hs.v,hs.wl,hs.vl⟩)
   |cases h
 ·repeat' split at h
  all_goals first
   |cases h;done
   |(injection h with h
     subst h
     exact ⟨Bt hs.w (by rw [hs.wl];exact nv hA.1) (jZ _ _).1 (jZ _ _).2,Bt hs.v (by rw [hs.vl];exact nv hB.1) (jZ _ _).1 (jZ _ _).2,by rw [uz];exact hs.wl,by rw [uz];exact hs.vl⟩)
theorem xh {A B' : List Vc} {rho : Int} {steps : Nat} (hA : f8 A=true) (hB : f8 B'=true) : ∀ (f : Nat) (s : NSt),NsOk A B' s→NsOk A B' (nu A B' rho steps f s).2
 |0,s,hs=>hs
 |f+1,s,hs=>by
  have h:=tM (rho:=rho) (steps:=steps) hA hB hs
  simp only [nu]
  split
  ·rename_i k s' e;exact h.1 _ _ e
  ·rename_i s' e;exact xh hA hB f s' (h.2 _ e)
theorem nw {n p : Vc} (hn : eZ 16384 n) (hp : eZ 268435456 p) : -13194139533312≤bP n p∧bP n p≤13194139533312:=by
 obtain ⟨r1,r2,r3⟩:=nt (m:=16384) (n:=268435456) hn hp
 unfold bP;omega
theorem vk {bet : Int→Int→Bool} {n p0 : Vc} {l : List Vc} (hn : eZ 16384 n) (hp : eZ 268435456 p0) (hl : l.all (ax 268435456)=true) : ∀ i,-13194139533312≤(dW bet n p0 l i).1∧(dW bet n p0 l i).1≤13194139533312
 |0=>nw hn hp
 |i+1=>by
  have ih:=vk (bet:=bet) hn hp hl i
  simp only [dW]
  split
  ·rename_i v hv
   have:=nw hn (eX (List.all_eq_true.1 hl v (List.mem_of_getElem? hv)))
   split
   ·exact this
   ·exact ih
  ·exact ih
theorem qk {v : Vc} (h : ax 16384 v=true) : eZ 16384 v:=by
 rw [bV,bf,bf,bf] at h
 exact ⟨⟨by omega,by omega⟩,⟨by omega,by omega⟩,⟨by omega,by omega⟩⟩
theorem tO {bet : Int→Int→Bool} {n : Vc} {l : List Vc} (hn : ax 16384 n=true) (hl : l.all (ax 268435456)=true) : -13194139533312≤(dt bet n l).1∧(dt bet n l).1≤13194139533312:=by
 refine vk (qk hn) ?_ hl _
 cases h : l[0]? with
 |none=>simp [eZ]
 |some p=>exact eX (List.all_eq_true.1 hl p (List.mem_of_getElem? h))
end Go.Ab
namespace Go.Ab
open Go.Proofs
def tP (a b : List Vc) : NSt:=⟨(List.replicate a.length 0).set 0 65536,(List.replicate b.length 0).set 0 65536,(0,0,0),0⟩
theorem DX {n : Nat} (h : 1≤n) : WgOk ((List.replicate n 0).set 0 65536):=by
 constructor
 ·intro k hk
  rcases List.mem_or_eq_of_mem_set hk with h|rfl
  ·have:=List.eq_of_mem_replicate h;omega
  ·decide
 ·rw [su,uy (y:=0) (by rw [List.getElem?_replicate,if_pos (by omega)])]
  have : (List.replicate n (0 : Int)).sum=0:=by simp
  omega
theorem Bv {a b : List Vc} (ha : 1≤a.length) (hb : 1≤b.length) : NsOk a b (tP a b):=⟨DX ha,DX hb,by simp [tP],by simp [tP]⟩
def o0 (a b : List Vc) (rho steps : Int) : Bool:=f8 a && f8 b && bz rho 0 2097152 && bz steps 0 64
def iW (a b : List Vc) (rho steps : Int) : Int × NSt:=if o0 a b rho steps then nu a b rho steps.toNat (steps.toNat+1) (tP a b) else (0,⟨[],[],(0,0,0),0⟩)
abbrev GS (x : Int × NSt) : PV:=.agg [Z x.1,Z x.2.n.1,Z x.2.n.2.1,Z x.2.n.2.2,zs x.2.w,zs x.2.v,Z x.2.r]
end Go.Ab
namespace Go.Ab
open Go.Proofs
set_option maxRecDepth 100000 in
@[simp] theorem It : cO Tryz.prog 231:=by
 refine ⟨by kernel_rfl,fun args w=>?_⟩
 refine callsD_of_wpS Tryz.func231 rfl fun c₀ cs hu=>?_
 apply wpS_seq
 apply wpS_region
 have hk : ∀ k,k < Tryz.f231.ntmps→k < args.size+(Tryz.f231.ntmps - args.size):=by intro k h;omega
 rw [Tryz.ntmps231] at hk
 have h0:=hk 0 (by decide)
 have h1:=hk 1 (by decide)
 have h2:=hk 2 (by decide)
 have h3:=hk 3 (by decide)
 simp [wpOpsS,go_sem,recoverD,hu,Tryz.ntmps231,Exit.thenS,h0,h1,h2,h3]
 refine wpS_cond (t:=false) (by simp [Act.eval,h0,h1,h2,h3]) ?_
 simp only [Bool.false_eq_true,if_false]
 refine wpS_of_wp (wp_skip ?_)
 cases c₀
 simp_all [bodyPostS,results,Tryz.results231]
set_option maxRecDepth 100000 in
@[simp] theorem Iu : cO Tryz.prog 397:=by
 refine ⟨by kernel_rfl,fun args w=>?_⟩
 refine callsD_of_wpS Tryz.func397 rfl fun c₀ cs hu=>?_
 apply wpS_seq
 apply wpS_region
 have hk : ∀ k,k < Tryz.f397.ntmps→k < args.size+(Tryz.f397.ntmps - args.size):=by intro k h;omega
 rw [Tryz.ntmps397] at hk
 have h0:=hk 0 (by decide)
 have h1:=hk 1 (by decide)
 have h2:=hk 2 (by decide)
 have h3:=hk 3 (by decide)
 simp [wpOpsS,go_sem,recoverD,hu,Tryz.ntmps397,Exit.thenS,h0,h1,h2,h3]
 refine wpS_cond (t:=false) (by simp [Act.eval,h0,h1,h2,h3]) ?_
 simp only [Bool.false_eq_true,if_false]
 refine wpS_of_wp (wp_skip ?_)
 cases c₀
 simp_all [bodyPostS,results,Tryz.results397]
def aD (l : List Vc) : Nat→Vc
 |0=>(0,0,0)
 |i+1=>match l[i]? with
  |some p=>((aD l i).1+p.1,(aD l i).2.1+p.2.1,(aD l i).2.2+p.2.2)
  |none=>aD l i
theorem gS {l : List Vc} (hl : l.all (ax 268435456)=true) : ∀ i : Nat,eZ ((i : Int) * 268435456) (aD l i)
 |0=>by simp [aD,eZ]
 |i+1=>by
  obtain ⟨i1,i2,i3⟩:=gS hl i
  simp only [aD]
  split
  ·rename_i p hp
   obtain ⟨a,b,c⟩:=eX (List.all_eq_true.1 hl p (List.mem_of_getElem? hp))
   exact ⟨⟨by simp only;omega,by simp only;omega⟩,⟨by simp only;omega,by simp only;omega⟩,⟨by simp only;omega,by simp only;omega⟩⟩
  ·exact ⟨⟨by omega,by omega⟩,⟨by omega,by omega⟩,⟨by omega,by omega⟩⟩
abbrev ny : List Vc:=[(1,0,0),(-1,0,0),(0,1,0),(0,-1,0),(0,0,1),(0,0,-1)]
theorem mO {l : List ai} : (aK l).all (ax 268435456)=true:=by
 unfold aK
 split
 ·rename_i h
  have hp:=(bY h).1
  rw [List.all_eq_true] at hp ⊢
  intro x hx
  obtain ⟨v,hv,rfl⟩:=List.mem_map.1 hx
  have h1:=hp v hv
  rw [fe] at h1
  obtain ⟨a,b,c⟩:=h1
  have hm : ∀ x : Iv,bJ x=true→eU (nQ x) 268435456=true:=fun x hx=>by
   rw [dN] at hx
   rw [bf]
   unfold nQ
   split<;>omega
  rw [bV]
  exact ⟨hm _ a,hm _ b,hm _ c⟩
 ·rfl
theorem kZ {l : List ai} (h : av l=true) : (aK l).length=l.length:=by simp [aK,h]
def mf (a b : List ai) : Vc:=((aD (aK a) a.length).1 * b.length - (aD (aK b) b.length).1 * a.length,(aD (aK a) a.length).2.1 * b.length - (aD (aK b) b.length).2.1 * a.length,(aD (aK a) a.length).2.2 * b.length - (aD (aK b) b.length).2.2 * a.length)
def nA (a b : List ai) : Vc:=if av a && av b then bo (mf a b) else (0,0,0)
def o3 (a b : List ai) : Bool:=av a && av b && nz (bo (mf a b))
theorem FC {l : List ai} (h : av l=true) : eZ 2147483648 (aD (aK l) l.length):=by
 have h1:=gS (mO (l:=l)) l.length
 have h2:=(bY h).2.1
 exact kY h1 (by omega)
theorem Ex {a b : List ai} (ha : av a=true) (hb : av b=true) : eZ 1099511627776 (mf a b):=by
 obtain ⟨s1,s2,s3⟩:=FC ha
 obtain ⟨t1,t2,t3⟩:=FC hb
 have h2:=(bY ha).2.1
 have h3:=(bY hb).2.1
 have e : ∀ x : Int,-2147483648≤x∧x≤2147483648→∀ n : Nat,n≤8→-17179869184≤x * n∧x * n≤17179869184:=fun x hx n hn=>by
  have:=bi (a:=x) (b:=(n : Int)) 2147483648 8 (by omega) (by omega) (by omega) (by omega)
  omega
 have a1:=e _ s1 _ h3
 have a2:=e _ s2 _ h3
 have a3:=e _ s3 _ h3
 have b1:=e _ t1 _ h2
 have b2:=e _ t2 _ h2
 have b3:=e _ t3 _ h2
 unfold mf
 exact ⟨by simp only;omega,by simp only;omega,by simp only;omega⟩
end Go.Ab
