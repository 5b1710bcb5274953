/- The contracts and facts that the laws of this seat need, in one text (Rd, K1, K2, K2b, KM1, KM2, TrA, KV). -/
import Derived.Test.YtpbakcmohoahgaaGreatV4
import Derived.Test.YtpbakcmohoahgaaGreatRows
set_option linter.all false
set_option maxHeartbeats 16000000
namespace Go.Ab
open Go.Proofs Go.Proofs.YtpbakcmohoahgaaGreat
theorem own : ownKnob Tryz.prog.godebug=none:=by kernel_rfl
theorem kids : Kids Tryz.prog (·< Tryz.prog.types.size):=kids_rows (by kernel_rfl) (by kernel_rfl)
theorem full : ∀ t e,t < Tryz.prog.types.size→Tryz.prog.underlying t=some (.slice e)→0 < Tryz.prog.cellsOf e:=slices_full_of Tryz.prog (by kernel_rfl)
section
variable {H : Type}
theorem BY : tH H Tryz.prog 3 (fun i=>.val (.int .i64 i)) (fun i=>IntKind.i64.min≤i∧i≤IntKind.i64.max) (fun _=>1):=Bs Tryz.underlying3
theorem zI : tH H Tryz.prog 22 (fun l : List Int=>.sl (l.map fun i=>.val (.int .i64 i))) (fun l=>l.length≤9223372036854775807∧∀ a ∈ l,IntKind.i64.min≤a∧a≤IntKind.i64.max) (fun l=>(l.map fun _=>1).sum+1):=yE Tryz.underlying22 BY
end
end Go.Ab
namespace Go.Ab
open Go.Proofs
abbrev Iv:=Int × Int
def dO (a : Int) : Int:=min (max a (-2147483648)) 2147483648
def cH (a m : Int) : Int:=-((-a) / m)
theorem bi {a b : Int} (m n : Nat) (ha : -(m : Int)≤a) (ha' : a≤m) (hb : -(n : Int)≤b) (hb' : b≤n) : -((m * n : Nat) : Int)≤a * b∧a * b≤((m * n : Nat) : Int):=by
 have h1 : (a * b).natAbs≤m * n:=by
  rw [Int.natAbs_mul]
  exact Nat.mul_le_mul (by omega) (by omega)
 omega
theorem DV (a : Int) (m : Nat) : a.fdiv (m : Int)=a / (m : Int):=Int.fdiv_eq_ediv_of_nonneg a (by omega)
theorem Fw (a : Int) : a.fdiv 65536=a / 65536:=DV a 65536
theorem Fx (a : Int) : a.fdiv 16384=a / 16384:=DV a 16384
theorem Fy (a : Int) : a.fdiv 1073741824=a / 1073741824:=DV a 1073741824
theorem Fz (a : Int) (ha : -4611686018427387904≤a) (hb : a≤4611686018427387904) : ab Tryz.prog 399 [.pv (Z a),.pv (Z 16)] [] [] (.pv (Z (cH a 65536))):=by
 have h1 : a.fdiv (2 ^ min 16 IntKind.i64.bits)=a / 65536:=Fw a
 have h2 : IntKind.i64.wrap (a / 65536 * 2 ^ min 16 IntKind.i64.bits)=a / 65536 * 65536:=by
  show IntKind.i64.wrap (a / 65536 * 65536)=_
  exact aa (by omega) (by omega)
 have h3 : IntKind.i64.wrap (a / 65536+1)=a / 65536+1:=aa (by omega) (by omega)
 by_cases he : a / 65536 * 65536=a
 ·have hf : cH a 65536=a / 65536:=by unfold cH;omega
  rw [hf]
  refine Dp Tryz.func399 ?_
  intro C hP hN
  simp only [Tryz.f399] at hN ⊢
  with_reducible repeat' (first|refine Sp.h ?_|((first|refine Ss.h ?_|(refine Sb.h ?_ ?_ ?_<;>(try intro hgd)<;>try exact Xy))<;>simp -implicitDefEqProofs (maxSteps:=2000000) [hP,hN,h1,h2,h3,he])|refine X2 ?_ ?_|(refine Xd ?_ ?_<;>intro hcd<;>try exact Xx))
 ·have hf : cH a 65536=a / 65536+1:=by unfold cH;omega
  rw [hf]
  have he' : (a / 65536 * 65536==a)=false:=by simpa using he
  refine Dp Tryz.func399 ?_
  intro C hP hN
  simp only [Tryz.f399] at hN ⊢
  with_reducible repeat' (first|refine Sp.h ?_|((first|refine Ss.h ?_|(refine Sb.h ?_ ?_ ?_<;>(try intro hgd)<;>try exact Xy))<;>simp -implicitDefEqProofs (maxSteps:=2000000) [hP,hN,h1,h2,h3,he,he'])|refine X2 ?_ ?_|(refine Xd ?_ ?_<;>intro hcd<;>try exact Xx))
theorem FA (a : Int) : ab Tryz.prog 294 [.pv (Z a),.pv (Z 16)] [] [] (.pv (Z (a / 65536))):=by
 have h1 : a.fdiv (2 ^ min 16 IntKind.i64.bits)=a / 65536:=Fw a
 refine Dp Tryz.func294 ?_
 intro C hP hN
 simp only [Tryz.f294] at hN ⊢
 with_reducible repeat' (first|refine Sp.h ?_|((first|refine Ss.h ?_|(refine Sb.h ?_ ?_ ?_<;>(try intro hgd)<;>try exact Xy))<;>simp -implicitDefEqProofs (maxSteps:=2000000) [hP,hN,h1])|refine X2 ?_ ?_|(refine Xd ?_ ?_<;>intro hcd<;>try exact Xx))
theorem Ij (a : Int) (ha : -4611686018427387904≤a) (hb : a≤4611686018427387904) : ab Tryz.prog 399 [.pv (Z a),.pv (Z 14)] [] [] (.pv (Z (cH a 16384))):=by
 have h1 : a.fdiv (2 ^ min 14 IntKind.i64.bits)=a / 16384:=Fx a
 have h2 : IntKind.i64.wrap (a / 16384 * 2 ^ min 14 IntKind.i64.bits)=a / 16384 * 16384:=by
  show IntKind.i64.wrap (a / 16384 * 16384)=_
  exact aa (by omega) (by omega)
 have h3 : IntKind.i64.wrap (a / 16384+1)=a / 16384+1:=aa (by omega) (by omega)
 by_cases he : a / 16384 * 16384=a
 ·have hf : cH a 16384=a / 16384:=by unfold cH;omega
  rw [hf]
  refine Dp Tryz.func399 ?_
  intro C hP hN
  simp only [Tryz.f399] at hN ⊢
  with_reducible repeat' (first|refine Sp.h ?_|((first|refine Ss.h ?_|(refine Sb.h ?_ ?_ ?_<;>(try intro hgd)<;>try exact Xy))<;>simp -implicitDefEqProofs (maxSteps:=2000000) [hP,hN,h1,h2,h3,he])|refine X2 ?_ ?_|(refine Xd ?_ ?_<;>intro hcd<;>try exact Xx))
 ·have hf : cH a 16384=a / 16384+1:=by unfold cH;omega
  rw [hf]
  have he' : (a / 16384 * 16384==a)=false:=by simpa using he
  refine Dp Tryz.func399 ?_
  intro C hP hN
  simp only [Tryz.f399] at hN ⊢
  with_reducible repeat' (first|refine Sp.h ?_|((first|refine Ss.h ?_|(refine Sb.h ?_ ?_ ?_<;>(try intro hgd)<;>try exact Xy))<;>simp -implicitDefEqProofs (maxSteps:=2000000) [hP,hN,h1,h2,h3,he,he'])|refine X2 ?_ ?_|(refine Xd ?_ ?_<;>intro hcd<;>try exact Xx))
theorem Ik (a : Int) : ab Tryz.prog 294 [.pv (Z a),.pv (Z 14)] [] [] (.pv (Z (a / 16384))):=by
 have h1 : a.fdiv (2 ^ min 14 IntKind.i64.bits)=a / 16384:=Fx a
 refine Dp Tryz.func294 ?_
 intro C hP hN
 simp only [Tryz.f294] at hN ⊢
 with_reducible repeat' (first|refine Sp.h ?_|((first|refine Ss.h ?_|(refine Sb.h ?_ ?_ ?_<;>(try intro hgd)<;>try exact Xy))<;>simp -implicitDefEqProofs (maxSteps:=2000000) [hP,hN,h1])|refine X2 ?_ ?_|(refine Xd ?_ ?_<;>intro hcd<;>try exact Xx))
theorem Il (a : Int) (ha : -4611686018427387904≤a) (hb : a≤4611686018427387904) : ab Tryz.prog 399 [.pv (Z a),.pv (Z 30)] [] [] (.pv (Z (cH a 1073741824))):=by
 have h1 : a.fdiv (2 ^ min 30 IntKind.i64.bits)=a / 1073741824:=Fy a
 have h2 : IntKind.i64.wrap (a / 1073741824 * 2 ^ min 30 IntKind.i64.bits)=a / 1073741824 * 1073741824:=by
  show IntKind.i64.wrap (a / 1073741824 * 1073741824)=_
  exact aa (by omega) (by omega)
 have h3 : IntKind.i64.wrap (a / 1073741824+1)=a / 1073741824+1:=aa (by omega) (by omega)
 by_cases he : a / 1073741824 * 1073741824=a
 ·have hf : cH a 1073741824=a / 1073741824:=by unfold cH;omega
  rw [hf]
  refine Dp Tryz.func399 ?_
  intro C hP hN
  simp only [Tryz.f399] at hN ⊢
  with_reducible repeat' (first|refine Sp.h ?_|((first|refine Ss.h ?_|(refine Sb.h ?_ ?_ ?_<;>(try intro hgd)<;>try exact Xy))<;>simp -implicitDefEqProofs (maxSteps:=2000000) [hP,hN,h1,h2,h3,he])|refine X2 ?_ ?_|(refine Xd ?_ ?_<;>intro hcd<;>try exact Xx))
 ·have hf : cH a 1073741824=a / 1073741824+1:=by unfold cH;omega
  rw [hf]
  have he' : (a / 1073741824 * 1073741824==a)=false:=by simpa using he
  refine Dp Tryz.func399 ?_
  intro C hP hN
  simp only [Tryz.f399] at hN ⊢
  with_reducible repeat' (first|refine Sp.h ?_|((first|refine Ss.h ?_|(refine Sb.h ?_ ?_ ?_<;>(try intro hgd)<;>try exact Xy))<;>simp -implicitDefEqProofs (maxSteps:=2000000) [hP,hN,h1,h2,h3,he,he'])|refine X2 ?_ ?_|(refine Xd ?_ ?_<;>intro hcd<;>try exact Xx))
theorem Im (a : Int) : ab Tryz.prog 294 [.pv (Z a),.pv (Z 30)] [] [] (.pv (Z (a / 1073741824))):=by
 have h1 : a.fdiv (2 ^ min 30 IntKind.i64.bits)=a / 1073741824:=Fy a
 refine Dp Tryz.func294 ?_
 intro C hP hN
 simp only [Tryz.f294] at hN ⊢
 with_reducible repeat' (first|refine Sp.h ?_|((first|refine Ss.h ?_|(refine Sb.h ?_ ?_ ?_<;>(try intro hgd)<;>try exact Xy))<;>simp -implicitDefEqProofs (maxSteps:=2000000) [hP,hN,h1])|refine X2 ?_ ?_|(refine Xd ?_ ?_<;>intro hcd<;>try exact Xx))
def aA (x y : Iv) : Iv:=if am x.1 x.2 && am y.1 y.2 then (dO (x.1+y.1),dO (x.2+y.2)) else (0,0)
def d9 (x : Iv) : Iv:=if am x.1 x.2 then (-x.2,-x.1) else (0,0)
def aj (x y : Iv) : Iv:=if am x.1 x.2 && am y.1 y.2 then
 (dO (min (x.1 * y.1) (min (x.1 * y.2) (min (x.2 * y.1) (x.2 * y.2))) / 65536),dO (cH (max (x.1 * y.1) (max (x.1 * y.2) (max (x.2 * y.1) (x.2 * y.2)))) 65536)) else (0,0)
def fU (x : Int) : Iv:=(dO x,dO x)
theorem aT {a b : Int} : am a b=true↔-2147483648≤a∧a≤b∧b≤2147483648:=by
 simp only [am,Bool.and_eq_true,decide_eq_true_eq]
 constructor
 ·rintro ⟨⟨h1,h2⟩,h3⟩;exact ⟨h1,h2,h3⟩
 ·rintro ⟨h1,h2,h3⟩;exact ⟨⟨h1,h2⟩,h3⟩
theorem DW (a b : Int) : ab Tryz.prog 440 [.pv (Z a),.pv (Z b)] [] [] (.pv (I (dO a) (dO b))):=Fd a b
theorem ut (a : Int) : ab Tryz.prog 421 [.pv (Z a)] [] [] (.pv (I (dO a) (dO a))):=HV a
theorem cK {a b c d : Int} : ab Tryz.prog 437 [.pv (I a b),.pv (I c d)] [] [] (.pv (aO (aA (a,b) (c,d)))):=by
 cases hv : (am a b && am c d) with
 |false=>
  have hr : aA (a,b) (c,d)=(0,0):=by simp [aA,hv]
  rw [hr]
  refine Dp Tryz.func437 ?_
  intro C hP hN
  simp only [Tryz.f437] at hN ⊢
  with_reducible repeat' (first|refine Sp.h ?_|((first|refine Ss.h ?_|refine Sc.h (wR _ _ _ _) ?_|(refine Sb.h ?_ ?_ ?_<;>(try intro hgd)<;>try exact Xy))<;>simp -implicitDefEqProofs (maxSteps:=2000000) [hP,hN,hv])|refine X2 ?_ ?_|(refine Xd ?_ ?_<;>intro hcd<;>try exact Xx))
 |true=>
  have hr : aA (a,b) (c,d)=(dO (a+c),dO (b+d)):=by simp only [aA,hv,if_true]
  rw [hr]
  have hv':=hv
  rw [Bool.and_eq_true,aT,aT] at hv'
  have w1 : IntKind.i64.wrap (a+c)=a+c:=aa (by omega) (by omega)
  have w2 : IntKind.i64.wrap (b+d)=b+d:=aa (by omega) (by omega)
  refine Dp Tryz.func437 ?_
  intro C hP hN
  simp only [Tryz.f437] at hN ⊢
  with_reducible repeat' (first|refine Sp.h ?_|((first|refine Ss.h ?_|refine Sc.h (wR _ _ _ _) ?_|refine Sc.h (DW _ _) ?_|(refine Sb.h ?_ ?_ ?_<;>(try intro hgd)<;>try exact Xy))<;>simp -implicitDefEqProofs (maxSteps:=2000000) [hP,hN,hv,w1,w2])|refine X2 ?_ ?_|(refine Xd ?_ ?_<;>intro hcd<;>try exact Xx))
theorem CF {a b : Int} : ab Tryz.prog 458 [.pv (I a b)] [] [] (.pv (aO (d9 (a,b)))):=by
 cases hv : am a b with
 |false=>
  have hr : d9 (a,b)=(0,0):=by simp [d9,hv]
  rw [hr]
  refine Dp Tryz.func458 ?_
  intro C hP hN
  simp only [Tryz.f458] at hN ⊢
  with_reducible repeat' (first|refine Sp.h ?_|((first|refine Ss.h ?_|refine Sc.h (gt _ _) ?_|(refine Sb.h ?_ ?_ ?_<;>(try intro hgd)<;>try exact Xy))<;>simp -implicitDefEqProofs (maxSteps:=2000000) [hP,hN,hv])|refine X2 ?_ ?_|(refine Xd ?_ ?_<;>intro hcd<;>try exact Xx))
 |true=>
  have hr : d9 (a,b)=(-b,-a):=by simp only [d9,hv,if_true]
  rw [hr]
  have hv':=hv
  rw [aT] at hv'
  have w1 : IntKind.i64.wrap (-b)=-b:=aa (by omega) (by omega)
  have w2 : IntKind.i64.wrap (-a)=-a:=aa (by omega) (by omega)
  have w3 : IntKind.i64.wrap (0 - b)=-b:=(aa (n:=0 - b) (by omega) (by omega)).trans (by omega)
  have w4 : IntKind.i64.wrap (0 - a)=-a:=(aa (n:=0 - a) (by omega) (by omega)).trans (by omega)
  refine Dp Tryz.func458 ?_
  intro C hP hN
  simp only [Tryz.f458] at hN ⊢
  with_reducible repeat' (first|refine Sp.h ?_|((first|refine Ss.h ?_|refine Sc.h (gt _ _) ?_|(refine Sb.h ?_ ?_ ?_<;>(try intro hgd)<;>try exact Xy))<;>simp -implicitDefEqProofs (maxSteps:=2000000) [hP,hN,hv,w1,w2,w3,w4])|refine X2 ?_ ?_|(refine Xd ?_ ?_<;>intro hcd<;>try exact Xx))
theorem Io (a b : Int) (ha : -4611686018427387904≤b) (hb : b≤4611686018427387904) : ab Tryz.prog 446 [.pv (Z a),.pv (Z b)] [] [] (.pv (I (dO (a / 65536)) (dO (cH b 65536)))):=by
 refine Dp Tryz.func446 ?_
 intro C hP hN
 simp only [Tryz.f446] at hN ⊢
 with_reducible repeat' (first|refine Sp.h ?_|((first|refine Ss.h ?_|refine Sc.h (FA _) ?_|refine Sc.h (Fz _ ha hb) ?_|refine Sc.h (DW _ _) ?_|(refine Sb.h ?_ ?_ ?_<;>(try intro hgd)<;>try exact Xy))<;>simp -implicitDefEqProofs (maxSteps:=2000000) [hP,hN])|refine X2 ?_ ?_|(refine Xd ?_ ?_<;>intro hcd<;>try exact Xx))
@[simp] theorem LK : IntKind.i64.wrap 1=1:=by decide
@[simp] theorem LN : IntKind.i64.wrap 2=2:=by decide
@[simp] theorem LO : IntKind.i64.wrap 3=3:=by decide
@[simp] theorem LP : IntKind.i64.wrap 4=4:=by decide
theorem Ip {i : Nat} (h : i≤4) : i=0∨i=1∨i=2∨i=3∨i=4:=by omega
theorem dn {a b c d : Int} : ab Tryz.prog 438 [.pv (I a b),.pv (I c d)] [] [] (.pv (aO (aj (a,b) (c,d)))):=by
 cases hv : (am a b && am c d) with
 |false=>
  have hr : aj (a,b) (c,d)=(0,0):=by simp [aj,hv]
  rw [hr]
  refine Dp Tryz.func438 ?_
  intro C hP hN
  simp only [Tryz.f438] at hN ⊢
  with_reducible repeat' (first|refine Sp.h ?_|((first|refine Wd ?_|refine Ss.h ?_|refine Sc.h (wR _ _ _ _) ?_|(refine Sb.h ?_ ?_ ?_<;>(try intro hgd)<;>try exact Xy))<;>simp -implicitDefEqProofs (maxSteps:=2000000) [hP,hN,hv]<;>try refine Ya ?_)|refine X2 ?_ ?_|(refine Xd ?_ ?_<;>intro hcd<;>try exact Xx))
 |true=>
  have hv':=hv
  rw [Bool.and_eq_true,aT,aT] at hv'
  have m1:=bi (a:=a) (b:=c) 2147483648 2147483648 (by omega) (by omega) (by omega) (by omega)
  have m2:=bi (a:=a) (b:=d) 2147483648 2147483648 (by omega) (by omega) (by omega) (by omega)
  have m3:=bi (a:=b) (b:=c) 2147483648 2147483648 (by omega) (by omega) (by omega) (by omega)
  have m4:=bi (a:=b) (b:=d) 2147483648 2147483648 (by omega) (by omega) (by omega) (by omega)
  have w1 : IntKind.i64.wrap (a * c)=a * c:=aa (by omega) (by omega)
  have w2 : IntKind.i64.wrap (a * d)=a * d:=aa (by omega) (by omega)
  have w3 : IntKind.i64.wrap (b * c)=b * c:=aa (by omega) (by omega)
  have w4 : IntKind.i64.wrap (b * d)=b * d:=aa (by omega) (by omega)
  have hr : aj (a,b) (c,d)=(dO (min (a * c) (min (a * d) (min (b * c) (b * d))) / 65536),dO (cH (max (a * c) (max (a * d) (max (b * c) (b * d)))) 65536)):=by simp only [aj,hv,if_true]
  rw [hr]
  generalize hp0 : a * c=p0 at *
  generalize hp1 : a * d=p1 at *
  generalize hp2 : b * c=p2 at *
  generalize hp3 : b * d=p3 at *
  have cs:=Io (min p0 (min p1 (min p2 p3))) (max p0 (max p1 (max p2 p3))) (by omega) (by omega)
  refine Dp Tryz.func438 ?_
  intro C hP hN
  simp only [Tryz.f438] at hN ⊢
  with_reducible repeat' (first|refine Sp.h ?_|((first|refine Wd ?_|refine Ss.h ?_|refine Sc.h (wR _ _ _ _) ?_|(refine Sb.h ?_ ?_ ?_<;>(try intro hgd)<;>try exact Xy))<;>simp -implicitDefEqProofs (maxSteps:=2000000) [hP,hN,hv,w1,w2,w3,w4,hp0,hp1,hp2,hp3]<;>try refine Ya ?_)|refine X2 ?_ ?_|(refine Xd ?_ ?_<;>intro hcd<;>try exact Xx))
  refine WP.loopN [] 4 (fun i st=>st.t 4=.ptr 4 0∧st.h 4=some (.box [.pv (Z 0),.pv (Z 0)] true false)∧st.t 40=.pv (.val (.agg #[.int .i64 p0,.int .i64 p1,.int .i64 p2,.int .i64 p3]))∧st.t 41=.pv (Z i)∧
   st.t 6=.pv (Z (if i≤1 then p0 else if i=2 then min p0 p1 else if i=3 then min p0 (min p1 p2) else min p0 (min p1 (min p2 p3))))∧st.t 7=.pv (Z (if i≤1 then p0 else if i=2 then max p0 p1 else if i=3 then max p0 (max p1 p2) else max p0 (max p1 (max p2 p3))))) (by simp) ?_
  rintro i st hi ⟨g4,hb4,g40,g41,g6,g7⟩
  rcases Ip hi with rfl|rfl|rfl|rfl|rfl
  all_goals (simp at g6 g7)
  ·skip
   with_reducible repeat' (first|refine Sp.h ?_|((first|refine Wd ?_|refine Ss.h ?_|(refine Sb.h ?_ ?_ ?_<;>(try intro hgd)<;>try exact Xy))<;>simp -implicitDefEqProofs (maxSteps:=2000000) [hP,hN,g4,hb4,g40,g41,g6,g7]<;>try refine Ya ?_)|refine X2 ?_ ?_|(refine Xd ?_ ?_<;>intro hcd<;>try exact Xx))
  ·skip
   with_reducible repeat' (first|refine Sp.h ?_|((first|refine Wd ?_|refine Ss.h ?_|(refine Sb.h ?_ ?_ ?_<;>(try intro hgd)<;>try exact Xy))<;>simp -implicitDefEqProofs (maxSteps:=2000000) [hP,hN,g4,hb4,g40,g41,g6,g7]<;>try refine Ya ?_)|refine X2 ?_ ?_|(refine Xd ?_ ?_<;>intro hcd<;>try exact Xx))
  ·skip
   with_reducible repeat' (first|refine Sp.h ?_|((first|refine Wd ?_|refine Ss.h ?_|(refine Sb.h ?_ ?_ ?_<;>(try intro hgd)<;>try exact Xy))<;>simp -implicitDefEqProofs (maxSteps:=2000000) [hP,hN,g4,hb4,g40,g41,g6,g7]<;>try refine Ya ?_)|refine X2 ?_ ?_|(refine Xd ?_ ?_<;>intro hcd<;>try exact Xx))
  ·skip
   with_reducible repeat' (first|refine Sp.h ?_|((first|refine Wd ?_|refine Ss.h ?_|(refine Sb.h ?_ ?_ ?_<;>(try intro hgd)<;>try exact Xy))<;>simp -implicitDefEqProofs (maxSteps:=2000000) [hP,hN,g4,hb4,g40,g41,g6,g7]<;>try refine Ya ?_)|refine X2 ?_ ?_|(refine Xd ?_ ?_<;>intro hcd<;>try exact Xx))
  ·skip
   with_reducible repeat' (first|refine Sp.h ?_|((first|refine Wd ?_|refine Ss.h ?_|refine Sc.h (cs) ?_|(refine Sb.h ?_ ?_ ?_<;>(try intro hgd)<;>try exact Xy))<;>simp -implicitDefEqProofs (maxSteps:=2000000) [hP,hN,g4,hb4,g40,g41,g6,g7]<;>try refine Ya ?_)|refine X2 ?_ ?_|(refine Xd ?_ ?_<;>intro hcd<;>try exact Xx))
end Go.Ab
namespace Go.Ab
open Go.Proofs
def dq (x : Int) : Nat→Int
 |0=>1073741824
 |1=>x * 6746518852 / 65536
 |k+2=>dq x (k+1) * (x * 6746518852 / 65536) / 1073741824
def dr (x : Int) : Nat→Int
 |0=>1073741824
 |1=>cH (x * 6746518853) 65536
 |k+2=>cH (dr x (k+1) * cH (x * 6746518853) 65536) 1073741824
theorem kB {x : Int} (h0 : 0≤x) (h1 : x≤8192) : ∀ k,0≤dq x k∧dq x k≤1073741824
 |0=>by simp [dq]
 |1=>by simp only [dq];omega
 |k+2=>by
  have h:=kB h0 h1 (k+1)
  have h2 : 0≤x * 6746518852 / 65536∧x * 6746518852 / 65536≤1073741824:=by omega
  simp only [dq]
  generalize x * 6746518852 / 65536=y at *
  have h3:=Int.mul_nonneg h.1 h2.1
  have h4:=Int.mul_le_mul h.2 h2.2 h2.1 (by decide : (0 : Int)≤1073741824)
  omega
theorem kC {x : Int} (h0 : 0≤x) (h1 : x≤8192) : ∀ k,0≤dr x k∧dr x k≤1073741824
 |0=>by simp [dr]
 |1=>by simp only [dr,cH];omega
 |k+2=>by
  have h:=kC h0 h1 (k+1)
  have h2 : 0≤cH (x * 6746518853) 65536∧cH (x * 6746518853) 65536≤1073741824:=by unfold cH;omega
  simp only [dr]
  generalize cH (x * 6746518853) 65536=y at *
  have h3:=Int.mul_nonneg h.1 h2.1
  have h4:=Int.mul_le_mul h.2 h2.2 h2.1 (by decide : (0 : Int)≤1073741824)
  unfold cH
  omega
theorem oA {x : Int} (h0 : 0≤x) (h1 : x≤8192) (j : Nat) : 0≤dq x j * dq x 1∧dq x j * dq x 1≤1152921504606846976:=by
 have h:=kB h0 h1 j
 have h2:=kB h0 h1 1
 have h3:=Int.mul_nonneg h.1 h2.1
 have h4:=Int.mul_le_mul h.2 h2.2 h2.1 (by decide : (0 : Int)≤1073741824)
 omega
theorem kD {x : Int} (h0 : 0≤x) (h1 : x≤8192) (j : Nat) : 0≤dr x j * dr x 1∧dr x j * dr x 1≤1152921504606846976:=by
 have h:=kC h0 h1 j
 have h2:=kC h0 h1 1
 have h3:=Int.mul_nonneg h.1 h2.1
 have h4:=Int.mul_le_mul h.2 h2.2 h2.1 (by decide : (0 : Int)≤1073741824)
 omega
def fL (f : Nat→Int) (n : Nat) : List AV:=[.pv (Z (if 0 < n then f 0 else 0)),.pv (Z (if 1 < n then f 1 else 0)),.pv (Z (if 2 < n then f 2 else 0)),.pv (Z (if 3 < n then f 3 else 0)),.pv (Z (if 4 < n then f 4 else 0)),.pv (Z (if 5 < n then f 5 else 0)),
 .pv (Z (if 6 < n then f 6 else 0)),.pv (Z (if 7 < n then f 7 else 0)),.pv (Z (if 8 < n then f 8 else 0)),.pv (Z (if 9 < n then f 9 else 0)),.pv (Z (if 10 < n then f 10 else 0))]
abbrev wj (f : Nat→Int) : PV:=.val (.agg #[.int .i64 (f 0),.int .i64 (f 1),.int .i64 (f 2),.int .i64 (f 3),.int .i64 (f 4),.int .i64 (f 5),.int .i64 (f 6),.int .i64 (f 7),.int .i64 (f 8),.int .i64 (f 9),.int .i64 (f 10)])
@[simp] theorem LV : IntKind.i64.wrap 5=5:=by decide
@[simp] theorem LW : IntKind.i64.wrap 6=6:=by decide
@[simp] theorem LX : IntKind.i64.wrap 7=7:=by decide
@[simp] theorem LY : IntKind.i64.wrap 8=8:=by decide
@[simp] theorem LZ : IntKind.i64.wrap 9=9:=by decide
@[simp] theorem KU : IntKind.i64.wrap 10=10:=by decide
@[simp] theorem KV : IntKind.i64.wrap 11=11:=by decide
set_option maxRecDepth 4000 in
theorem FJ (x : Int) (h0 : 0≤x) (h1 : x≤8192) : ab Tryz.prog 472 [.pv (Z x)] [] [] (.pv (.tup [wj (dq x),wj (dr x)])):=by
 have w1 : IntKind.i64.wrap (x * 6746518852)=x * 6746518852:=aa (by omega) (by omega)
 have w2 : IntKind.i64.wrap (x * 6746518853)=x * 6746518853:=aa (by omega) (by omega)
 have c1 : ab Tryz.prog 294 [.pv (Z (x * 6746518852)),.pv (Z 16)] [] [] (.pv (Z (dq x 1))):=FA _
 have c2 : ab Tryz.prog 399 [.pv (Z (x * 6746518853)),.pv (Z 16)] [] [] (.pv (Z (dr x 1))):=Fz _ (by omega) (by omega)
 have m1 : ∀ j,IntKind.i64.wrap (dq x j * dq x 1)=dq x j * dq x 1:=fun j=>aa (by have:=oA h0 h1 j;omega) (by have:=oA h0 h1 j;omega)
 have m2 : ∀ j,IntKind.i64.wrap (dr x j * dr x 1)=dr x j * dr x 1:=fun j=>aa (by have:=kD h0 h1 j;omega) (by have:=kD h0 h1 j;omega)
 have c3 : ∀ j,ab Tryz.prog 294 [.pv (Z (dq x (j+1) * dq x 1)),.pv (Z 30)] [] [] (.pv (Z (dq x (j+2)))):=fun j=>Im _
 have c4 : ∀ j,ab Tryz.prog 399 [.pv (Z (dr x (j+1) * dr x 1)),.pv (Z 30)] [] [] (.pv (Z (dr x (j+2)))):=fun j=>Il _ (by have:=kD h0 h1 (j+1);omega) (by have:=kD h0 h1 (j+1);omega)
 have z1 : dq x 0=1073741824:=rfl
 have z2 : dr x 0=1073741824:=rfl
 generalize dq x=f at *
 generalize dr x=g at *
 refine Dp Tryz.func472 ?_
 intro C hP hN
 simp only [Tryz.f472] at hN ⊢
 with_reducible repeat' (first|refine Sp.h ?_|((first|refine Wd ?_|refine Ss.h ?_|refine Sc.h (c1) ?_|refine Sc.h (c2) ?_|(refine Sb.h ?_ ?_ ?_<;>(try intro hgd)<;>try exact Xy))<;>simp -implicitDefEqProofs (maxSteps:=2000000) [hP,hN,w1,w2,z1,z2]<;>try refine Ya ?_)|refine X2 ?_ ?_|(refine Xd ?_ ?_<;>intro hcd<;>try exact Xx))
 refine WP.loopN [] 9 (fun i st=>st.t 2=.ptr 2 0∧st.t 3=.ptr 3 0∧st.t 4=.ptr 4 0∧st.t 5=.ptr 5 0∧st.t 6=.pv (Z (i+2 : Nat))∧st.h 2=some (.box (fL f 0) true false)∧st.h 3=some (.box (fL f 0) true false)∧st.h 4=some (.box (fL f (i+2)) true false)∧st.h 5=some (.box (fL g (i+2)) true false)) (by simp [fL,z1,z2]) ?_
 rintro i st hi ⟨g2,g3,g4,g5,g6,hb2,hb3,hb4,hb5⟩
 have hc : i=0∨i=1∨i=2∨i=3∨i=4∨i=5∨i=6∨i=7∨i=8∨i=9:=by omega
 rcases hc with rfl|rfl|rfl|rfl|rfl|rfl|rfl|rfl|rfl|rfl
 all_goals (simp only [fL] at hb2 hb3 hb4 hb5;simp at g6 hb2 hb3 hb4 hb5)
 all_goals skip
 ·skip
  with_reducible repeat' (first|refine Sp.h ?_|((first|refine Wd ?_|refine Ss.h ?_|refine Sc.h (c3 0) ?_|refine Sc.h (c4 0) ?_|(refine Sb.h ?_ ?_ ?_<;>(try intro hgd)<;>try exact Xy))<;>simp -implicitDefEqProofs (maxSteps:=2000000) [hP,hN,g2,g3,g4,g5,g6,hb2,hb3,hb4,hb5,m1,m2,fL]<;>try refine Ya ?_)|refine X2 ?_ ?_|(refine Xd ?_ ?_<;>intro hcd<;>try exact Xx))
 ·skip
  with_reducible repeat' (first|refine Sp.h ?_|((first|refine Wd ?_|refine Ss.h ?_|refine Sc.h (c3 1) ?_|refine Sc.h (c4 1) ?_|(refine Sb.h ?_ ?_ ?_<;>(try intro hgd)<;>try exact Xy))<;>simp -implicitDefEqProofs (maxSteps:=2000000) [hP,hN,g2,g3,g4,g5,g6,hb2,hb3,hb4,hb5,m1,m2,fL]<;>try refine Ya ?_)|refine X2 ?_ ?_|(refine Xd ?_ ?_<;>intro hcd<;>try exact Xx))
 ·skip
  with_reducible repeat' (first|refine Sp.h ?_|((first|refine Wd ?_|refine Ss.h ?_|refine Sc.h (c3 2) ?_|refine Sc.h (c4 2) ?_|(refine Sb.h ?_ ?_ ?_<;>(try intro hgd)<;>try exact Xy))<;>simp -implicitDefEqProofs (maxSteps:=2000000) [hP,hN,g2,g3,g4,g5,g6,hb2,hb3,hb4,hb5,m1,m2,fL]<;>try refine Ya ?_)|refine X2 ?_ ?_|(refine Xd ?_ ?_<;>intro hcd<;>try exact Xx))
 ·skip
  with_reducible repeat' (first|refine Sp.h ?_|((first|refine Wd ?_|refine Ss.h ?_|refine Sc.h (c3 3) ?_|refine Sc.h (c4 3) ?_|(refine Sb.h ?_ ?_ ?_<;>(try intro hgd)<;>try exact Xy))<;>simp -implicitDefEqProofs (maxSteps:=2000000) [hP,hN,g2,g3,g4,g5,g6,hb2,hb3,hb4,hb5,m1,m2,fL]<;>try refine Ya ?_)|refine X2 ?_ ?_|(refine Xd ?_ ?_<;>intro hcd<;>try exact Xx))
 ·skip
  with_reducible repeat' (first|refine Sp.h ?_|((first|refine Wd ?_|refine Ss.h ?_|refine Sc.h (c3 4) ?_|refine Sc.h (c4 4) ?_|(refine Sb.h ?_ ?_ ?_<;>(try intro hgd)<;>try exact Xy))<;>simp -implicitDefEqProofs (maxSteps:=2000000) [hP,hN,g2,g3,g4,g5,g6,hb2,hb3,hb4,hb5,m1,m2,fL]<;>try refine Ya ?_)|refine X2 ?_ ?_|(refine Xd ?_ ?_<;>intro hcd<;>try exact Xx))
 ·skip
  with_reducible repeat' (first|refine Sp.h ?_|((first|refine Wd ?_|refine Ss.h ?_|refine Sc.h (c3 5) ?_|refine Sc.h (c4 5) ?_|(refine Sb.h ?_ ?_ ?_<;>(try intro hgd)<;>try exact Xy))<;>simp -implicitDefEqProofs (maxSteps:=2000000) [hP,hN,g2,g3,g4,g5,g6,hb2,hb3,hb4,hb5,m1,m2,fL]<;>try refine Ya ?_)|refine X2 ?_ ?_|(refine Xd ?_ ?_<;>intro hcd<;>try exact Xx))
 ·skip
  with_reducible repeat' (first|refine Sp.h ?_|((first|refine Wd ?_|refine Ss.h ?_|refine Sc.h (c3 6) ?_|refine Sc.h (c4 6) ?_|(refine Sb.h ?_ ?_ ?_<;>(try intro hgd)<;>try exact Xy))<;>simp -implicitDefEqProofs (maxSteps:=2000000) [hP,hN,g2,g3,g4,g5,g6,hb2,hb3,hb4,hb5,m1,m2,fL]<;>try refine Ya ?_)|refine X2 ?_ ?_|(refine Xd ?_ ?_<;>intro hcd<;>try exact Xx))
 ·skip
  with_reducible repeat' (first|refine Sp.h ?_|((first|refine Wd ?_|refine Ss.h ?_|refine Sc.h (c3 7) ?_|refine Sc.h (c4 7) ?_|(refine Sb.h ?_ ?_ ?_<;>(try intro hgd)<;>try exact Xy))<;>simp -implicitDefEqProofs (maxSteps:=2000000) [hP,hN,g2,g3,g4,g5,g6,hb2,hb3,hb4,hb5,m1,m2,fL]<;>try refine Ya ?_)|refine X2 ?_ ?_|(refine Xd ?_ ?_<;>intro hcd<;>try exact Xx))
 ·skip
  with_reducible repeat' (first|refine Sp.h ?_|((first|refine Wd ?_|refine Ss.h ?_|refine Sc.h (c3 8) ?_|refine Sc.h (c4 8) ?_|(refine Sb.h ?_ ?_ ?_<;>(try intro hgd)<;>try exact Xy))<;>simp -implicitDefEqProofs (maxSteps:=2000000) [hP,hN,g2,g3,g4,g5,g6,hb2,hb3,hb4,hb5,m1,m2,fL]<;>try refine Ya ?_)|refine X2 ?_ ?_|(refine Xd ?_ ?_<;>intro hcd<;>try exact Xx))
 ·skip
  with_reducible repeat' (first|refine Sp.h ?_|((first|refine Wd ?_|refine Ss.h ?_|(refine Sb.h ?_ ?_ ?_<;>(try intro hgd)<;>try exact Xy))<;>simp -implicitDefEqProofs (maxSteps:=2000000) [hP,hN,g2,g3,g4,g5,g6,hb2,hb3,hb4,hb5,m1,m2,fL]<;>try refine Ya ?_)|refine X2 ?_ ?_|(refine Xd ?_ ?_<;>intro hcd<;>try exact Xx))
end Go.Ab
namespace Go.Ab
open Go.Proofs
def jr (i : Nat) : Int:=if i % 2=0 then 1 else -1
def j5 (xs : List Int) : Nat→Int
 |0=>0
 |i+1=>j5 xs i+jr i * (xs[i]?).getD 0
def dL (xs : List Int) : Int:=j5 xs xs.length
theorem zn (i : Nat) (x : Int) : (jr i * x=x∨jr i * x=-x):=by unfold jr;split<;>simp
theorem xu (i : Nat) : jr (i+1)=-jr i:=by unfold jr;split<;>split<;>omega
theorem o4 {xs : List Int} (hb : ∀ x ∈ xs,-1099511627776≤x∧x≤1099511627776) : ∀ i : Nat,-((i : Int) * 1099511627776)≤j5 xs i∧j5 xs i≤(i : Int) * 1099511627776
 |0=>by simp [j5]
 |i+1=>by
  have h:=o4 hb i
  have h2 : -1099511627776≤(xs[i]?).getD 0∧(xs[i]?).getD 0≤1099511627776:=by
   cases hx : xs[i]? with
   |none=>simp
   |some y=>exact hb y (List.mem_of_getElem? hx)
  have h3:=zn i ((xs[i]?).getD 0)
  simp only [j5]
  omega
theorem Ar (xs : List Int) (hl : xs.length≤1000) (hb : ∀ x ∈ xs,-1099511627776≤x∧x≤1099511627776) : ab Tryz.prog 473 [.pv (zs xs)] [] [] (.pv (Z (dL xs))):=by
 refine Dp Tryz.func473 ?_
 intro C hP hN
 simp only [Tryz.f473] at hN ⊢
 with_reducible repeat' (first|refine Sp.h ?_|((first|refine Ss.h ?_|(refine Sb.h ?_ ?_ ?_<;>(try intro hgd)<;>try exact Xy))<;>simp -implicitDefEqProofs (maxSteps:=2000000) [hP,hN])|refine X2 ?_ ?_|(refine Xd ?_ ?_<;>intro hcd<;>try exact Xx))
 refine WP.loopN [] xs.length (fun i st=>st.t 3=.pv (Z (j5 xs i))∧st.t 4=.pv (Z (jr i))∧st.t 7=.pv (zs xs)∧st.t 8=.pv (Z xs.length)∧st.t 9=.pv (Z i)) (by simp [j5,jr]) ?_
 rintro i st hi ⟨g3,g4,g7,g8,g9⟩
 by_cases hlt : i < xs.length
 ·have hw:=aw hlt (by omega)
  have hxi : xs[i]?=some xs[i]:=List.getElem?_eq_getElem hlt
  have hr:=hb xs[i] (List.getElem_mem hlt)
  have ha:=o4 hb i
  have h3:=zn i xs[i]
  have w1 : IntKind.i64.wrap (jr i * xs[i])=jr i * xs[i]:=aa (by omega) (by omega)
  have w2 : IntKind.i64.wrap (j5 xs i+jr i * xs[i])=j5 xs (i+1):=(aa (by omega) (by omega)).trans (by simp [j5,hxi])
  have w3 : IntKind.i64.wrap (-jr i)=jr (i+1):=by
   rw [xu];unfold jr;split<;>decide
  have w4 : IntKind.i64.wrap (0 - jr i)=jr (i+1):=by
   rw [xu];unfold jr;split<;>decide
  with_reducible repeat' (first|refine Sp.h ?_|((first|refine Ss.h ?_|(refine Sb.h ?_ ?_ ?_<;>(try intro hgd)<;>try exact Xy))<;>simp -implicitDefEqProofs (maxSteps:=2000000) [hP,hN,g3,g4,g7,g8,g9,hlt,hw,w1,w2,w3,w4])|refine X2 ?_ ?_|(refine Xd ?_ ?_<;>intro hcd<;>try exact Xx))
 ·skip
  with_reducible repeat' (first|refine Sp.h ?_|((first|refine Ss.h ?_|(refine Sb.h ?_ ?_ ?_<;>(try intro hgd)<;>try exact Xy))<;>simp -implicitDefEqProofs (maxSteps:=2000000) [hP,hN,g3,g4,g7,g8,g9,hlt])|refine X2 ?_ ?_|(refine Xd ?_ ?_<;>intro hcd<;>try exact Xx))
  all_goals (have : i=xs.length:=by omega
             subst this;rfl)
def au (n d : Int) : Int:=(n+d - 1) / d
theorem o5 (n d : Int) (hn : 0≤n) (hn' : n≤1099511627776) (hd : 1≤d) (hd' : d≤1099511627776) : ab Tryz.prog 474 [.pv (Z n),.pv (Z d)] [] [] (.pv (Z (au n d))):=by
 have w1 : IntKind.i64.wrap (n+d)=n+d:=aa (by omega) (by omega)
 have w2 : IntKind.i64.wrap (n+d - 1)=n+d - 1:=aa (by omega) (by omega)
 have hq : (n+d - 1).tdiv d=(n+d - 1) / d:=Int.tdiv_eq_ediv_of_nonneg (by omega)
 have hq1 : 0≤(n+d - 1) / d:=Int.ediv_nonneg (by omega) (by omega)
 have hq2 : (n+d - 1) / d≤n+d - 1:=Int.ediv_le_self _ (by omega)
 have w3 : IntKind.i64.wrap ((n+d - 1) / d)=(n+d - 1) / d:=aa (by omega) (by omega)
 have hne : d≠0:=by omega
 refine Dp Tryz.func474 ?_
 intro C hP hN
 simp only [Tryz.f474] at hN ⊢
 with_reducible repeat' (first|refine Sp.h ?_|((first|refine Ss.h ?_|(refine Sb.h ?_ ?_ ?_<;>(try intro hgd)<;>try exact Xy))<;>simp -implicitDefEqProofs (maxSteps:=2000000) [hP,hN,w1,w2,w3,hq,hne])|refine X2 ?_ ?_|(refine Xd ?_ ?_<;>intro hcd<;>try exact Xx))
 all_goals rfl
def j6 (lo hi : Int) : Iv:=(max 0 (lo / 16384),min 65536 (cH hi 16384))
theorem FK (lo hi : Int) (h1 : -4611686018427387904≤hi) (h2 : hi≤4611686018427387904) : ab Tryz.prog 475 [.pv (Z lo),.pv (Z hi)] [] [] (.pv (aO (j6 lo hi))):=by
 refine Dp Tryz.func475 ?_
 intro C hP hN
 simp only [Tryz.f475] at hN ⊢
 with_reducible repeat' (first|refine Sp.h ?_|((first|refine Ss.h ?_|refine Sc.h (Ik _) ?_|refine Sc.h (Ij _ h1 h2) ?_|(refine Sb.h ?_ ?_ ?_<;>(try intro hgd)<;>try exact Xy))<;>simp -implicitDefEqProofs (maxSteps:=2000000) [hP,hN])|refine X2 ?_ ?_|(refine Xd ?_ ?_<;>intro hcd<;>try exact Xx))
 all_goals simp [j6]
def jv (f g : Nat→Int) : List Int:=[f 1,au (g 3) 6,f 5 / 120,au (g 7) 5040]
def ir (f g : Nat→Int) : List Int:=[g 1,f 3 / 6,au (g 5) 120,f 7 / 5040,au (g 9) 362880]
def lM (f g : Nat→Int) : List Int:=[1073741824,au (g 2) 2,f 4 / 24,au (g 6) 720,f 8 / 40320,au (g 10) 3628800]
def j7 (f g : Nat→Int) : List Int:=[1073741824,f 2 / 2,au (g 4) 24,f 6 / 720,au (g 8) 40320]
def mh (x : Int) : Iv:=j6 (dL (jv (dq x) (dr x))) (dL (ir (dq x) (dr x)))
def o6 (x : Int) : Iv:=j6 (dL (lM (dq x) (dr x))) (dL (j7 (dq x) (dr x)))
theorem dB {n d : Int} (h0 : 0≤n) (h1 : n≤1073741824) (hd : 1≤d) (hd' : d≤4000000) : 0≤au n d∧au n d≤1099511627776:=by
 unfold au
 have hq1 : 0≤(n+d - 1) / d:=Int.ediv_nonneg (by omega) (by omega)
 have hq2 : (n+d - 1) / d≤n+d - 1:=Int.ediv_le_self _ (by omega)
 omega
theorem xv {f : Nat→Int} (hf : ∀ j,0≤f j∧f j≤1073741824) (j : Nat) (d : Int) : (f j).tdiv d=f j / d:=Int.tdiv_eq_ediv_of_nonneg (hf j).1
theorem mR {f : Nat→Int} (hf : ∀ j,0≤f j∧f j≤1073741824) (j : Nat) {d : Int} (hd : 0 < d) : 0≤f j / d∧f j / d≤1073741824:=by
 have h:=hf j
 have hq1 : 0≤f j / d:=Int.ediv_nonneg (by omega) (by omega)
 have hq2 : f j / d≤f j:=Int.ediv_le_self _ (by omega)
 omega
theorem xx {f : Nat→Int} (hf : ∀ j,0≤f j∧f j≤1073741824) (j : Nat) {d : Int} (hd : 0 < d) : IntKind.i64.wrap (f j / d)=f j / d:=by
 have:=mR hf j hd
 exact aa (by omega) (by omega)
theorem IJ (x : Int) (h0 : 0≤x) (h1 : x≤8192) : ab Tryz.prog 470 [.pv (Z x)] [] [] (.pv (aO (mh x))):=by
 have cp:=FJ x h0 h1
 have hf:=kB h0 h1
 have hg:=kC h0 h1
 show ab _ _ _ _ _ (.pv (aO (j6 (dL (jv (dq x) (dr x))) (dL (ir (dq x) (dr x))))))
 generalize dq x=f at *
 generalize dr x=g at *
 have k1 : ∀ y ∈ jv f g,-1099511627776≤y∧y≤1099511627776:=by
  intro y hy
  have a1:=hf 1
  have a2:=dB (d:=6) (hg 3).1 (hg 3).2 (by decide) (by decide)
  have a3:=mR hf 5 (d:=120) (by decide)
  have a4:=dB (d:=5040) (hg 7).1 (hg 7).2 (by decide) (by decide)
  simp only [jv,List.mem_cons,List.not_mem_nil,or_false] at hy
  rcases hy with rfl|rfl|rfl|rfl<;>omega
 have k2 : ∀ y ∈ ir f g,-1099511627776≤y∧y≤1099511627776:=by
  intro y hy
  have a1:=hg 1
  have a2:=dB (d:=120) (hg 5).1 (hg 5).2 (by decide) (by decide)
  have a3:=mR hf 3 (d:=6) (by decide)
  have a4:=dB (d:=362880) (hg 9).1 (hg 9).2 (by decide) (by decide)
  have a5:=mR hf 7 (d:=5040) (by decide)
  simp only [ir,List.mem_cons,List.not_mem_nil,or_false] at hy
  rcases hy with rfl|rfl|rfl|rfl|rfl<;>omega
 have b2:=o4 k2 5
 have b3 : -(((5 : Nat) : Int) * 1099511627776)≤dL (ir f g)∧dL (ir f g)≤((5 : Nat) : Int) * 1099511627776:=b2
 have ca : ab Tryz.prog 473 [.pv (.sl [Z (f 1),Z (au (g 3) 6),Z (f 5 / 120),Z (au (g 7) 5040)])] [] [] (.pv (Z (dL (jv f g)))):=Ar (jv f g) (by simp [jv]) k1
 have cb : ab Tryz.prog 473 [.pv (.sl [Z (g 1),Z (f 3 / 6),Z (au (g 5) 120),Z (f 7 / 5040),Z (au (g 9) 362880)])] [] [] (.pv (Z (dL (ir f g)))):=Ar (ir f g) (by simp [ir]) k2
 have c3:=o5 (g 3) 6 (hg 3).1 (by have:=hg 3;omega) (by decide) (by decide)
 have c7:=o5 (g 7) 5040 (hg 7).1 (by have:=hg 7;omega) (by decide) (by decide)
 have c5:=o5 (g 5) 120 (hg 5).1 (by have:=hg 5;omega) (by decide) (by decide)
 have c9:=o5 (g 9) 362880 (hg 9).1 (by have:=hg 9;omega) (by decide) (by decide)
 have ce:=FK (dL (jv f g)) (dL (ir f g)) (by omega) (by omega)
 generalize dL (jv f g)=lo at *
 generalize dL (ir f g)=hi at *
 have t1:=xv hf 5 120
 have t2:=xv hf 3 6
 have t3:=xv hf 7 5040
 have w1:=xx hf 5 (d:=120) (by decide)
 have w2:=xx hf 3 (d:=6) (by decide)
 have w3:=xx hf 7 (d:=5040) (by decide)
 refine Dp Tryz.func470 ?_
 intro C hP hN
 simp only [Tryz.f470] at hN ⊢
 with_reducible repeat' (first|refine Sp.h ?_|((first|refine Wd ?_|refine Ss.h ?_|refine Sc.h (cp) ?_|refine Sc.h (c3) ?_|refine Sc.h (c7) ?_|refine Sc.h (c5) ?_|refine Sc.h (c9) ?_|refine Sc.h (ca) ?_|refine Sc.h (cb) ?_|refine Sc.h (ce) ?_|(refine Sb.h ?_ ?_ ?_<;>(try intro hgd)<;>try exact Xy))<;>simp -implicitDefEqProofs (maxSteps:=2000000) [hP,hN,t1,t2,t3,w1,w2,w3]<;>try refine Ya ?_)|refine X2 ?_ ?_|(refine Xd ?_ ?_<;>intro hcd<;>try exact Xx))
theorem IK (x : Int) (h0 : 0≤x) (h1 : x≤8192) : ab Tryz.prog 471 [.pv (Z x)] [] [] (.pv (aO (o6 x))):=by
 have cp:=FJ x h0 h1
 have hf:=kB h0 h1
 have hg:=kC h0 h1
 show ab _ _ _ _ _ (.pv (aO (j6 (dL (lM (dq x) (dr x))) (dL (j7 (dq x) (dr x))))))
 generalize dq x=f at *
 generalize dr x=g at *
 have k1 : ∀ y ∈ lM f g,-1099511627776≤y∧y≤1099511627776:=by
  intro y hy
  have a2:=dB (d:=2) (hg 2).1 (hg 2).2 (by decide) (by decide)
  have a3:=mR hf 4 (d:=24) (by decide)
  have a4:=dB (d:=720) (hg 6).1 (hg 6).2 (by decide) (by decide)
  have a5:=mR hf 8 (d:=40320) (by decide)
  have a6:=dB (d:=3628800) (hg 10).1 (hg 10).2 (by decide) (by decide)
  simp only [lM,List.mem_cons,List.not_mem_nil,or_false] at hy
  rcases hy with rfl|rfl|rfl|rfl|rfl|rfl<;>omega
 have k2 : ∀ y ∈ j7 f g,-1099511627776≤y∧y≤1099511627776:=by
  intro y hy
  have a2:=dB (d:=24) (hg 4).1 (hg 4).2 (by decide) (by decide)
  have a3:=mR hf 2 (d:=2) (by decide)
  have a4:=dB (d:=40320) (hg 8).1 (hg 8).2 (by decide) (by decide)
  have a5:=mR hf 6 (d:=720) (by decide)
  simp only [j7,List.mem_cons,List.not_mem_nil,or_false] at hy
  rcases hy with rfl|rfl|rfl|rfl|rfl<;>omega
 have b2:=o4 k2 5
 have b3 : -(((5 : Nat) : Int) * 1099511627776)≤dL (j7 f g)∧dL (j7 f g)≤((5 : Nat) : Int) * 1099511627776:=b2
 have ca : ab Tryz.prog 473 [.pv (.sl [Z 1073741824,Z (au (g 2) 2),Z (f 4 / 24),Z (au (g 6) 720),Z (f 8 / 40320),Z (au (g 10) 3628800)])] [] [] (.pv (Z (dL (lM f g)))):=Ar (lM f g) (by simp [lM]) k1
 have cb : ab Tryz.prog 473 [.pv (.sl [Z 1073741824,Z (f 2 / 2),Z (au (g 4) 24),Z (f 6 / 720),Z (au (g 8) 40320)])] [] [] (.pv (Z (dL (j7 f g)))):=Ar (j7 f g) (by simp [j7]) k2
 have c2:=o5 (g 2) 2 (hg 2).1 (by have:=hg 2;omega) (by decide) (by decide)
 have c6:=o5 (g 6) 720 (hg 6).1 (by have:=hg 6;omega) (by decide) (by decide)
 have c10:=o5 (g 10) 3628800 (hg 10).1 (by have:=hg 10;omega) (by decide) (by decide)
 have c4:=o5 (g 4) 24 (hg 4).1 (by have:=hg 4;omega) (by decide) (by decide)
 have c8:=o5 (g 8) 40320 (hg 8).1 (by have:=hg 8;omega) (by decide) (by decide)
 have ce:=FK (dL (lM f g)) (dL (j7 f g)) (by omega) (by omega)
 generalize dL (lM f g)=lo at *
 generalize dL (j7 f g)=hi at *
 have t1:=xv hf 4 24
 have t2:=xv hf 8 40320
 have t3:=xv hf 2 2
 have t4:=xv hf 6 720
 have w1:=xx hf 4 (d:=24) (by decide)
 have w2:=xx hf 8 (d:=40320) (by decide)
 have w3:=xx hf 2 (d:=2) (by decide)
 have w4:=xx hf 6 (d:=720) (by decide)
 refine Dp Tryz.func471 ?_
 intro C hP hN
 simp only [Tryz.f471] at hN ⊢
 with_reducible repeat' (first|refine Sp.h ?_|((first|refine Wd ?_|refine Ss.h ?_|refine Sc.h (cp) ?_|refine Sc.h (c2) ?_|refine Sc.h (c6) ?_|refine Sc.h (c10) ?_|refine Sc.h (c4) ?_|refine Sc.h (c8) ?_|refine Sc.h (ca) ?_|refine Sc.h (cb) ?_|refine Sc.h (ce) ?_|(refine Sb.h ?_ ?_ ?_<;>(try intro hgd)<;>try exact Xy))<;>simp -implicitDefEqProofs (maxSteps:=2000000) [hP,hN,t1,t2,t3,t4,w1,w2,w3,w4]<;>try refine Ya ?_)|refine X2 ?_ ?_|(refine Xd ?_ ?_<;>intro hcd<;>try exact Xx))
def aH (r : Int) : Iv:=if r≤8192 then mh r else o6 (16384 - r)
theorem FL (r : Int) (h0 : 0≤r) (h1 : r≤16384) : ab Tryz.prog 469 [.pv (Z r)] [] [] (.pv (aO (aH r))):=by
 have w1 : IntKind.i64.wrap (16384 - r)=16384 - r:=aa (by omega) (by omega)
 by_cases h : r≤8192
 ·have hf : aH r=mh r:=by simp [aH,h]
  have cs:=IJ r h0 h
  rw [hf]
  generalize mh r=y at *
  refine Dp Tryz.func469 ?_
  intro C hP hN
  simp only [Tryz.f469] at hN ⊢
  with_reducible repeat' (first|refine Sp.h ?_|((first|refine Ss.h ?_|refine Sc.h (cs) ?_|(refine Sb.h ?_ ?_ ?_<;>(try intro hgd)<;>try exact Xy))<;>simp -implicitDefEqProofs (maxSteps:=2000000) [hP,hN,h])|refine X2 ?_ ?_|(refine Xd ?_ ?_<;>intro hcd<;>try exact Xx))
 ·have hf : aH r=o6 (16384 - r):=by simp [aH,h]
  have cs:=IK (16384 - r) (by omega) (by omega)
  rw [hf]
  generalize o6 (16384 - r)=y at *
  refine Dp Tryz.func469 ?_
  intro C hP hN
  simp only [Tryz.f469] at hN ⊢
  with_reducible repeat' (first|refine Sp.h ?_|((first|refine Ss.h ?_|refine Sc.h (cs) ?_|(refine Sb.h ?_ ?_ ?_<;>(try intro hgd)<;>try exact Xy))<;>simp -implicitDefEqProofs (maxSteps:=2000000) [hP,hN,h,w1])|refine X2 ?_ ?_|(refine Xd ?_ ?_<;>intro hcd<;>try exact Xx))
theorem GX (a : Int) : ud .and .i64 a 65535=a % 65536:=by
 unfold ud
 have h1 : (BitVec.ofInt 64 a &&& BitVec.ofInt 64 65535).toNat=(a % 65536).toNat:=by
  rw [BitVec.toNat_and,BitVec.toNat_ofInt,BitVec.toNat_ofInt]
  have e1 : ((65535 : Int) % ((2 ^ 64 : Nat) : Int)).toNat=2 ^ 16 - 1:=by decide
  rw [e1,Nat.and_two_pow_sub_one_eq_mod]
  have h0 : 0≤a % ((2 ^ 64 : Nat) : Int):=Int.emod_nonneg _ (by decide)
  have h2 : (a % ((2 ^ 64 : Nat) : Int)) % 65536=a % 65536:=Int.emod_emod_of_dvd a (by decide)
  omega
 show IntKind.i64.wrap ((BitVec.ofInt 64 a &&& BitVec.ofInt 64 65535).toNat : Int)=_
 rw [h1,IntKind.wrap_i64]
 have:=Int.emod_nonneg a (b:=65536) (by decide)
 have:=Int.emod_lt_of_pos a (b:=65536) (by decide)
 omega
theorem CR (a : Int) : ab Tryz.prog 468 [.pv (Z a)] [] [] (.pv (Z (a % 65536))):=by
 refine Dp Tryz.func468 ?_
 intro C hP hN
 simp only [Tryz.f468] at hN ⊢
 with_reducible repeat' (first|refine Sp.h ?_|((first|refine Ss.h ?_|(refine Sb.h ?_ ?_ ?_<;>(try intro hgd)<;>try exact Xy))<;>simp -implicitDefEqProofs (maxSteps:=2000000) [hP,hN,GX])|refine X2 ?_ ?_|(refine Xd ?_ ?_<;>intro hcd<;>try exact Xx))
def jC (m : Int) : Iv:=if m / 16384=0 then aH (m % 16384) else if m / 16384=1 then aH (16384 - m % 16384) else if m / 16384=2 then d9 (aH (m % 16384)) else d9 (aH (16384 - m % 16384))
def dU (a : Int) : Iv:=jC (a % 65536)
theorem FM (a : Int) : ab Tryz.prog 463 [.pv (Z a)] [] [] (.pv (aO (dU a))):=by
 have cm:=CR a
 show ab _ _ _ _ _ (.pv (aO (jC (a % 65536))))
 have r1:=Int.emod_nonneg a (b:=65536) (by decide)
 have r2:=Int.emod_lt_of_pos a (b:=65536) (by decide)
 generalize a % 65536=m at *
 have t1 : m.tmod 16384=m % 16384:=Int.tmod_eq_emod_of_nonneg r1
 have t2 : m.tdiv 16384=m / 16384:=Int.tdiv_eq_ediv_of_nonneg r1
 have w1 : IntKind.i64.wrap (m / 16384)=m / 16384:=aa (by omega) (by omega)
 have w2 : IntKind.i64.wrap (m % 16384)=m % 16384:=aa (by omega) (by omega)
 have w3 : IntKind.i64.wrap (16384 - m % 16384)=16384 - m % 16384:=aa (by omega) (by omega)
 have cf:=FL (m % 16384) (by omega) (by omega)
 have cg:=FL (16384 - m % 16384) (by omega) (by omega)
 have key : m / 16384=0∨m / 16384=1∨m / 16384=2∨m / 16384=3:=by omega
 rcases key with hk|hk|hk|hk
 ·have hf : jC m=aH (m % 16384):=by simp [jC,hk]
  rw [hf]
  generalize aH (m % 16384)=y at *
  refine Dp Tryz.func463 ?_
  intro C hP hN
  simp only [Tryz.f463] at hN ⊢
  with_reducible repeat' (first|refine Sp.h ?_|((first|refine Ss.h ?_|refine Sc.h (cm) ?_|refine Sc.h (cf) ?_|(refine Sb.h ?_ ?_ ?_<;>(try intro hgd)<;>try exact Xy))<;>simp -implicitDefEqProofs (maxSteps:=2000000) [hP,hN,t1,t2,w1,w2,w3,hk])|refine X2 ?_ ?_|(refine Xd ?_ ?_<;>intro hcd<;>try exact Xx))
 ·have hf : jC m=aH (16384 - m % 16384):=by simp [jC,hk]
  rw [hf]
  generalize aH (16384 - m % 16384)=y at *
  refine Dp Tryz.func463 ?_
  intro C hP hN
  simp only [Tryz.f463] at hN ⊢
  with_reducible repeat' (first|refine Sp.h ?_|((first|refine Ss.h ?_|refine Sc.h (cm) ?_|refine Sc.h (cg) ?_|(refine Sb.h ?_ ?_ ?_<;>(try intro hgd)<;>try exact Xy))<;>simp -implicitDefEqProofs (maxSteps:=2000000) [hP,hN,t1,t2,w1,w2,w3,hk])|refine X2 ?_ ?_|(refine Xd ?_ ?_<;>intro hcd<;>try exact Xx))
 ·have hf : jC m=d9 (aH (m % 16384)):=by simp [jC,hk]
  rw [hf]
  generalize aH (m % 16384)=y at *
  refine Dp Tryz.func463 ?_
  intro C hP hN
  simp only [Tryz.f463] at hN ⊢
  with_reducible repeat' (first|refine Sp.h ?_|((first|refine Ss.h ?_|refine Sc.h (cm) ?_|refine Sc.h (cf) ?_|refine Sc.h (CF) ?_|(refine Sb.h ?_ ?_ ?_<;>(try intro hgd)<;>try exact Xy))<;>simp -implicitDefEqProofs (maxSteps:=2000000) [hP,hN,t1,t2,w1,w2,w3,hk])|refine X2 ?_ ?_|(refine Xd ?_ ?_<;>intro hcd<;>try exact Xx))
 ·have hf : jC m=d9 (aH (16384 - m % 16384)):=by simp [jC,hk]
  rw [hf]
  generalize aH (16384 - m % 16384)=y at *
  refine Dp Tryz.func463 ?_
  intro C hP hN
  simp only [Tryz.f463] at hN ⊢
  with_reducible repeat' (first|refine Sp.h ?_|((first|refine Ss.h ?_|refine Sc.h (cm) ?_|refine Sc.h (cg) ?_|refine Sc.h (CF) ?_|(refine Sb.h ?_ ?_ ?_<;>(try intro hgd)<;>try exact Xy))<;>simp -implicitDefEqProofs (maxSteps:=2000000) [hP,hN,t1,t2,w1,w2,w3,hk])|refine X2 ?_ ?_|(refine Xd ?_ ?_<;>intro hcd<;>try exact Xx))
def mS (a : Int) : Iv:=dU (a % 65536+16384)
theorem IL (a : Int) : ab Tryz.prog 462 [.pv (Z a)] [] [] (.pv (aO (mS a))):=by
 have cm:=CR a
 show ab _ _ _ _ _ (.pv (aO (dU (a % 65536+16384))))
 have r1:=Int.emod_nonneg a (b:=65536) (by decide)
 have r2:=Int.emod_lt_of_pos a (b:=65536) (by decide)
 generalize a % 65536=m at *
 have w1 : IntKind.i64.wrap (m+16384)=m+16384:=aa (by omega) (by omega)
 have cs:=FM (m+16384)
 generalize dU (m+16384)=y at *
 refine Dp Tryz.func462 ?_
 intro C hP hN
 simp only [Tryz.f462] at hN ⊢
 with_reducible repeat' (first|refine Sp.h ?_|((first|refine Ss.h ?_|refine Sc.h (cm) ?_|refine Sc.h (cs) ?_|(refine Sb.h ?_ ?_ ?_<;>(try intro hgd)<;>try exact Xy))<;>simp -implicitDefEqProofs (maxSteps:=2000000) [hP,hN,w1])|refine X2 ?_ ?_|(refine Xd ?_ ?_<;>intro hcd<;>try exact Xx))
def du (a : Iv) (t : Int) : Bool:=am a.1 a.2 && decide (a.1≤a.1+(t - a.1) % 65536) && decide (a.1+(t - a.1) % 65536≤a.2)
theorem FO {a b : Int} (t : Int) (h1 : -2147483648≤a) (h2 : a≤2147483648) (h3 : -2147483648≤t) (h4 : t≤2147483648) : ab Tryz.prog 467 [.pv (I a b),.pv (Z t)] [] [] (.pv (B (du (a,b) t))):=by
 have w1 : IntKind.i64.wrap (t - a)=t - a:=aa (by omega) (by omega)
 have r1:=Int.emod_nonneg (t - a) (b:=65536) (by decide)
 have r2:=Int.emod_lt_of_pos (t - a) (b:=65536) (by decide)
 have w2 : IntKind.i64.wrap (a+(t - a) % 65536)=a+(t - a) % 65536:=aa (by omega) (by omega)
 have cm:=CR (t - a)
 refine Dp Tryz.func467 ?_
 intro C hP hN
 simp only [Tryz.f467] at hN ⊢
 with_reducible repeat' (first|refine Sp.h ?_|((first|refine Wd ?_|refine Ss.h ?_|refine Sc.h (cm) ?_|refine Sc.h (Fe _ _ _) ?_|(refine Sb.h ?_ ?_ ?_<;>(try intro hgd)<;>try exact Xy))<;>simp -implicitDefEqProofs (maxSteps:=2000000) [hP,hN,w1,w2]<;>try refine Ya ?_)|refine X2 ?_ ?_|(refine Xd ?_ ?_<;>intro hcd<;>try exact Xx))
 all_goals (try simp [du])
def dQ (a : Iv) (v : Int→Iv) (t b : Int) : Iv:=if am a.1 a.2=false then (0,0) else if 65536≤a.2 - a.1 then (-65536,65536) else
 let h:=br (v a.1) (v a.2)
 let h1:=if du a t then br h (fU 65536) else h
 if du a b then br h1 (fU (-65536)) else h1
theorem FP {a b : Int} (f : FuncId) (v : Int→Iv) (t u : Int) (hf : ∀ x,ab Tryz.prog f [.pv (Z x)] [] [] (.pv (aO (v x)))) (ht : -2147483648≤t) (ht' : t≤2147483648) (hu : -2147483648≤u) (hu' : u≤2147483648) : ab Tryz.prog 461 [.pv (I a b),.pv (Fv f),.pv (Z t),.pv (Z u)] [] [] (.pv (aO (dQ (a,b) v t u))):=by
 cases hv : am a b with
 |false=>
  have hr : dQ (a,b) v t u=(0,0):=by simp [dQ,hv]
  rw [hr]
  refine Dp Tryz.func461 ?_
  intro C hP hN
  simp only [Tryz.f461] at hN ⊢
  with_reducible repeat' (first|refine Sp.h ?_|((first|refine Wd ?_|refine Ss.h ?_|refine Sc.h (gt _ _) ?_|(refine Sb.h ?_ ?_ ?_<;>(try intro hgd)<;>try exact Xy))<;>simp -implicitDefEqProofs (maxSteps:=2000000) [hP,hN,hv]<;>try refine Ya ?_)|refine X2 ?_ ?_|(refine Xd ?_ ?_<;>intro hcd<;>try exact Xx))
 |true=>
  have hv':=aT.1 hv
  have w1 : IntKind.i64.wrap (b - a)=b - a:=aa (by omega) (by omega)
  have cm:=FO (a:=a) (b:=b) t (by omega) (by omega) ht ht'
  have cn:=FO (a:=a) (b:=b) u (by omega) (by omega) hu hu'
  have o1 : ab Tryz.prog 421 [.pv (Z 65536)] [] [] (.pv (I 65536 65536)):=ut 65536
  have o2 : ab Tryz.prog 421 [.pv (Z (-65536))] [] [] (.pv (I (-65536) (-65536))):=ut (-65536)
  by_cases hw : 65536≤b - a
  ·have hr : dQ (a,b) v t u=(-65536,65536):=by simp [dQ,hv,hw]
   rw [hr]
   refine Dp Tryz.func461 ?_
   intro C hP hN
   simp only [Tryz.f461] at hN ⊢
   with_reducible repeat' (first|refine Sp.h ?_|((first|refine Wd ?_|refine Ss.h ?_|refine Sc.h (gt _ _) ?_|refine Sc.h (sg _ _) ?_|(refine Sb.h ?_ ?_ ?_<;>(try intro hgd)<;>try exact Xy))<;>simp -implicitDefEqProofs (maxSteps:=2000000) [hP,hN,hv,w1,hw]<;>try refine Ya ?_)|refine X2 ?_ ?_|(refine Xd ?_ ?_<;>intro hcd<;>try exact Xx))
  ·have hr : dQ (a,b) v t u=(let h:=br (v a) (v b);let h1:=if du (a,b) t then br h (65536,65536) else h;if du (a,b) u then br h1 (-65536,-65536) else h1):=by
    have e1 : fU 65536=(65536,65536):=by decide
    have e2 : fU (-65536)=(-65536,-65536):=by decide
    simp [dQ,hv,hw,e1,e2]
   rw [hr]
   cases hm1 : du (a,b) t<;>cases hm2 : du (a,b) u<;>rw [hm1] at cm<;>rw [hm2] at cn
   ·skip
    refine Dp Tryz.func461 ?_
    intro C hP hN
    simp only [Tryz.f461] at hN ⊢
    with_reducible repeat' (first|refine Sp.h ?_|((first|refine Wd ?_|refine Ss.h ?_|refine Sc.h (gt _ _) ?_|refine Sc.h (sg _ _) ?_|refine Sc.h (hf _) ?_|refine Sc.h (Ac _ _ _ _) ?_|refine Sc.h (cm) ?_|refine Sc.h (cn) ?_|(refine Sb.h ?_ ?_ ?_<;>(try intro hgd)<;>try exact Xy))<;>simp -implicitDefEqProofs (maxSteps:=2000000) [hP,hN,hv,w1,hw]<;>try refine Ya ?_)|refine X2 ?_ ?_|(refine Xd ?_ ?_<;>intro hcd<;>try exact Xx))
    all_goals (try simp)
   ·skip
    refine Dp Tryz.func461 ?_
    intro C hP hN
    simp only [Tryz.f461] at hN ⊢
    with_reducible repeat' (first|refine Sp.h ?_|((first|refine Wd ?_|refine Ss.h ?_|refine Sc.h (gt _ _) ?_|refine Sc.h (sg _ _) ?_|refine Sc.h (hf _) ?_|refine Sc.h (Ac _ _ _ _) ?_|refine Sc.h (cm) ?_|refine Sc.h (cn) ?_|refine Sc.h (o2) ?_|(refine Sb.h ?_ ?_ ?_<;>(try intro hgd)<;>try exact Xy))<;>simp -implicitDefEqProofs (maxSteps:=2000000) [hP,hN,hv,w1,hw]<;>try refine Ya ?_)|refine X2 ?_ ?_|(refine Xd ?_ ?_<;>intro hcd<;>try exact Xx))
    all_goals (try simp)
   ·skip
    refine Dp Tryz.func461 ?_
    intro C hP hN
    simp only [Tryz.f461] at hN ⊢
    with_reducible repeat' (first|refine Sp.h ?_|((first|refine Wd ?_|refine Ss.h ?_|refine Sc.h (gt _ _) ?_|refine Sc.h (sg _ _) ?_|refine Sc.h (hf _) ?_|refine Sc.h (Ac _ _ _ _) ?_|refine Sc.h (cm) ?_|refine Sc.h (cn) ?_|refine Sc.h (o1) ?_|(refine Sb.h ?_ ?_ ?_<;>(try intro hgd)<;>try exact Xy))<;>simp -implicitDefEqProofs (maxSteps:=2000000) [hP,hN,hv,w1,hw]<;>try refine Ya ?_)|refine X2 ?_ ?_|(refine Xd ?_ ?_<;>intro hcd<;>try exact Xx))
    all_goals (try simp)
   ·skip
    refine Dp Tryz.func461 ?_
    intro C hP hN
    simp only [Tryz.f461] at hN ⊢
    with_reducible repeat' (first|refine Sp.h ?_|((first|refine Wd ?_|refine Ss.h ?_|refine Sc.h (gt _ _) ?_|refine Sc.h (sg _ _) ?_|refine Sc.h (hf _) ?_|refine Sc.h (Ac _ _ _ _) ?_|refine Sc.h (cm) ?_|refine Sc.h (cn) ?_|refine Sc.h (o1) ?_|refine Sc.h (o2) ?_|(refine Sb.h ?_ ?_ ?_<;>(try intro hgd)<;>try exact Xy))<;>simp -implicitDefEqProofs (maxSteps:=2000000) [hP,hN,hv,w1,hw]<;>try refine Ya ?_)|refine X2 ?_ ?_|(refine Xd ?_ ?_<;>intro hcd<;>try exact Xx))
    all_goals (try simp)
def kE (a : Iv) : Iv:=dQ a dU 16384 49152
def kF (a : Iv) : Iv:=dQ a mS 0 32768
theorem IM {a b : Int} : ab Tryz.prog 457 [.pv (I a b)] [] [] (.pv (aO (kE (a,b)))):=by
 have co:=FP (a:=a) (b:=b) 463 dU 16384 49152 FM (by decide) (by decide) (by decide) (by decide)
 refine Dp Tryz.func457 ?_
 intro C hP hN
 simp only [Tryz.f457] at hN ⊢
 with_reducible repeat' (first|refine Sp.h ?_|((first|refine Ss.h ?_|refine Sc.h (co) ?_|(refine Sb.h ?_ ?_ ?_<;>(try intro hgd)<;>try exact Xy))<;>simp -implicitDefEqProofs (maxSteps:=2000000) [hP,hN])|refine X2 ?_ ?_|(refine Xd ?_ ?_<;>intro hcd<;>try exact Xx))
 all_goals exact ⟨rfl,rfl⟩
theorem IN {a b : Int} : ab Tryz.prog 456 [.pv (I a b)] [] [] (.pv (aO (kF (a,b)))):=by
 have co:=FP (a:=a) (b:=b) 462 mS 0 32768 IL (by decide) (by decide) (by decide) (by decide)
 refine Dp Tryz.func456 ?_
 intro C hP hN
 simp only [Tryz.f456] at hN ⊢
 with_reducible repeat' (first|refine Sp.h ?_|((first|refine Ss.h ?_|refine Sc.h (co) ?_|(refine Sb.h ?_ ?_ ?_<;>(try intro hgd)<;>try exact Xy))<;>simp -implicitDefEqProofs (maxSteps:=2000000) [hP,hN])|refine X2 ?_ ?_|(refine Xd ?_ ?_<;>intro hcd<;>try exact Xx))
 all_goals exact ⟨rfl,rfl⟩
end Go.Ab
namespace Go.Ab
open Go.Proofs
structure SubI (x y : Iv) : Prop where
 vx : am x.1 x.2=true
 vy : am y.1 y.2=true
 lo : y.1≤x.1
 hi : x.2≤y.2
theorem eY {x y : Iv} (h1 : -2147483648≤y.1) (h2 : y.1≤x.1) (h3 : x.1≤x.2) (h4 : x.2≤y.2) (h5 : y.2≤2147483648) : SubI x y:=⟨aT.2 (by omega),aT.2 (by omega),h2,h4⟩
theorem SubI.all {x y : Iv} (h : SubI x y) : -2147483648≤y.1∧y.1≤x.1∧x.1≤x.2∧x.2≤y.2∧y.2≤2147483648:=by
 have h1:=aT.1 h.vx
 have h2:=aT.1 h.vy
 have h3:=h.lo
 have h4:=h.hi
 omega
theorem SubI.refl {x : Iv} (h : am x.1 x.2=true) : SubI x x:=⟨h,h,Int.le_refl _,Int.le_refl _⟩
theorem SubI.trans {x y z : Iv} (h : SubI x y) (g : SubI y z) : SubI x z:=⟨h.vx,g.vy,Int.le_trans g.lo h.lo,Int.le_trans h.hi g.hi⟩
theorem pg {x x' y y' : Iv} (hx : SubI x x') (hy : SubI y y') : SubI (aA x y) (aA x' y'):=by
 have h1:=hx.all
 have h2:=hy.all
 simp only [aA,hx.vx,hx.vy,hy.vx,hy.vy,Bool.and_self,if_true]
 apply eY<;>simp only [dO]<;>omega
theorem C6 {x x' : Iv} (hx : SubI x x') : SubI (d9 x) (d9 x'):=by
 have h1:=hx.all
 simp only [d9,hx.vx,hx.vy,if_true]
 apply eY<;>(try simp only [])<;>omega
theorem xI {a b x c : Int} (h1 : a≤x) (h2 : x≤b) : min (a * c) (b * c)≤x * c∧x * c≤max (a * c) (b * c):=by
 rcases Int.le_total 0 c with h|h
 ·have g1:=Int.mul_le_mul_of_nonneg_right h1 h
  have g2:=Int.mul_le_mul_of_nonneg_right h2 h
  omega
 ·have g1:=Int.mul_le_mul_of_nonpos_right h1 h
  have g2:=Int.mul_le_mul_of_nonpos_right h2 h
  omega
theorem Ay {a b c d x y : Int} (h1 : a≤x) (h2 : x≤b) (h3 : c≤y) (h4 : y≤d) : min (a * c) (min (a * d) (min (b * c) (b * d)))≤x * y∧x * y≤max (a * c) (max (a * d) (max (b * c) (b * d))):=by
 have g1:=xI (c:=y) h1 h2
 have g2:=xI (c:=a) h3 h4
 have g3:=xI (c:=b) h3 h4
 rw [Int.mul_comm c a,Int.mul_comm d a,Int.mul_comm y a] at g2
 rw [Int.mul_comm c b,Int.mul_comm d b,Int.mul_comm y b] at g3
 omega
theorem C7 {x x' y y' : Iv} (hx : SubI x x') (hy : SubI y y') : SubI (aj x y) (aj x' y'):=by
 have h1:=hx.all
 have h2:=hy.all
 have m1:=Ay (x:=x.1) (y:=y.1) (a:=x'.1) (b:=x'.2) (c:=y'.1) (d:=y'.2) (by omega) (by omega) (by omega) (by omega)
 have m2:=Ay (x:=x.1) (y:=y.2) (a:=x'.1) (b:=x'.2) (c:=y'.1) (d:=y'.2) (by omega) (by omega) (by omega) (by omega)
 have m3:=Ay (x:=x.2) (y:=y.1) (a:=x'.1) (b:=x'.2) (c:=y'.1) (d:=y'.2) (by omega) (by omega) (by omega) (by omega)
 have m4:=Ay (x:=x.2) (y:=y.2) (a:=x'.1) (b:=x'.2) (c:=y'.1) (d:=y'.2) (by omega) (by omega) (by omega) (by omega)
 simp only [aj,hx.vx,hx.vy,hy.vx,hy.vy,Bool.and_self,if_true]
 apply eY<;>simp only [dO,cH]<;>omega
theorem uH (x : Int) : SubI (fU x) (fU x):=by
 apply SubI.refl
 rw [aT]
 simp only [fU,dO]
 omega
theorem ED {x y : Iv} (hx : am x.1 x.2=true) (hy : am y.1 y.2=true) : SubI x (br x y):=by
 have h1:=aT.1 hx
 have h2:=aT.1 hy
 simp only [br,hx,hy,Bool.and_self,if_true]
 apply eY<;>(try simp only [])<;>omega
theorem uI {x y : Iv} (hx : am x.1 x.2=true) (hy : am y.1 y.2=true) : SubI y (br x y):=by
 have h1:=aT.1 hx
 have h2:=aT.1 hy
 simp only [br,hx,hy,Bool.and_self,if_true]
 apply eY<;>(try simp only [])<;>omega
theorem gw {x y z : Iv} (hx : SubI x z) (hy : SubI y z) : SubI (br x y) z:=by
 have h1:=hx.all
 have h2:=hy.all
 simp only [br,hx.vx,hy.vx,Bool.and_self,if_true]
 apply eY<;>(try simp only [])<;>omega
def tQ (t u : Nat) : Nat × Nat:=
 let a2:=t * t / 1073741824
 let a3:=a2 * t / 1073741824
 let a4:=a3 * t / 1073741824
 let a5:=a4 * t / 1073741824
 let a6:=a5 * t / 1073741824
 let a7:=a6 * t / 1073741824
 let b2:=(u * u+1073741823) / 1073741824
 let b3:=(b2 * u+1073741823) / 1073741824
 let b4:=(b3 * u+1073741823) / 1073741824
 let b5:=(b4 * u+1073741823) / 1073741824
 let b6:=(b5 * u+1073741823) / 1073741824
 let b7:=(b6 * u+1073741823) / 1073741824
 let b8:=(b7 * u+1073741823) / 1073741824
 let b9:=(b8 * u+1073741823) / 1073741824
 (((t+a5 / 120) - ((b3+5) / 6+(b7+5039) / 5040)) / 16384,((u+(b5+119) / 120+(b9+362879) / 362880) - (a3 / 6+a7 / 5040)+16383) / 16384)
def tR (t u : Nat) : Nat × Nat:=
 let a2:=t * t / 1073741824
 let a3:=a2 * t / 1073741824
 let a4:=a3 * t / 1073741824
 let a5:=a4 * t / 1073741824
 let a6:=a5 * t / 1073741824
 let a7:=a6 * t / 1073741824
 let a8:=a7 * t / 1073741824
 let b2:=(u * u+1073741823) / 1073741824
 let b3:=(b2 * u+1073741823) / 1073741824
 let b4:=(b3 * u+1073741823) / 1073741824
 let b5:=(b4 * u+1073741823) / 1073741824
 let b6:=(b5 * u+1073741823) / 1073741824
 let b7:=(b6 * u+1073741823) / 1073741824
 let b8:=(b7 * u+1073741823) / 1073741824
 let b9:=(b8 * u+1073741823) / 1073741824
 let b10:=(b9 * u+1073741823) / 1073741824
 (((1073741824+a4 / 24+a8 / 40320) - ((b2+1) / 2+(b6+719) / 720+(b10+3628799) / 3628800)) / 16384,((1073741824+(b4+23) / 24+(b8+40319) / 40320) - (a2 / 2+a6 / 720)+16383) / 16384)
def tN (x : Nat) : Nat:=x * 6746518852 / 65536
def uN (x : Nat) : Nat:=(x * 6746518853+65535) / 65536
def nS (r : Nat) : Nat × Nat:=bif Nat.ble r 8192 then tQ (tN r) (uN r) else tR (tN (16384 - r)) (uN (16384 - r))
def D4 (r : Nat) : Bool:=(Nat.ble (nS r).1 (nS (r+1)).1).and ((Nat.ble (nS r).2 (nS (r+1)).2).and ((Nat.ble (nS r).1 (nS r).2).and (Nat.ble (nS r).1 65536)))
def mY (s : Nat) : Nat→Bool
 |0=>true
 |n+1=>(D4 (s+n)).and (mY s n)
theorem ie {s : Nat} : ∀ {n : Nat},mY s n=true→∀ i,i < n→D4 (s+i)=true
 |0,_,i,hi=>by omega
 |n+1,h,i,hi=>by
  simp only [mY,Bool.and_eq_true] at h
  by_cases he : i=n
  ·subst he;exact h.1
  ·exact ie h.2 i (by omega)
def aN (t : Nat) : Nat→Nat
 |0=>1073741824
 |1=>t
 |k+2=>aN t (k+1) * t / 1073741824
def kt (u : Nat) : Nat→Nat
 |0=>1073741824
 |1=>u
 |k+2=>(kt u (k+1) * u+1073741823) / 1073741824
theorem GZ (n : Nat) : cH (n : Int) 1073741824=(((n+1073741823) / 1073741824 : Nat) : Int):=by unfold cH;omega
theorem rt (x : Nat) : ∀ k,dq (x : Int) k=((aN (tN x) k : Nat) : Int)
 |0=>rfl
 |1=>by simp only [dq,aN,tN];omega
 |k+2=>by
  have ih:=rt x (k+1)
  have h1:=rt x 1
  simp only [dq,aN] at h1 ih ⊢
  rw [ih,h1,← Int.natCast_mul]
  generalize aN (tN x) (k+1) * tN x=p
  omega
theorem ru (x : Nat) : ∀ k,dr (x : Int) k=((kt (uN x) k : Nat) : Int)
 |0=>rfl
 |1=>by simp only [dr,kt,uN,cH];omega
 |k+2=>by
  have ih:=ru x (k+1)
  have h1:=ru x 1
  simp only [dr,kt] at h1 ih ⊢
  rw [ih,h1,← Int.natCast_mul]
  generalize kt (uN x) (k+1) * uN x=p
  exact GZ p
theorem tS (t : Nat) (ht : t≤1073741824) : ∀ k,aN t (k+1)≤t
 |0=>Nat.le_refl _
 |k+1=>by
  have ih:=tS t ht k
  simp only [aN]
  exact Nat.div_le_of_le_mul (Nat.mul_le_mul_right t (by omega))
theorem rv {x : Nat} (h : x≤8192) : tN x≤1073741824∧tN x≤uN x:=by unfold tN uN;omega
theorem tT (b d : Nat) (hd : 0 < d) : ((b : Int)+d - 1) / d=(((b+(d - 1)) / d : Nat) : Int):=by
 rw [show (b : Int)+d - 1=((b+(d - 1) : Nat) : Int) by omega,Int.natCast_ediv]
theorem Hq (p n : Nat) : max 0 (((p : Int) - n) / 16384)=(((p - n) / 16384 : Nat) : Int):=by omega
theorem Hr (p n : Nat) (h : n≤p) : cH ((p : Int) - n) 16384=(((p - n+16383) / 16384 : Nat) : Int):=by unfold cH;omega
theorem C8 (a1 a3 a5 a7 b1 b3 b5 b7 b9 : Nat) (h : a3 / 6+a7 / 5040≤b1) : j6 ((a1 : Int) - au b3 6+(a5 : Int) / 120 - au b7 5040) ((b1 : Int) - (a3 : Int) / 6+au b5 120 - (a7 : Int) / 5040+au b9 362880)=
 (((((a1+a5 / 120) - ((b3+5) / 6+(b7+5039) / 5040)) / 16384 : Nat) : Int),min 65536 ((((b1+(b5+119) / 120+(b9+362879) / 362880) - (a3 / 6+a7 / 5040)+16383) / 16384 : Nat) : Int)):=by
 have c3 : au b3 6=(((b3+5) / 6 : Nat) : Int):=tT b3 6 (by decide)
 have c5 : au b5 120=(((b5+119) / 120 : Nat) : Int):=tT b5 120 (by decide)
 have c7 : au b7 5040=(((b7+5039) / 5040 : Nat) : Int):=tT b7 5040 (by decide)
 have c9 : au b9 362880=(((b9+362879) / 362880 : Nat) : Int):=tT b9 362880 (by decide)
 have d3 : (a3 : Int) / 6=((a3 / 6 : Nat) : Int):=(Int.natCast_ediv a3 6).symm
 have d5 : (a5 : Int) / 120=((a5 / 120 : Nat) : Int):=(Int.natCast_ediv a5 120).symm
 have d7 : (a7 : Int) / 5040=((a7 / 5040 : Nat) : Int):=(Int.natCast_ediv a7 5040).symm
 rw [c3,c5,c7,c9,d3,d5,d7]
 generalize (b3+5) / 6=x3 at *
 generalize (b5+119) / 120=x5 at *
 generalize (b7+5039) / 5040=x7 at *
 generalize (b9+362879) / 362880=x9 at *
 generalize a3 / 6=y3 at *
 generalize a5 / 120=y5 at *
 generalize a7 / 5040=y7 at *
 unfold j6
 rw [show (a1 : Int) - x3+y5 - x7=((a1+y5 : Nat) : Int) - ((x3+x7 : Nat) : Int) by omega,show (b1 : Int) - y3+x5 - y7+x9=((b1+x5+x9 : Nat) : Int) - ((y3+y7 : Nat) : Int) by omega,Hq,Hr _ _ (by omega)]
theorem C9 (a2 a4 a6 a8 b2 b4 b6 b8 b10 : Nat) (h : a2 / 2+a6 / 720≤1073741824) : j6 (1073741824 - au b2 2+(a4 : Int) / 24 - au b6 720+(a8 : Int) / 40320 - au b10 3628800) (1073741824 - (a2 : Int) / 2+au b4 24 - (a6 : Int) / 720+au b8 40320)=
 (((((1073741824+a4 / 24+a8 / 40320) - ((b2+1) / 2+(b6+719) / 720+(b10+3628799) / 3628800)) / 16384 : Nat) : Int),min 65536 ((((1073741824+(b4+23) / 24+(b8+40319) / 40320) - (a2 / 2+a6 / 720)+16383) / 16384 : Nat) : Int)):=by
 have c2 : au b2 2=(((b2+1) / 2 : Nat) : Int):=tT b2 2 (by decide)
 have c4 : au b4 24=(((b4+23) / 24 : Nat) : Int):=tT b4 24 (by decide)
 have c6 : au b6 720=(((b6+719) / 720 : Nat) : Int):=tT b6 720 (by decide)
 have c8 : au b8 40320=(((b8+40319) / 40320 : Nat) : Int):=tT b8 40320 (by decide)
 have c10 : au b10 3628800=(((b10+3628799) / 3628800 : Nat) : Int):=tT b10 3628800 (by decide)
 have d2 : (a2 : Int) / 2=((a2 / 2 : Nat) : Int):=(Int.natCast_ediv a2 2).symm
 have d4 : (a4 : Int) / 24=((a4 / 24 : Nat) : Int):=(Int.natCast_ediv a4 24).symm
 have d6 : (a6 : Int) / 720=((a6 / 720 : Nat) : Int):=(Int.natCast_ediv a6 720).symm
 have d8 : (a8 : Int) / 40320=((a8 / 40320 : Nat) : Int):=(Int.natCast_ediv a8 40320).symm
 rw [c2,c4,c6,c8,c10,d2,d4,d6,d8]
 generalize (b2+1) / 2=x2 at *
 generalize (b4+23) / 24=x4 at *
 generalize (b6+719) / 720=x6 at *
 generalize (b8+40319) / 40320=x8 at *
 generalize (b10+3628799) / 3628800=x10 at *
 generalize a2 / 2=y2 at *
 generalize a4 / 24=y4 at *
 generalize a6 / 720=y6 at *
 generalize a8 / 40320=y8 at *
 unfold j6
 rw [show (1073741824 : Int) - x2+y4 - x6+y8 - x10=((1073741824+y4+y8 : Nat) : Int) - ((x2+x6+x10 : Nat) : Int) by omega,show (1073741824 : Int) - y2+x4 - y6+x8=((1073741824+x4+x8 : Nat) : Int) - ((y2+y6 : Nat) : Int) by omega,Hq,Hr _ _ (by omega)]
theorem EE (t u : Nat) : tQ t u=(((aN t 1+aN t 5 / 120) - ((kt u 3+5) / 6+(kt u 7+5039) / 5040)) / 16384,((kt u 1+(kt u 5+119) / 120+(kt u 9+362879) / 362880) - (aN t 3 / 6+aN t 7 / 5040)+16383) / 16384):=by
 simp only [tQ,aN,kt]
theorem EF (t u : Nat) : tR t u=(((1073741824+aN t 4 / 24+aN t 8 / 40320) - ((kt u 2+1) / 2+(kt u 6+719) / 720+(kt u 10+3628799) / 3628800)) / 16384,((1073741824+(kt u 4+23) / 24+(kt u 8+40319) / 40320) - (aN t 2 / 2+aN t 6 / 720)+16383) / 16384):=by
 simp only [tR,aN,kt]
theorem FX (a b c d : Int) : dL [a,b,c,d]=a - b+c - d:=by simp [dL,j5,jr];omega
theorem Az (a b c d e : Int) : dL [a,b,c,d,e]=a - b+c - d+e:=by simp [dL,j5,jr];omega
theorem FY (a b c d e f : Int) : dL [a,b,c,d,e,f]=a - b+c - d+e - f:=by simp [dL,j5,jr];omega
theorem EG {x : Nat} (h : x≤8192) : mh (x : Int)=(((tQ (tN x) (uN x)).1 : Int),min 65536 ((tQ (tN x) (uN x)).2 : Int)):=by
 have h3:=tS (tN x) (rv h).1 2
 have h7:=tS (tN x) (rv h).1 6
 have hu:=(rv h).2
 have hb : kt (uN x) 1=uN x:=rfl
 rw [EE]
 simp only [mh,jv,ir,FX,Az,rt,ru]
 exact C8 _ _ _ _ _ _ _ _ _ (by simp only [Nat.reduceAdd] at h3 h7;rw [hb];omega)
theorem EH {x : Nat} (h : x≤8192) : o6 (x : Int)=(((tR (tN x) (uN x)).1 : Int),min 65536 ((tR (tN x) (uN x)).2 : Int)):=by
 have h3:=tS (tN x) (rv h).1 1
 have h7:=tS (tN x) (rv h).1 5
 have hu:=(rv h).1
 rw [EF]
 simp only [o6,lM,j7,Az,FY,rt,ru]
 exact C9 _ _ _ _ _ _ _ _ _ (by simp only [Nat.reduceAdd] at h3 h7;omega)
theorem vB {r : Nat} (h : r≤16384) : aH (r : Int)=(((nS r).1 : Int),min 65536 ((nS r).2 : Int)):=by
 unfold aH nS
 by_cases hr : r≤8192
 ·rw [if_pos (by omega),show Nat.ble r 8192=true from Nat.ble_eq_true_of_le hr]
  exact EG hr
 ·rw [if_neg (by omega)]
  have : Nat.ble r 8192=false:=by
   cases hb : Nat.ble r 8192 with
   |false=>rfl
   |true=>exact absurd (Nat.le_of_ble_eq_true hb) hr
  rw [this,show (16384 : Int) - (r : Int)=((16384 - r : Nat) : Int) by omega]
  exact EH (by omega)
end Go.Ab
namespace Go.Ab
open Go.Proofs
set_option maxRecDepth 100000
theorem JF : mY 0 2048=true:=by decide +kernel
theorem JG : mY 2048 2048=true:=by decide +kernel
theorem JH : mY 4096 2048=true:=by decide +kernel
theorem JI : mY 6144 2048=true:=by decide +kernel
theorem JJ : mY 8192 2048=true:=by decide +kernel
theorem JK : mY 10240 2048=true:=by decide +kernel
theorem JL : mY 12288 2048=true:=by decide +kernel
theorem JM : mY 14336 2048=true:=by decide +kernel
theorem G0 {r : Nat} (h : r < 16384) : D4 r=true:=by
 by_cases c1 : r < 2048
 ·exact (show 0+r=r by omega) ▸ ie JF r c1
 by_cases c2 : r < 4096
 ·exact (show 2048+(r - 2048)=r by omega) ▸ ie JG (r - 2048) (by omega)
 by_cases c3 : r < 6144
 ·exact (show 4096+(r - 4096)=r by omega) ▸ ie JH (r - 4096) (by omega)
 by_cases c4 : r < 8192
 ·exact (show 6144+(r - 6144)=r by omega) ▸ ie JI (r - 6144) (by omega)
 by_cases c5 : r < 10240
 ·exact (show 8192+(r - 8192)=r by omega) ▸ ie JJ (r - 8192) (by omega)
 by_cases c6 : r < 12288
 ·exact (show 10240+(r - 10240)=r by omega) ▸ ie JK (r - 10240) (by omega)
 by_cases c7 : r < 14336
 ·exact (show 12288+(r - 12288)=r by omega) ▸ ie JL (r - 12288) (by omega)
 by_cases c8 : r < 16384
 ·exact (show 14336+(r - 14336)=r by omega) ▸ ie JM (r - 14336) (by omega)
 omega
theorem zu {r : Nat} (h : r < 16384) : 0≤(aH r).1∧(aH r).1≤(aH r).2∧(aH r).2≤65536∧(aH r).1≤(aH ((r+1 : Nat) : Int)).1∧(aH r).2≤(aH ((r+1 : Nat) : Int)).2:=by
 have:=G0 h
 simp only [D4,Bool.and_eq_true] at this
 have h1:=Nat.le_of_ble_eq_true this.1
 have h2:=Nat.le_of_ble_eq_true this.2.1
 have h3:=Nat.le_of_ble_eq_true this.2.2.1
 have h4:=Nat.le_of_ble_eq_true this.2.2.2
 rw [vB (r:=r) (by omega),vB (r:=r+1) (by omega)]
 simp only []
 omega
theorem BG : aH 16384=(65536,65536):=by decide +kernel
theorem AA : aH 0=(0,0):=by decide +kernel
theorem lu {r : Int} (h0 : 0≤r) (h : r≤16384) : 0≤(aH r).1∧(aH r).1≤(aH r).2∧(aH r).2≤65536:=by
 by_cases he : r=16384
 ·subst he;rw [BG];simp
 ·have:=zu (r:=r.toNat) (by omega)
  simp only [show ((r.toNat : Nat) : Int)=r by omega] at this
  omega
theorem tU (r : Nat) : ∀ k : Nat,r+k≤16384→(aH r).1≤(aH ((r+k : Nat) : Int)).1∧(aH r).2≤(aH ((r+k : Nat) : Int)).2
 |0,_=>⟨Int.le_refl _,Int.le_refl _⟩
 |k+1,h=>by
  have h1:=tU r k (by omega)
  have:=zu (r:=r+k) (by omega)
  rw [show r+(k+1)=r+k+1 by omega]
  omega
theorem xJ {a b : Int} (h0 : 0≤a) (h1 : a≤b) (h2 : b≤16384) : (aH a).1≤(aH b).1∧(aH a).2≤(aH b).2:=by
 have:=tU a.toNat (b - a).toNat (by omega)
 rw [show ((a.toNat+(b - a).toNat : Nat) : Int)=b by omega,show ((a.toNat : Nat) : Int)=a by omega] at this
 exact this
def sS (m : Int) : Iv:=if 0≤m then aH m else d9 (aH (-m))
theorem qA {r : Int} (h0 : 0≤r) (h : r≤16384) : d9 (aH r)=(-(aH r).2,-(aH r).1):=by
 have h1:=lu h0 h
 have : am (aH r).1 (aH r).2=true:=aT.2 (by omega)
 simp only [d9,this,if_true]
theorem BH {m : Int} (h0 : -16384≤m) (h1 : m≤16384) : -65536≤(sS m).1∧(sS m).1≤(sS m).2∧(sS m).2≤65536:=by
 unfold sS
 split
 ·have:=lu (r:=m) (by omega) (by omega);omega
 ·have:=lu (r:=-m) (by omega) (by omega)
  rw [qA (by omega) (by omega)]
  try simp only []
  omega
theorem wm {a b : Int} (h0 : -16384≤a) (h1 : a≤b) (h2 : b≤16384) : (sS a).1≤(sS b).1∧(sS a).2≤(sS b).2:=by
 unfold sS
 by_cases ha : 0≤a
 ·rw [if_pos ha,if_pos (by omega)]
  exact xJ ha h1 h2
 ·rw [if_neg ha]
  have r1:=lu (r:=-a) (by omega) (by omega)
  rw [qA (r:=-a) (by omega) (by omega)]
  by_cases hb : 0≤b
  ·rw [if_pos hb]
   have r2:=lu (r:=b) (by omega) (by omega)
   try simp only []
   omega
  ·rw [if_neg hb,qA (r:=-b) (by omega) (by omega)]
   have:=xJ (a:=-b) (b:=-a) (by omega) (by omega) (by omega)
   try simp only []
   omega
theorem qB {x k : Int} (h0 : -16384≤x - 65536 * k) (h1 : x - 65536 * k≤16384) : dU x=sS (x - 65536 * k):=by
 unfold dU sS
 by_cases hp : 0≤x - 65536 * k
 ·rw [if_pos hp,show x % 65536=x - 65536 * k by omega]
  generalize x - 65536 * k=d at *
  unfold jC
  by_cases he : d=16384
  ·subst he;rfl
  ·rw [if_pos (by omega),show d % 16384=d by omega]
 ·rw [if_neg hp,show x % 65536=x - 65536 * k+65536 by omega]
  generalize x - 65536 * k=d at *
  unfold jC
  rw [if_neg (by omega),if_neg (by omega),if_neg (by omega),show 16384 - (d+65536) % 16384=-d by omega]
theorem qC {x k : Int} (h0 : 16384≤x - 65536 * k) (h1 : x - 65536 * k≤49152) : dU x=sS (32768 - (x - 65536 * k)):=by
 unfold dU sS
 rw [show x % 65536=x - 65536 * k by omega]
 generalize x - 65536 * k=d at *
 unfold jC
 by_cases h : d < 32768
 ·rw [if_pos (show 0≤32768 - d by omega),if_neg (by omega),if_pos (by omega),show 16384 - d % 16384=32768 - d by omega]
 ·by_cases he : d=32768
  ·subst he
   show d9 (aH 0)=aH 0
   rw [AA];rfl
  ·rw [if_neg (show ¬ 0≤32768 - d by omega),show -(32768 - d)=d - 32768 by omega]
   by_cases hf : d=49152
   ·subst hf;rfl
   ·rw [if_neg (by omega),if_neg (by omega),if_pos (by omega),show d % 16384=d - 32768 by omega]
theorem zv (x : Int) : -65536≤(dU x).1∧(dU x).1≤(dU x).2∧(dU x).2≤65536:=by
 by_cases h : x - 65536 * ((x+16384) / 65536)≤16384
 ·rw [qB (k:=(x+16384) / 65536) (by omega) h]
  exact BH (by omega) (by omega)
 ·rw [qC (k:=(x+16384) / 65536) (by omega) (by omega)]
  exact BH (by omega) (by omega)
theorem FZ {lo x hi : Int} (h1 : lo≤x) (h2 : x≤hi) (hn : ∀ n,lo≤n→n≤hi→n % 65536≠16384) : (dU x).2≤max (dU lo).2 (dU hi).2:=by
 by_cases h : x - 65536 * ((x+16384) / 65536)≤16384
 ·have hp:=hn (65536 * ((x+16384) / 65536)+16384) (by omega)
  have hh : hi < 65536 * ((x+16384) / 65536)+16384:=by
   have : (65536 * ((x+16384) / 65536)+16384) % 65536=16384:=by omega
   by_cases hc : 65536 * ((x+16384) / 65536)+16384≤hi
   ·exact absurd this (hp hc)
   ·omega
  rw [qB (x:=x) (k:=(x+16384) / 65536) (by omega) h,qB (x:=hi) (k:=(x+16384) / 65536) (by omega) (by omega)]
  have:=wm (a:=x - 65536 * ((x+16384) / 65536)) (b:=hi - 65536 * ((x+16384) / 65536)) (by omega) (by omega) (by omega)
  omega
 ·have hp:=hn (65536 * ((x+16384) / 65536)+16384)
  have hh : 65536 * ((x+16384) / 65536)+16384 < lo:=by
   have : (65536 * ((x+16384) / 65536)+16384) % 65536=16384:=by omega
   by_cases hc : lo≤65536 * ((x+16384) / 65536)+16384
   ·exact absurd this (hp hc (by omega))
   ·omega
  rw [qC (x:=x) (k:=(x+16384) / 65536) (by omega) (by omega),qC (x:=lo) (k:=(x+16384) / 65536) (by omega) (by omega)]
  have:=wm (a:=32768 - (x - 65536 * ((x+16384) / 65536))) (b:=32768 - (lo - 65536 * ((x+16384) / 65536))) (by omega) (by omega) (by omega)
  omega
theorem F0 {lo x hi : Int} (h1 : lo≤x) (h2 : x≤hi) (hn : ∀ n,lo≤n→n≤hi→n % 65536≠49152) : min (dU lo).1 (dU hi).1≤(dU x).1:=by
 by_cases h : x - 65536 * ((x+16384) / 65536)≤16384
 ·have hp:=hn (65536 * ((x+16384) / 65536) - 16384)
  have hh : 65536 * ((x+16384) / 65536) - 16384 < lo:=by
   have : (65536 * ((x+16384) / 65536) - 16384) % 65536=49152:=by omega
   by_cases hc : lo≤65536 * ((x+16384) / 65536) - 16384
   ·exact absurd this (hp hc (by omega))
   ·omega
  rw [qB (x:=x) (k:=(x+16384) / 65536) (by omega) h,qB (x:=lo) (k:=(x+16384) / 65536) (by omega) (by omega)]
  have:=wm (a:=lo - 65536 * ((x+16384) / 65536)) (b:=x - 65536 * ((x+16384) / 65536)) (by omega) (by omega) (by omega)
  omega
 ·have hp:=hn (65536 * ((x+16384) / 65536)+49152) (by omega)
  have hh : hi < 65536 * ((x+16384) / 65536)+49152:=by
   have : (65536 * ((x+16384) / 65536)+49152) % 65536=49152:=by omega
   by_cases hc : 65536 * ((x+16384) / 65536)+49152≤hi
   ·exact absurd this (hp hc)
   ·omega
  rw [qC (x:=x) (k:=(x+16384) / 65536) (by omega) (by omega),qC (x:=hi) (k:=(x+16384) / 65536) (by omega) (by omega)]
  have:=wm (a:=32768 - (hi - 65536 * ((x+16384) / 65536))) (b:=32768 - (x - 65536 * ((x+16384) / 65536))) (by omega) (by omega) (by omega)
  omega
theorem uJ {a : Iv} {t n : Int} (ha : am a.1 a.2=true) (h1 : a.1≤n) (h2 : n≤a.2) (h : (n - t) % 65536=0) : du a t=true:=by
 simp only [du,ha,Bool.true_and,Bool.and_eq_true,decide_eq_true_eq]
 omega
theorem tV {a b : Iv} {t : Int} (h : SubI a b) (hm : du a t=true) : du b t=true:=by
 have:=h.all
 simp only [du,h.vx,Bool.true_and,Bool.and_eq_true,decide_eq_true_eq] at hm
 exact uJ (n:=a.1+(t - a.1) % 65536) h.vy (by omega) (by omega) (by omega)
theorem Hs : fU 65536=(65536,65536):=by decide
theorem F1 : fU (-65536)=(-65536,-65536):=by decide
section over
variable {v : Int→Iv} {c t u : Int}
theorem mZ {a : Iv} (ha : am a.1 a.2=true) (hw : a.2 - a.1 < 65536) : dQ a v t u=(let h1:=if du a t then br (br (v a.1) (v a.2)) (fU 65536) else br (v a.1) (v a.2);if du a u then br h1 (fU (-65536)) else h1):=by
 unfold dQ
 rw [if_neg (by simp [ha]),if_neg (by omega)]
theorem sK {a : Iv} (ha : am a.1 a.2=true) (hw : 65536≤a.2 - a.1) : dQ a v t u=(-65536,65536):=by
 unfold dQ
 rw [if_neg (by simp [ha]),if_pos hw]
theorem zw (hv : ∀ x,v x=dU (x+c)) (ht : (t+c - 16384) % 65536=0) (hu : (u+c - 49152) % 65536=0) {a : Iv} (ha : am a.1 a.2=true) {x : Int} (h1 : a.1≤x) (h2 : x≤a.2) : SubI (v x) (dQ a v t u):=by
 have r0 : ∀ x,-65536≤(v x).1∧(v x).1≤(v x).2∧(v x).2≤65536:=fun x=>by rw [hv];exact zv _
 have rx:=r0 x
 have ra:=r0 a.1
 have rb:=r0 a.2
 by_cases hw : 65536≤a.2 - a.1
 ·rw [sK ha hw]
  apply eY<;>(try simp only [])<;>omega
 ·have va : am (v a.1).1 (v a.1).2=true:=aT.2 (by omega)
  have vb : am (v a.2).1 (v a.2).2=true:=aT.2 (by omega)
  have hH : du a t=false→(v x).2≤max (v a.1).2 (v a.2).2:=fun hm=>by
   rw [hv,hv,hv]
   refine FZ (by omega) (by omega) fun n n1 n2 hn=>?_
   rw [uJ (n:=n - c) ha (by omega) (by omega) (by omega)] at hm
   cases hm
  have hL : du a u=false→min (v a.1).1 (v a.2).1≤(v x).1:=fun hm=>by
   rw [hv,hv,hv]
   refine F0 (by omega) (by omega) fun n n1 n2 hn=>?_
   rw [uJ (n:=n - c) ha (by omega) (by omega) (by omega)] at hm
   cases hm
  have hh : br (v a.1) (v a.2)=(min (v a.1).1 (v a.2).1,max (v a.1).2 (v a.2).2):=by simp only [br,va,vb,Bool.and_self,if_true]
  have vh : am (br (v a.1) (v a.2)).1 (br (v a.1) (v a.2)).2=true:=by rw [hh,aT];simp only [];omega
  have hP : br (br (v a.1) (v a.2)) (fU 65536)=(min (v a.1).1 (v a.2).1,65536):=by
   rw [Hs]
   unfold br at *
   simp only [va,vb,Bool.and_self,if_true] at vh ⊢
   rw [vh]
   simp only [show am 65536 65536=true from rfl,Bool.and_self,if_true]
   ext<;>(try simp only [])<;>omega
  rw [mZ ha (by omega)]
  try simp only []
  cases hm : du a t with
  |true=>
   simp only [if_true]
   rw [hP]
   cases hk : du a u with
   |true=>
    simp only [if_true]
    have : br (min (v a.1).1 (v a.2).1,65536) (fU (-65536))=(-65536,65536):=by
     rw [F1]
     have : am (min (v a.1).1 (v a.2).1) 65536=true:=aT.2 (by omega)
     simp only [br,this,show am (-65536) (-65536)=true from rfl,Bool.and_self,if_true]
     ext<;>(try simp only [])<;>omega
    rw [this]
    apply eY<;>(try simp only [])<;>omega
   |false=>
    have:=hL hk
    simp only [Bool.false_eq_true,if_false]
    apply eY<;>(try simp only [])<;>omega
  |false=>
   have h3:=hH hm
   simp only [Bool.false_eq_true,if_false]
   cases hk : du a u with
   |true=>
    simp only [if_true]
    have : br (br (v a.1) (v a.2)) (fU (-65536))=(-65536,max (v a.1).2 (v a.2).2):=by
     rw [F1,hh]
     have : am (min (v a.1).1 (v a.2).1) (max (v a.1).2 (v a.2).2)=true:=aT.2 (by omega)
     simp only [br,this,show am (-65536) (-65536)=true from rfl,Bool.and_self,if_true]
     ext<;>(try simp only [])<;>omega
    rw [this]
    apply eY<;>(try simp only [])<;>omega
   |false=>
    have:=hL hk
    simp only [Bool.false_eq_true,if_false]
    rw [hh]
    apply eY<;>(try simp only [])<;>omega
theorem xL (hv : ∀ x,v x=dU (x+c)) (ht : (t+c - 16384) % 65536=0) (hu : (u+c - 49152) % 65536=0) {a b : Iv} (h : SubI a b) : SubI (dQ a v t u) (dQ b v t u):=by
 have r0 : ∀ x,-65536≤(v x).1∧(v x).1≤(v x).2∧(v x).2≤65536:=fun x=>by rw [hv];exact zv _
 have hab:=h.all
 have vA : ∀ x,am (v x).1 (v x).2=true:=fun x=>aT.2 (by have:=r0 x;omega)
 have sF : ∀ x,SubI (v x) (-65536,65536):=fun x=>by have:=r0 x;apply eY<;>(try simp only [])<;>omega
 have sO : SubI (fU 65536) (-65536,65536):=by rw [Hs];apply eY<;>(try simp only [])<;>omega
 have sN : SubI (fU (-65536)) (-65536,65536):=by rw [F1];apply eY<;>(try simp only [])<;>omega
 by_cases hw : 65536≤b.2 - b.1
 ·rw [sK h.vy hw]
  by_cases hw' : 65536≤a.2 - a.1
  ·rw [sK h.vx hw'];exact SubI.refl rfl
  ·rw [mZ h.vx (by omega)]
   try simp only []
   have s1:=gw (sF a.1) (sF a.2)
   have s2:=gw s1 sO
   split
   ·split
    ·exact gw s2 sN
    ·exact gw s1 sN
   ·split
    ·exact s2
    ·exact s1
 ·have i1:=zw hv ht hu h.vy (x:=a.1) (by omega) (by omega)
  have i2:=zw hv ht hu h.vy (x:=a.2) (by omega) (by omega)
  have s1:=gw i1 i2
  have b1:=gw (sF b.1) (sF b.2)
  have b2:=gw b1 sO
  have sT : du a t=true→SubI (fU 65536) (dQ b v t u):=fun hm=>by
   rw [mZ h.vy (by omega)]
   simp only [tV h hm,if_true]
   have g:=uI b1.vx sO.vx
   split
   ·exact g.trans (ED b2.vx sN.vx)
   ·exact g
  have sU : du a u=true→SubI (fU (-65536)) (dQ b v t u):=fun hm=>by
   rw [mZ h.vy (by omega)]
   simp only [tV h hm,if_true]
   split
   ·exact uI b2.vx sN.vx
   ·exact uI b1.vx sN.vx
  rw [mZ h.vx (by omega)]
  try simp only []
  cases hm : du a t with
  |true=>
   have s2:=gw s1 (sT hm)
   simp only [if_true]
   split
   ·rename_i hk;exact gw s2 (sU hk)
   ·exact s2
  |false=>
   simp only [Bool.false_eq_true,if_false]
   split
   ·rename_i hk;exact gw s1 (sU hk)
   ·exact s1
end over
theorem Da {x y : Int} (h : (x - y) % 65536=0) : dU x=dU y:=by
 unfold dU
 rw [show x % 65536=y % 65536 by omega]
theorem Db {a b : Iv} (h : SubI a b) : SubI (kE a) (kE b):=xL (v:=dU) (c:=0) (fun x=>by rw [Int.add_zero]) (by decide) (by decide) h
theorem Dc {a b : Iv} (h : SubI a b) : SubI (kF a) (kF b):=xL (v:=mS) (c:=16384) (fun x=>by unfold mS;exact Da (by omega)) (by decide) (by decide) h
end Go.Ab
namespace Go.Ab
open Go.Proofs
structure Verd where
 kind : Int
 nor : List (Int × Int × Int)
 pair : Int
 left : List Int
 right : List Int
structure Cel where
 joint : Int
 low : Int
 high : Int
 v : Verd
structure Tr where
 root : List (Int × Int)
 cells : List Cel
abbrev aC (v : Int × Int × Int) : PV:=.val (.agg #[.int .i64 v.1,.int .i64 v.2.1,.int .i64 v.2.2])
abbrev aX (l : List (Int × Int × Int)) : PV:=.sl (l.map aC)
abbrev Kb (p : Int) (l r : List Int) : PV:=.agg [Z p,zs l,zs r]
abbrev rB (v : Verd) : PV:=.agg [Z v.kind,aX v.nor,Z v.pair,zs v.left,zs v.right]
abbrev jD (c : Cel) : PV:=.agg [Z c.joint,Z c.low,Z c.high,Z c.v.kind,aX c.v.nor,Z c.v.pair,zs c.v.left,zs c.v.right]
abbrev dV (t : Tr) : PV:=.agg [iv t.root,.sl (t.cells.map jD)]
def dI (c : Cel) : Bool:=c.joint==-1 && c.low==-1 && c.high==-1
def ki (p : Int) (l r : List Int) : Bool:=p==0 && (l.length : Int)==0 && (r.length : Int)==0
def dD (v : Verd) : Bool:=if v.kind=0∨v.kind=1 then ki v.pair v.left v.right else if v.kind=2 then ((v.nor.length : Int)==0) else false
def mn (v : Verd) : Bool:=v.kind==0 && ((v.nor.length : Int)==0) && ki v.pair v.left v.right
theorem yb {α : Type} (l : List α) : ((l.length : Int)==0)=decide (l.length=0):=by
 by_cases h : l.length=0
 ·simp [h]
 ·have : ((l.length : Int)==0)=false:=by simp;intro h';exact h (by rw [h'];rfl)
  rw [this];simp [h]
theorem B3 (c : Cel) : ab Tryz.prog 81 [.pv (jD c)] [] [] (.pv (B (dI c))):=by
 refine Dp Tryz.func81 ?_
 intro C hP hN
 simp only [Tryz.f81] at hN ⊢
 with_reducible repeat' (first|refine Sp.h ?_|((first|refine Ss.h ?_|(refine Sb.h ?_ ?_ ?_<;>(try intro hgd)<;>try exact Xy))<;>simp -implicitDefEqProofs (maxSteps:=2000000) [hP,hN])|refine X2 ?_ ?_|(refine Xd ?_ ?_<;>intro hcd<;>try exact Xx))
 all_goals (simp_all [dI])
theorem Gs (p : Int) (l r : List Int) : ab Tryz.prog 189 [.pv (Kb p l r)] [] [] (.pv (B (ki p l r))):=by
 refine Dp Tryz.func189 ?_
 intro C hP hN
 simp only [Tryz.f189] at hN ⊢
 with_reducible repeat' (first|refine Sp.h ?_|((first|refine Ss.h ?_|(refine Sb.h ?_ ?_ ?_<;>(try intro hgd)<;>try exact Xy))<;>simp -implicitDefEqProofs (maxSteps:=2000000) [hP,hN])|refine X2 ?_ ?_|(refine Xd ?_ ?_<;>intro hcd<;>try exact Xx))
 all_goals (simp_all [ki])
theorem HA (v : Verd) : ab Tryz.prog 82 [.pv (rB v)] [] [] (.pv (B (dD v))):=by
 have ce:=Gs v.pair v.left v.right
 have h0:=yb v.nor
 generalize hE : ki v.pair v.left v.right=E at ce
 refine Dp Tryz.func82 ?_
 intro C hP hN
 simp only [Tryz.f82] at hN ⊢
 with_reducible repeat' (first|refine Sp.h ?_|((first|refine Ss.h ?_|refine Sc.h (ce) ?_|(refine Sb.h ?_ ?_ ?_<;>(try intro hgd)<;>try exact Xy))<;>simp -implicitDefEqProofs (maxSteps:=2000000) [hP,hN])|refine X2 ?_ ?_|(refine Xd ?_ ?_<;>intro hcd<;>try exact Xx))
 all_goals (simp_all [dD])
theorem Kc (v : Verd) : ab Tryz.prog 201 [.pv (rB v)] [] [] (.pv (B (mn v))):=by
 have ce:=Gs v.pair v.left v.right
 generalize hE : ki v.pair v.left v.right=E at ce
 refine Dp Tryz.func201 ?_
 intro C hP hN
 simp only [Tryz.f201] at hN ⊢
 with_reducible repeat' (first|refine Sp.h ?_|((first|refine Ss.h ?_|refine Sc.h (ce) ?_|(refine Sb.h ?_ ?_ ?_<;>(try intro hgd)<;>try exact Xy))<;>simp -implicitDefEqProofs (maxSteps:=2000000) [hP,hN])|refine X2 ?_ ?_|(refine Xd ?_ ?_<;>intro hcd<;>try exact Xx))
 all_goals (simp_all [mn])
def dl (r : List (Int × Int)) : Bool:=decide (1≤r.length) && decide (r.length≤10) && de vI r
theorem Kd (r : List (Int × Int)) : ab Tryz.prog 200 [.pv (iv r)] [] [] (.pv (B (dl r))):=by
 by_cases h1 : r.length < 1
 ·have hr : dl r=false:=by simp [dl];omega
  have h1' : (r.length : Int) < 1:=by omega
  rw [hr]
  refine Dp Tryz.func200 ?_
  intro C hP hN
  simp only [Tryz.f200] at hN ⊢
  with_reducible repeat' (first|refine Sp.h ?_|((first|refine Ss.h ?_|(refine Sb.h ?_ ?_ ?_<;>(try intro hgd)<;>try exact Xy))<;>simp -implicitDefEqProofs (maxSteps:=2000000) [hP,hN,h1',h1])|refine X2 ?_ ?_|(refine Xd ?_ ?_<;>intro hcd<;>try exact Xx))
 have h1' : ¬ (r.length : Int) < 1:=by omega
 by_cases h2 : 10 < r.length
 ·have hr : dl r=false:=by simp [dl];omega
  have h2' : (10 : Int) < r.length:=by omega
  rw [hr]
  refine Dp Tryz.func200 ?_
  intro C hP hN
  simp only [Tryz.f200] at hN ⊢
  with_reducible repeat' (first|refine Sp.h ?_|((first|refine Ss.h ?_|(refine Sb.h ?_ ?_ ?_<;>(try intro hgd)<;>try exact Xy))<;>simp -implicitDefEqProofs (maxSteps:=2000000) [hP,hN,h1',h1,h2,h2'])|refine X2 ?_ ?_|(refine Xd ?_ ?_<;>intro hcd<;>try exact Xx))
 have h2' : ¬ (10 : Int) < r.length:=by omega
 have hr : dl r=de vI r:=by
  unfold dl
  have a1 : decide (1≤r.length)=true:=by simp;omega
  have a2 : decide (r.length≤10)=true:=by simp;omega
  rw [a1,a2];simp
 rw [hr]
 refine Dp Tryz.func200 ?_
 intro C hP hN
 simp only [Tryz.f200] at hN ⊢
 with_reducible repeat' (first|refine Sp.h ?_|((first|refine Ss.h ?_|(refine Sb.h ?_ ?_ ?_<;>(try intro hgd)<;>try exact Xy))<;>simp -implicitDefEqProofs (maxSteps:=2000000) [hP,hN,h1',h1,h2,h2'])|refine X2 ?_ ?_|(refine Xd ?_ ?_<;>intro hcd<;>try exact Xx))
 refine WP.loopN [4] r.length (fun i st=>st.t 13=.pv (iv r)∧st.t 14=.pv (Z r.length)∧st.t 15=.pv (Z i)∧st.h 4=none∧de vI (r.take i)=true) (by simp [de]) ?_
 rintro i st hi ⟨g13,g14,g15,hb,hq⟩
 by_cases hlt : i < r.length
 ·have hw:=aw hlt (by omega)
  have hF : vI r[i]=false→de vI r=false:=qe hlt
  have hS : vI r[i]=true→de vI (r.take (i+1))=true:=si hlt hq
  with_reducible repeat' (first|refine Sp.h ?_|((first|refine Ss.h ?_|refine Sc.h (gt _ _) ?_|(refine Sb.h ?_ ?_ ?_<;>(try intro hgd)<;>try exact Xy))<;>simp -implicitDefEqProofs (maxSteps:=2000000) [hP,hN,g13,g14,g15,hb,hlt,hw])|refine X2 ?_ ?_|(refine Xd ?_ ?_<;>intro hcd<;>try exact Xx))
  all_goals first|(rw [hF (by simpa using hcd)];done)|(simp [hF (by simpa using hcd)];done)|(simpa using hS (by simpa using hcd))
 ·skip
  with_reducible repeat' (first|refine Sp.h ?_|((first|refine Ss.h ?_|(refine Sb.h ?_ ?_ ?_<;>(try intro hgd)<;>try exact Xy))<;>simp -implicitDefEqProofs (maxSteps:=2000000) [hP,hN,g13,g14,g15,hb,hlt])|refine X2 ?_ ?_|(refine Xd ?_ ?_<;>intro hcd<;>try exact Xx))
  all_goals simp [sj hlt hq]
end Go.Ab
namespace Go.Ab
open Go.Proofs
theorem fX {α : Type} {p : α→Bool} {xs : List α} : de p xs=true↔∀ x ∈ xs,p x=true:=List.all_eq_true
abbrev Bx:=List (Int × Int)
abbrev OL:=List (Option Bx)
def nV : Option Bx→PV
 |none=>.val (.slice none 0 0)
 |some b=>iv b
def gM (n i : Nat) (c : Cel) : Bool:=decide ((i : Int) < c.low) && decide (c.low < n) && decide ((i : Int) < c.high) && decide (c.high < n) && decide (c.low≠c.high) && mn c.v
def ff (n i : Nat) (c : Cel) (L : OL) : Option OL:=
 match L[i]? with
 |some (some b)=>
  if dI c then (if dD c.v then some L else none)
  else if gM n i c then
   if bB b c.joint then
    match L[c.low.toNat]?,L[c.high.toNat]? with
    |some none,some none=>some ((L.set c.low.toNat (some (bu b c.joint))).set c.high.toNat (some (bF b c.joint)))
    |_,_=>none
   else none
  else none
 |_=>none
def jd (n : Nat) : List Cel→Nat→OL→Option OL
 |[],_,L=>some L
 |c :: cs,i,L=>match ff n i c L with
  |some L'=>jd n cs (i+1) L'
  |none=>none
def iw (t : Tr) : OL:=some t.root :: List.replicate (t.cells.length - 1) none
def eW (t : Tr) : Bool:=decide (1≤t.cells.length) && decide (t.cells.length≤2048) && dl t.root
def cw (t : Tr) : Option OL:=if eW t then jd t.cells.length t.cells 0 (iw t) else none
def aV (t : Tr) : Bool:=(cw t).isSome
def aM (t : Tr) : List Bx:=match cw t with
 |some L=>L.map fun x=>x.getD []
 |none=>[]
theorem i7 {n i : Nat} {c : Cel} {L L' : OL} (h : ff n i c L=some L') : ∃ b,L[i]?=some (some b)∧
 ((dI c=true∧dD c.v=true∧L'=L)∨
  (dI c=false∧gM n i c=true∧bB b c.joint=true∧L[c.low.toNat]?=some none∧L[c.high.toNat]?=some none∧
    L'=(L.set c.low.toNat (some (bu b c.joint))).set c.high.toNat (some (bF b c.joint)))):=by
 unfold ff at h
 split at h
 ·rename_i b hb
  refine ⟨b,hb,?_⟩
  split at h
  ·rename_i hl
   split at h
   ·rename_i hf
    injection h with h
    exact .inl ⟨hl,hf,h.symm⟩
   ·cases h
  ·rename_i hl
   split at h
   ·rename_i hi
    split at h
    ·rename_i hh
     split at h
     ·rename_i h1 h2
      injection h with h
      exact .inr ⟨by simpa using hl,hi,hh,h1,h2,h.symm⟩
     ·cases h
    ·cases h
   ·cases h
 ·cases h
theorem fg {n i : Nat} {c : Cel} : gM n i c=true↔(i : Int) < c.low∧c.low < n∧(i : Int) < c.high∧c.high < n∧c.low≠c.high∧mn c.v=true:=by
 simp [gM,and_assoc]
theorem yc {n : Nat} {P : Nat→OL→Prop} : ∀ (cs : List Cel) (i : Nat) (L L' : OL),jd n cs i L=some L'→P i L→
 (∀ k c L L',cs[k]?=some c→P (i+k) L→ff n (i+k) c L=some L'→P (i+k+1) L')→P (i+cs.length) L'
 |[],i,L,L',h,h0,_=>by simp [jd] at h;subst h;exact h0
 |c :: cs,i,L,L',h,h0,hs=>by
  simp only [jd] at h
  split at h
  ·rename_i L1 h1
   have h2:=hs 0 c L L1 rfl h0 h1
   have:=yc cs (i+1) L1 L' h h2 (fun k d M M' hk hp hm=>by
    have e : i+1+k=i+(k+1):=by omega
    rw [e] at hp hm ⊢
    exact hs (k+1) d M M' (by simpa using hk) hp hm)
   have e : i+(c :: cs).length=i+1+cs.length:=by simp;omega
   rw [e];exact this
  ·cases h
theorem ly {t : Tr} {L : OL} {P : Nat→OL→Prop} (h : cw t=some L) (h0 : P 0 (iw t))
 (hs : ∀ i c L L',t.cells[i]?=some c→P i L→ff t.cells.length i c L=some L'→P (i+1) L') : P t.cells.length L:=by
 unfold cw at h
 split at h
 ·have:=yc t.cells 0 _ _ h h0 (fun k c M M' hk hp hm=>by
   rw [Nat.zero_add] at hp hm ⊢;exact hs k c M M' hk hp hm)
  simpa using this
 ·cases h
theorem k9 {t : Tr} {L : OL} (h : cw t=some L) : eW t=true:=by
 unfold cw at h
 split at h
 ·assumption
 ·cases h
theorem eh {t : Tr} : eW t=true↔1≤t.cells.length∧t.cells.length≤2048∧1≤t.root.length∧t.root.length≤10∧de vI t.root=true:=by
 simp [eW,dl,and_assoc]
structure BOk (t : Tr) (i : Nat) (L : OL) : Prop where
 len : L.length=t.cells.length
 pre : ∀ j,j < i→∃ b,L[j]?=some (some b)
 ok : ∀ (j : Nat) b,L[j]?=some (some b)→b.length=t.root.length∧de vI b=true
theorem qJ {b : Bx} {j : Int} (h : bB b j=true) : (bu b j).length=b.length∧(bF b j).length=b.length:=by
 unfold bu bF
 rw [h]
 simp only [if_true]
 unfold bB at h
 split<;>simp_all
theorem fF {lo hi : Int} : am lo hi=true↔-2147483648≤lo∧lo≤hi∧hi≤2147483648:=by
 simp [am,and_assoc]
theorem zJ {x : Int × Int} (h : am x.1 x.2=true) : lI x=(x.1+x.2) / 2:=by
 unfold lI
 have h':=fF.1 h
 rw [h,if_pos rfl,show wr (x.1+x.2)=x.1+x.2 from aa (by omega) (by omega),Int.fdiv_eq_ediv]
 simp
theorem m9 {b : Bx} {j : Int} : bB b j=true↔0≤j∧de vI b=true∧∃ x,b[j.toNat]?=some x∧2≤x.2 - x.1:=by
 unfold bB
 constructor
 ·intro h
  simp only [Bool.and_eq_true,decide_eq_true_eq] at h
  obtain ⟨⟨h1,h2⟩,h3⟩:=h
  refine ⟨h1,h2,?_⟩
  split at h3
  ·rename_i x hx
   refine ⟨x,hx,?_⟩
   have hv:=fF.1 (fX.1 h2 _ (List.mem_of_getElem? hx))
   rw [decide_eq_true_eq,mM,if_pos (fX.1 h2 _ (List.mem_of_getElem? hx)),show wr (x.2 - x.1)=x.2 - x.1 from aa (by omega) (by omega)] at h3
   exact h3
  ·cases h3
 ·rintro ⟨h1,h2,x,hx,h3⟩
  have hv:=fF.1 (fX.1 h2 _ (List.mem_of_getElem? hx))
  have hw : mM x=x.2 - x.1:=by
   rw [mM,if_pos (fX.1 h2 _ (List.mem_of_getElem? hx))]
   exact aa (by omega) (by omega)
  simp [h1,h2,hx,hw,h3]
theorem sQ {b : Bx} {j : Int} (h : bB b j=true) : ∃ x,b[j.toNat]?=some x∧am x.1 x.2=true∧2≤x.2 - x.1∧bu b j=b.set j.toNat (x.1,(x.1+x.2) / 2)∧bF b j=b.set j.toNat ((x.1+x.2) / 2,x.2):=by
 obtain ⟨_,h2,x,hx,h3⟩:=m9.1 h
 have hv : am x.1 x.2=true:=fX.1 h2 _ (List.mem_of_getElem? hx)
 refine ⟨x,hx,hv,h3,?_,?_⟩
 ·simp [bu,h,hx,zJ hv]
 ·simp [bF,h,hx,zJ hv]
theorem nW {b : Bx} {j : Int} (h : bB b j=true) : de vI (bu b j)=true∧de vI (bF b j)=true:=by
 obtain ⟨x,hx,hv,h3,ea,ez⟩:=sQ h
 have h2:=(m9.1 h).2.1
 have hv':=fF.1 hv
 rw [ea,ez]
 constructor<;>refine fX.2 fun y hy=>?_
 ·rcases List.mem_or_eq_of_mem_set hy with h|rfl
  ·exact fX.1 h2 _ h
  ·exact fF.2 ⟨by omega,by simp only;omega,by simp only;omega⟩
 ·rcases List.mem_or_eq_of_mem_set hy with h|rfl
  ·exact fX.1 h2 _ h
  ·exact fF.2 ⟨by simp only;omega,by simp only;omega,by omega⟩
theorem ph {t : Tr} (h : eW t=true) : BOk t 0 (iw t):=by
 obtain ⟨h1,h2,h3,h4,h5⟩:=eh.1 h
 refine ⟨by simp [iw];omega,fun j hj=>by omega,fun j b hb=>?_⟩
 cases j with
 |zero=>simp [iw] at hb;subst hb;exact ⟨rfl,h5⟩
 |succ j=>simp [iw,List.getElem?_replicate] at hb
theorem DC {L : OL} {a z : Nat} {x y : Option Bx} {j : Nat} (hne : a≠z) (ha : a < L.length) (hz : z < L.length) : ((L.set a x).set z y)[j]?=if j=z then some y else if j=a then some x else L[j]?:=by
 rw [List.getElem?_set]
 by_cases h1 : z=j
 ·subst h1;simp [hz]
 ·rw [if_neg h1,if_neg (fun h=>h1 h.symm),List.getElem?_set]
  by_cases h2 : a=j
  ·subst h2;simp [ha]
  ·rw [if_neg h2,if_neg (fun h=>h2 h.symm)]
theorem nc {t : Tr} {i : Nat} {c : Cel} {L : OL} {x y : Option Bx} {j : Nat} (hl : L.length=t.cells.length) (hi : gM t.cells.length i c=true) : ((L.set c.low.toNat x).set c.high.toNat y)[j]?=if j=c.high.toNat then some y else if j=c.low.toNat then some x else L[j]?:=by
 obtain ⟨h1,h2,h3,h4,h5,_⟩:=fg.1 hi
 exact DC (by omega) (by omega) (by omega)
theorem pi {t : Tr} {i : Nat} {c : Cel} {L L' : OL} (h : BOk t i L) (hs : ff t.cells.length i c L=some L') : BOk t (i+1) L':=by
 obtain ⟨b,hb,⟨_,_,rfl⟩|⟨_,hi,hh,hlo,hhi,rfl⟩⟩:=i7 hs
 ·refine ⟨h.len,fun j hj=>?_,h.ok⟩
  by_cases e : j=i
  ·subst e;exact ⟨b,hb⟩
  ·exact h.pre j (by omega)
 ·have hbo:=h.ok i b hb
  refine ⟨by simpa using h.len,fun j hj=>?_,fun j d hd=>?_⟩
  ·rw [nc h.len hi]
   split
   ·exact ⟨_,rfl⟩
   ·split
    ·exact ⟨_,rfl⟩
    ·by_cases e : j=i
     ·subst e;exact ⟨b,hb⟩
     ·exact h.pre j (by omega)
  ·rw [nc h.len hi] at hd
   split at hd
   ·injection hd with hd;injection hd with hd;subst hd
    exact ⟨by rw [(qJ hh).2];exact hbo.1,(nW hh).2⟩
   ·split at hd
    ·injection hd with hd;injection hd with hd;subst hd
     exact ⟨by rw [(qJ hh).1];exact hbo.1,(nW hh).1⟩
    ·exact h.ok j d hd
structure BInv (t : Tr) (i : Nat) (L : OL) : Prop where
 bok : BOk t i L
 run : jd t.cells.length (t.cells.drop i) i L=cw t
theorem B4 {t : Tr} (h : eW t=true) : BInv t 0 (iw t):=⟨ph h,by simp [cw,h]⟩
theorem vM {t : Tr} {i : Nat} {L L' : OL} (h : BInv t i L) (hlt : i < t.cells.length) (hs : ff t.cells.length i t.cells[i] L=some L') : BInv t (i+1) L':=by
 refine ⟨pi h.bok hs,?_⟩
 rw [← h.run,List.drop_eq_getElem_cons hlt]
 simp only [jd,hs]
theorem B5 {t : Tr} {i : Nat} {L : OL} (h : BInv t i L) (hlt : i < t.cells.length) (hs : ff t.cells.length i t.cells[i] L=none) : cw t=none:=by
 rw [← h.run,List.drop_eq_getElem_cons hlt]
 simp only [jd,hs]
theorem B6 {t : Tr} {i : Nat} {L : OL} (h : BInv t i L) (hlt : ¬ i < t.cells.length) : cw t=some L:=by
 rw [← h.run,List.drop_eq_nil_of_le (by omega)]
 rfl
theorem lA {t : Tr} {L : OL} (h : cw t=some L) : BOk t t.cells.length L:=
 ly h (ph (k9 h)) (fun _ _ _ _ _ hp hm=>pi hp hm)
theorem go {t : Tr} {L : OL} (h : cw t=some L) : L=(aM t).map some:=by
 have ok:=lA h
 rw [aM,h]
 simp only [List.map_map]
 apply List.ext_getElem?;intro j
 by_cases hj : j < L.length
 ·obtain ⟨b,hb⟩:=ok.pre j (by rw [← ok.len];exact hj)
  simp [hb]
 ·simp [List.getElem?_eq_none (by omega : L.length≤j)]
theorem DD {t : Tr} {L : OL} (h : cw t=some L) : L.map nV=(aM t).map iv:=by
 rw [go h]
 simp [nV,Function.comp_def]
theorem kj {t : Tr} (h : aV t=true) : (aM t).length=t.cells.length:=by
 obtain ⟨L,hL⟩:=Option.isSome_iff_exists.1 h
 have:=(lA hL).len
 rw [go hL] at this
 simpa using this
theorem B7 {t : Tr} {j : Nat} {b : Bx} (hb : (aM t)[j]?=some b) : b.length=t.root.length∧de vI b=true:=by
 cases hL : cw t with
 |none=>simp [aM,hL] at hb
 |some L=>
  have:=(lA hL).ok j b
  rw [go hL] at this
  exact this (by simp [hb])
theorem gp {t : Tr} (h : aV t=true) : eW t=true:=by
 obtain ⟨L,hL⟩:=Option.isSome_iff_exists.1 h
 exact k9 hL
theorem vN {t : Tr} (h : cw t=none) : aV t=false∧aM t=[]:=by simp [aV,aM,h]
theorem jL {t : Tr} {i : Nat} {L : OL} {b : Bx} {c : Cel} {n : Nat} (hb : L[i]?=some (some b)) (hl : dI c=true) : ff n i c L=if dD c.v then some L else none:=by
 simp [ff,hb,hl]
theorem pj {i : Nat} {L : OL} {b : Bx} {c : Cel} {n : Nat} (hb : L[i]?=some (some b)) (hl : dI c=false) (hi : gM n i c=true) (hh : bB b c.joint=true) (h1 : L[c.low.toNat]?=some none) (h2 : L[c.high.toNat]?=some none) : ff n i c L=some ((L.set c.low.toNat (some (bu b c.joint))).set c.high.toNat (some (bF b c.joint))):=by
 simp [ff,hb,hl,hi,hh,h1,h2]
theorem pm {i : Nat} {L : OL} {b : Bx} {c : Cel} {n : Nat} (hb : L[i]?=some (some b)) (hl : dI c=false) (h : gM n i c=false∨bB b c.joint=false∨(∃ d,L[c.low.toNat]?=some (some d))∨(∃ d,L[c.high.toNat]?=some (some d))) : ff n i c L=none:=by
 unfold ff
 rw [hb]
 simp only [hl,Bool.false_eq_true,if_false]
 split
 ·rename_i hi
  split
  ·rename_i hh
   rcases h with h|h|⟨d,h⟩|⟨d,h⟩
   ·rw [hi] at h;cases h
   ·rw [hh] at h;cases h
   ·rw [h]
   ·rw [h];split
    ·rename_i e1 e2;cases e2
    ·rfl
  ·rfl
 ·rfl
end Go.Ab
namespace Go.Ab
open Go.Proofs
def dh : Verd:=⟨0,[],0,[],[]⟩
def aE (v : Verd) : Cel:=⟨-1,-1,-1,v⟩
theorem DE {c : Cel} (h : dI c=true) : c=aE c.v:=by
 cases c;simp [dI] at h;simp [aE,h]
theorem mo (v : Verd) : dI (aE v)=true:=by simp [dI,aE]
theorem AT : mn dh=true:=by simp [mn,dh,ki]
theorem AU : dD dh=true:=by simp [dD,dh,ki]
theorem kl {n i : Nat} {c : Cel} {L L' : OL} (h : ff n i c L=some L') {j : Nat} {b : Bx} (hb : L[j]?=some (some b)) : L'[j]?=some (some b):=by
 obtain ⟨d,hd,⟨_,_,rfl⟩|⟨_,hi,hh,hlo,hhi,rfl⟩⟩:=i7 h
 ·exact hb
 ·have h1 : c.low.toNat≠j:=by intro e;rw [e,hb] at hlo;cases hlo
  have h2 : c.high.toNat≠j:=by intro e;rw [e,hb] at hhi;cases hhi
  rw [List.getElem?_set,if_neg h2,List.getElem?_set,if_neg h1];exact hb
theorem vO {n i k : Nat} {c : Cel} {L L' S : OL} (hl : L.length=n) (hk : S.length=k) (h : ff n i c L=some L') : ff (n+k) i c (L++S)=some (L'++S):=by
 obtain ⟨d,hd,⟨h1,h2,rfl⟩|⟨h1,hi,hh,hlo,hhi,rfl⟩⟩:=i7 h
 ·have hlt : i < L'.length:=(List.getElem?_eq_some_iff.1 hd).1
  have : (L'++S)[i]?=some (some d):=by rw [List.getElem?_append_left hlt];exact hd
  simp [ff,this,h1,h2]
 ·have hlt : i < L.length:=(List.getElem?_eq_some_iff.1 hd).1
  have l1 : c.low.toNat < L.length:=(List.getElem?_eq_some_iff.1 hlo).1
  have l2 : c.high.toNat < L.length:=(List.getElem?_eq_some_iff.1 hhi).1
  have e1 : (L++S)[i]?=some (some d):=by rw [List.getElem?_append_left hlt];exact hd
  have e2 : (L++S)[c.low.toNat]?=some none:=by rw [List.getElem?_append_left l1];exact hlo
  have e3 : (L++S)[c.high.toNat]?=some none:=by rw [List.getElem?_append_left l2];exact hhi
  have hi' : gM (n+k) i c=true:=by
   obtain ⟨a1,a2,a3,a4,a5,a6⟩:=fg.1 hi
   exact fg.2 ⟨a1,by omega,a3,by omega,a5,a6⟩
  rw [pj e1 h1 hi' hh e2 e3,List.set_append_left _ _ l1,List.set_append_left _ _ (by simpa using l2)]
def ik (t : Tr) (i : Nat) (j : Int) (v : Verd) : Tr:=⟨t.root,t.cells.set i ⟨j,t.cells.length,t.cells.length+1,dh⟩++[aE v,aE v]⟩
theorem pn (t : Tr) (i : Nat) (j : Int) (v : Verd) : (ik t i j v).cells.length=t.cells.length+2:=by simp [ik]
theorem qK {n i : Nat} {cs : List Cel} {c : Cel} {L L' : OL} (hc : cs[i]?=some c) (h : ff n i c L=some L') : jd n (cs.drop i) i L=jd n (cs.drop (i+1)) (i+1) L':=by
 obtain ⟨hlt,hc⟩:=List.getElem?_eq_some_iff.1 hc
 rw [List.drop_eq_getElem_cons hlt,hc]
 simp only [jd,h]
theorem B8 {t : Tr} {L : OL} (h : cw t=some L) {i : Nat} {c : Cel} (hc : t.cells[i]?=some c) (hl : dI c=true) : dD c.v=true:=by
 have hp:=ly (P:=fun k _=>i < k→dD c.v=true) h (by intro h;omega) (fun k d M M' hk hp hm hi=>by
  by_cases e : k=i
  ·subst e
   rw [hc] at hk;injection hk with hk;subst hk
   obtain ⟨b,hb,⟨_,h2,_⟩|⟨h1,_⟩⟩:=i7 hm
   ·exact h2
   ·rw [hl] at h1;cases h1
  ·exact hp (by omega))
 exact hp (List.getElem?_eq_some_iff.1 hc).1
theorem rZ {t : Tr} {L : OL} (h : cw t=some L) {i : Nat} {j : Int} {c : Cel} {b : Bx} (hc : t.cells[i]?=some c) (hl : dI c=true) (hn : t.cells.length+2≤2048) (hb : L[i]?=some (some b)) (hh : bB b j=true) :
 cw (ik t i j c.v)=some (L++[some (bu b j),some (bF b j)]):=by
 have hsz:=k9 h
 obtain ⟨z1,z2,z3,z4,z5⟩:=eh.1 hsz
 have hilt : i < t.cells.length:=(List.getElem?_eq_some_iff.1 hc).1
 have hlen:=pn t i j c.v
 have hf:=B8 h hc hl
 generalize hT : ik t i j c.v=T at *
 have hTr : T.root=t.root:=by rw [← hT];rfl
 have hTc : ∀ k,k≠i→k < t.cells.length→T.cells[k]?=t.cells[k]?:=by
  intro k hk hlt
  rw [← hT];simp only [ik]
  rw [List.getElem?_append_left (by simpa using hlt),List.getElem?_set,if_neg (fun e=>hk e.symm)]
 have hTi : T.cells[i]?=some ⟨j,t.cells.length,t.cells.length+1,dh⟩:=by
  rw [← hT];simp only [ik]
  rw [List.getElem?_append_left (by simpa using hilt),List.getElem?_set,if_pos rfl,if_pos hilt]
 have hTs : eW T=true:=eh.2 ⟨by omega,by omega,by rw [hTr];omega,by rw [hTr];omega,by rw [hTr];exact z5⟩
 have hP:=ly (P:=fun k M=>BOk t k M∧if k≤i then jd (t.cells.length+2) (T.cells.drop k) k (M++[none,none])=cw T
  else ∃ d,M[i]?=some (some d)∧(bB d j=true→jd (t.cells.length+2) (T.cells.drop k) k (M++[some (bu d j),some (bF d j)])=cw T)) h (by
  refine ⟨ph hsz,?_⟩
  simp only [Nat.zero_le,if_true]
  rw [cw,if_pos hTs,hlen,List.drop_zero]
  congr 1
  simp only [iw,hTr,hlen,List.cons_append]
  rw [show t.cells.length+2 - 1=(t.cells.length - 1)+2 by omega,← List.replicate_append_replicate];rfl) (by
  intro k e M M' hk hp hm
  obtain ⟨hbo,hp⟩:=hp
  refine ⟨pi hbo hm,?_⟩
  have hklt : k < t.cells.length:=(List.getElem?_eq_some_iff.1 hk).1
  rcases Nat.lt_trichotomy k i with hki|hki|hki
  ·rw [if_pos (by omega)] at hp ⊢
   rw [← hp]
   exact (qK (by rw [hTc k (by omega) hklt];exact hk) (vO (k:=2) (S:=[none,none]) hbo.len rfl hm)).symm
  ·subst hki
   rw [hc] at hk;injection hk with hk;subst hk
   rw [if_pos (Nat.le_refl _)] at hp
   rw [if_neg (by omega)]
   obtain ⟨d,hd,⟨_,_,rfl⟩|⟨h1,_⟩⟩:=i7 hm
   ·refine ⟨d,hd,fun hok=>?_⟩
    rw [← hp]
    refine (qK hTi ?_).symm
    have e1 : (M'++[none,none])[k]?=some (some d):=by rw [List.getElem?_append_left (by rw [hbo.len];exact hilt)];exact hd
    have hi' : gM (t.cells.length+2) k ⟨j,t.cells.length,t.cells.length+1,dh⟩=true:=fg.2 ⟨by simp only;omega,by simp only;omega,by simp only;omega,by simp only;omega,by simp only;omega,AT⟩
    have t1 : ((t.cells.length : Int)).toNat=M'.length:=by rw [hbo.len];omega
    have t2 : ((t.cells.length : Int)+1).toNat=M'.length+1:=by rw [hbo.len];omega
    rw [pj e1 (by simp [dI]) hi' hok (by simp only;rw [t1];simp) (by simp only;rw [t2];simp)]
    simp only [t1,t2]
    congr 1
    rw [List.set_append_right _ _ (by omega),List.set_append_right _ _ (by omega)]
    simp
   ·rw [hl] at h1;cases h1
  ·rw [if_neg (by omega)] at hp ⊢
   obtain ⟨d,hd,hp⟩:=hp
   refine ⟨d,kl hm hd,fun hok=>?_⟩
   rw [← hp hok]
   exact (qK (by rw [hTc k (by omega) hklt];exact hk) (vO (k:=2) (S:=[some (bu d j),some (bF d j)]) hbo.len rfl hm)).symm)
 obtain ⟨hbo,hP⟩:=hP
 rw [if_neg (by omega)] at hP
 obtain ⟨d,hd,hP⟩:=hP
 rw [hb] at hd;injection hd with hd;injection hd with hd;subst hd
 rw [← hP hh]
 have hdrop : T.cells.drop t.cells.length=[aE c.v,aE c.v]:=by
  rw [← hT];simp only [ik]
  rw [List.drop_append_of_le_length (by simp),List.drop_eq_nil_of_le (by simp)];rfl
 rw [hdrop]
 have e1 : (L++[some (bu b j),some (bF b j)])[t.cells.length]?=some (some (bu b j)):=by rw [← hbo.len];simp
 have e2 : (L++[some (bu b j),some (bF b j)])[t.cells.length+1]?=some (some (bF b j)):=by rw [← hbo.len];simp
 simp only [jd]
 rw [jL (t:=t) e1 (mo _),if_pos (show dD (aE c.v).v=true from hf)]
 simp only
 rw [jL (t:=t) e2 (mo _),if_pos (show dD (aE c.v).v=true from hf)]
def uS (t : Tr) (i : Nat) (v : Verd) : Tr:=⟨t.root,t.cells.set i (aE v)⟩
def dY (t : Tr) (i : Nat) : Bool:=match t.cells[i]? with
 |some c=>dI c
 |none=>false
def dS (t : Tr) (n : Nat) : List Nat:=(List.range n).filter (dY t)
def bK (t : Tr) : List Nat:=if aV t then dS t t.cells.length else []
theorem qL (t : Tr) (n : Nat) : dS t (n+1)=if dY t n then dS t n++[n] else dS t n:=by
 simp only [dS,List.range_succ,List.filter_append]
 cases h : dY t n<;>simp [h]
theorem yQ (t : Tr) (n : Nat) : (dS t n).length≤n:=by
 have:=List.length_filter_le (dY t) (List.range n)
 simpa [dS] using this
theorem yR {t : Tr} {i : Nat} : i ∈ bK t↔aV t=true∧∃ c,t.cells[i]?=some c∧dI c=true:=by
 unfold bK
 cases hv : aV t with
 |false=>simp
 |true=>
  simp only [if_true,true_and,dS,List.mem_filter,List.mem_range,dY]
  constructor
  ·rintro ⟨h1,h2⟩
   rw [List.getElem?_eq_getElem h1] at h2
   exact ⟨_,List.getElem?_eq_getElem h1,h2⟩
  ·rintro ⟨c,hc,hl⟩
   refine ⟨(List.getElem?_eq_some_iff.1 hc).1,by rw [hc];exact hl⟩
def dx (t : Tr) (i j : Int) : Bool:=aV t && decide (0≤i) && decide (i < t.cells.length) && dY t i.toNat && decide (t.cells.length+2≤2048) && bB ((aM t)[i.toNat]?.getD []) j
def yd (t : Tr) (i : Nat) : Verd:=match t.cells[i]? with
 |some c=>c.v
 |none=>dh
def bw (t : Tr) (i j : Int) : Tr:=if dx t i j then ik t i.toNat j (yd t i.toNat) else t
def cD (t : Tr) (i : Int) (v : Verd) : Bool:=aV t && decide (0≤i) && decide (i < t.cells.length) && dY t i.toNat && decide ((yd t i.toNat).kind=0) && dD v
def kM (t : Tr) (i : Int) (v : Verd) : Tr:=if cD t i v then uS t i.toNat v else t
theorem qM {t : Tr} {i : Nat} (h : dY t i=true) : ∃ c,t.cells[i]?=some c∧dI c=true∧yd t i=c.v:=by
 unfold dY at h
 split at h
 ·rename_i c hc
  exact ⟨c,hc,h,by simp [yd,hc]⟩
 ·cases h
theorem yS {t : Tr} (h : aV t=true) (i j : Int) : aV (bw t i j)=true∧(bw t i j).root=t.root∧(bw t i j).cells.length≤t.cells.length+2:=by
 unfold bw
 split
 ·rename_i hs
  simp only [dx,Bool.and_eq_true,decide_eq_true_eq] at hs
  obtain ⟨⟨⟨⟨⟨h1,h2⟩,h3⟩,h4⟩,h5⟩,h6⟩:=hs
  obtain ⟨L,hL⟩:=Option.isSome_iff_exists.1 h
  obtain ⟨c,hc,hl,hv⟩:=qM h4
  have hlt : i.toNat < t.cells.length:=by omega
  obtain ⟨b,hb⟩:=(lA hL).pre i.toNat hlt
  have hb' : (aM t)[i.toNat]?=some b:=by
   have:=go hL
   rw [this] at hb
   simpa using hb
  rw [hb'] at h6
  have:=rZ hL hc hl h5 hb h6
  rw [hv]
  exact ⟨by rw [aV,this];rfl,rfl,by rw [pn];exact Nat.le_refl _⟩
 ·exact ⟨h,rfl,by omega⟩
end Go.Ab
namespace Go.Ab
open Go.Proofs
def uT (r : List (Int × Int)) : Tr:=if dl r then ⟨r,[aE dh]⟩ else ⟨[],[]⟩
theorem B9 {r : List (Int × Int)} (h : dl r=true) : cw ⟨r,[aE dh]⟩=some [some r]:=by
 have hs : eW ⟨r,[aE dh]⟩=true:=by simp [eW,h]
 rw [cw,if_pos hs]
 simp only [iw,List.length_singleton,Nat.sub_self,List.replicate,jd]
 rw [jL (t:=⟨r,[]⟩) (b:=r) rfl (mo _),if_pos (show dD (aE dh).v=true from AU)]
theorem EQ {r : List (Int × Int)} (h : dl r=false) : cw ⟨r,[aE dh]⟩=none:=by
 have hs : eW ⟨r,[aE dh]⟩=false:=by simp [eW,h]
 rw [cw,if_neg (by simp [hs])]
theorem vP (r : List (Int × Int)) : aV ⟨r,[aE dh]⟩=dl r:=by
 cases h : dl r with
 |true=>rw [aV,B9 h];rfl
 |false=>rw [aV,EQ h];rfl
structure MTree (t : Tr) : Prop where
 valid : aV t=true
 pos : 1≤t.root.length
 three : t.root.length≤3
 rng : ∀ x ∈ t.root,-40≤x.1∧x.1≤x.2∧x.2≤100
 cells : t.cells.length≤27
 one : 1≤t.cells.length
end Go.Ab
namespace Go.Ab
open Go.Proofs
theorem DF {α β : Type} {f : α→β→Bool} {xs : List α} {ys : List β} : lH f xs ys=true↔∀ (i : Nat) x y,xs[i]?=some x→ys[i]?=some y→f x y=true:=by
 unfold lH
 rw [List.all_eq_true]
 constructor
 ·intro h i x y hx hy
  have : (List.zipWith f xs ys)[i]?=some (f x y):=by simp [List.getElem?_zipWith,hx,hy]
  exact h _ (List.mem_of_getElem? this)
 ·intro h z hz
  obtain ⟨i,hi⟩:=List.getElem?_of_mem hz
  rw [List.getElem?_zipWith] at hi
  cases hx : xs[i]? with
  |none=>simp [hx] at hi
  |some x=>
   cases hy : ys[i]? with
   |none=>simp [hx,hy] at hi
   |some y=>
    simp [hx,hy] at hi
    rw [← hi];exact h i x y hx hy
theorem uU {b : Bx} {c : List Int} (hv : de vI b=true) : gY b c=true↔b.length=c.length∧∀ (i : Nat) x y,b[i]?=some x→c[i]?=some y→x.1≤y∧y≤x.2:=by
 simp only [gY,Bool.and_eq_true,decide_eq_true_eq,DF]
 constructor
 ·rintro ⟨h1,h2⟩
  refine ⟨h1,fun i x y hx hy=>?_⟩
  have:=h2 i x y hx hy
  simp only [wV,Bool.and_eq_true,decide_eq_true_eq] at this
  exact ⟨this.1.2,this.2⟩
 ·rintro ⟨h1,h2⟩
  refine ⟨h1,fun i x y hx hy=>?_⟩
  simp only [wV,Bool.and_eq_true,decide_eq_true_eq]
  exact ⟨⟨fX.1 hv _ (List.mem_of_getElem? hx),(h2 i x y hx hy).1⟩,(h2 i x y hx hy).2⟩
end Go.Ab
namespace Go.Ab
open Go.Proofs
def aQ (t : Tr) (c : Int) : Bx:=(aM t)[c.toNat]?.getD []
theorem jE {t : Tr} (hv : aV t=true) {c : Int} (h : c.toNat < t.cells.length) : (aM t)[c.toNat]?=some (aQ t c)∧(aQ t c).length=t.root.length∧de vI (aQ t c)=true:=by
 have hl : c.toNat < (aM t).length:=by rw [kj hv];exact h
 have e : (aM t)[c.toNat]?=some (aQ t c):=by simp [aQ,List.getElem?_eq_getElem hl]
 exact ⟨e,B7 e⟩
def ye (t : Tr) (chain : List Int) (j : Nat) : Bool:=match chain[j]? with
 |some c=>decide (0≤c) && decide (c < t.cells.length) && dY t c.toNat && !((chain.take j).contains c) && (decide (j=0) || tC (aQ t (chain[j - 1]?.getD 0)) (aQ t c))
 |none=>false
theorem AW {t : Tr} {chain : List Int} {j : Nat} {c : Int} (hc : chain[j]?=some c) : ye t chain j=true↔0≤c∧c < t.cells.length∧dY t c.toNat=true∧c ∉ chain.take j∧(j=0∨tC (aQ t (chain[j - 1]?.getD 0)) (aQ t c)=true):=by
 simp [ye,hc,and_assoc]
structure ChOk (t : Tr) (chain p q : List Int) : Prop where
 valid : aV t=true
 hp : gY t.root p=true
 hq : gY t.root q=true
 ne : chain≠[]
 all : ∀ j,j < chain.length→ye t chain j=true
namespace ChOk
variable {t : Tr} {chain p q : List Int}
theorem get (h : ChOk t chain p q) {j : Nat} (hj : j < chain.length) : 0≤chain[j]∧chain[j] < t.cells.length∧dY t chain[j].toNat=true∧chain[j] ∉ chain.take j∧(j=0∨tC (aQ t (chain[j - 1]?.getD 0)) (aQ t chain[j])=true):=
 (AW (List.getElem?_eq_getElem hj)).1 (h.all j hj)
theorem box (h : ChOk t chain p q) {j : Nat} (hj : j < chain.length) : (aM t)[chain[j].toNat]?=some (aQ t chain[j])∧(aQ t chain[j]).length=t.root.length∧de vI (aQ t chain[j])=true:=by
 have:=h.get hj
 exact jE h.valid (by omega)
theorem touch (h : ChOk t chain p q) {j : Nat} (hj : j+1 < chain.length) : tC (aQ t chain[j]) (aQ t chain[j+1])=true:=by
 have:=(h.get hj).2.2.2.2
 rcases this with e|e
 ·omega
 ·rw [Nat.add_sub_cancel,List.getElem?_eq_getElem (by omega)] at e;exact e
end ChOk
end Go.Ab
namespace Go.Ab
open Go.Proofs
structure BS where
 far : List Int
 q : List Nat
section
variable (n : Nat) (may has hasF : Nat→Bool) (tch : Nat→Nat→Bool)
def ku (far : List Int) (i : Nat) : Int:=far[i]?.getD 0
structure BInv2 (s : BS) : Prop where
 len : s.far.length=n
 cnt : s.far.countP (fun x=>x !=0)=s.q.length
 mem : ∀ j ∈ s.q,j < n∧1≤ku s.far j
 nn : ∀ i,0≤ku s.far i
 top : ∀ i,ku s.far i≤s.q.length
 may' : ∀ i,1≤ku s.far i→may i=true
 back : ∀ i,1≤ku s.far i→(ku s.far i=1∧has i=true)∨∃ p,p < n∧ku s.far p=ku s.far i - 1∧1≤ku s.far p∧tch i p=true
variable {n may has hasF tch}
theorem oG {far : List Int} {i j : Nat} {v : Int} (hi : i < far.length) : ku (far.set i v) j=if j=i then v else ku far j:=by
 unfold ku
 rw [List.getElem?_set]
 by_cases h : i=j
 ·subst h;simp [hi]
 ·rw [if_neg h,if_neg (fun e=>h e.symm)]
theorem BInv2.le {s : BS} (h : BInv2 n may has tch s) : s.q.length≤n:=by
 rw [← h.cnt,← h.len];exact List.countP_le_length
theorem ER {far : List Int} {i : Nat} {v : Int} (hi : i < far.length) (h0 : ku far i=0) (hv : v≠0) : (far.set i v).countP (fun x=>x !=0)=far.countP (fun x=>x !=0)+1:=by
 have h0' : far[i]=0:=by simpa [ku,List.getElem?_eq_getElem hi] using h0
 rw [List.countP_set hi]
 simp [h0',hv]
theorem BInv2.put {s : BS} (h : BInv2 n may has tch s) {i : Nat} {v : Int} (hi : i < n) (h0 : ku s.far i=0) (hv : 1≤v) (hm : may i=true) (ht : v≤s.q.length+1)
 (hb : (v=1∧has i=true)∨∃ p,p < n∧ku s.far p=v - 1∧1≤ku s.far p∧tch i p=true) : BInv2 n may has tch ⟨s.far.set i v,s.q++[i]⟩:=by
 have hil : i < s.far.length:=by rw [h.len];exact hi
 refine ⟨by simpa using h.len,?_,?_,?_,?_,?_,?_⟩
 ·simp only [List.length_append,List.length_singleton];rw [ER hil h0 (by omega),h.cnt]
 ·intro j hj
  simp only [List.mem_append,List.mem_singleton] at hj
  simp only [oG hil]
  rcases hj with hj|rfl
  ·refine ⟨(h.mem j hj).1,?_⟩
   split
   ·exact hv
   ·exact (h.mem j hj).2
  ·exact ⟨hi,by simp [hv]⟩
 ·intro j;simp only [oG hil];split
  ·omega
  ·exact h.nn j
 ·intro j;simp only [oG hil,List.length_append,List.length_singleton]
  have:=h.top j
  split<;>omega
 ·intro j;simp only [oG hil];split
  ·rename_i e;rw [e];exact fun _=>hm
  ·exact h.may' j
 ·have hpn : ∀ p,1≤ku s.far p→p≠i:=fun p hp e=>by rw [e,h0] at hp;omega
  intro j;simp only [oG hil];split
  ·rename_i e;rw [e];intro _
   rcases hb with hb|⟨p,p1,p2,p3,p4⟩
   ·exact .inl hb
   ·exact .inr ⟨p,p1,by rw [if_neg (hpn p p3)];exact p2,by rw [if_neg (hpn p p3)];exact p3,p4⟩
  ·intro hj
   rcases h.back j hj with hb|⟨p,p1,p2,p3,p4⟩
   ·exact .inl hb
   ·exact .inr ⟨p,p1,by rw [if_neg (hpn p p3)];exact p2,by rw [if_neg (hpn p p3)];exact p3,p4⟩
end
end Go.Ab
namespace Go.Ab
open Go.Proofs
set_option maxRecDepth 100000 in
@[simp] theorem Ke : cO Tryz.prog 170:=by
 refine ⟨by kernel_rfl,fun args w=>?_⟩
 refine callsD_of_wpS Tryz.func170 rfl fun c₀ cs hu=>?_
 apply wpS_seq
 apply wpS_region
 have hk : ∀ k,k < Tryz.f170.ntmps→k < args.size+(Tryz.f170.ntmps - args.size):=by intro k h;omega
 rw [Tryz.ntmps170] at hk
 have h0:=hk 0 (by decide)
 have h1:=hk 1 (by decide)
 have h2:=hk 2 (by decide)
 simp [wpOpsS,go_sem,recoverD,hu,Tryz.ntmps170,Exit.thenS,h0,h1,h2]
 refine wpS_cond (t:=false) (by simp [Act.eval,h0,h1,h2]) ?_
 simp only [Bool.false_eq_true,if_false]
 refine wpS_of_wp (wp_skip ?_)
 cases c₀
 simp_all [bodyPostS,results,Tryz.results170]
set_option maxRecDepth 100000 in
@[simp] theorem Kf : cO Tryz.prog 199:=by
 refine ⟨by kernel_rfl,fun args w=>?_⟩
 refine callsD_of_wpS Tryz.func199 rfl fun c₀ cs hu=>?_
 apply wpS_seq
 apply wpS_region
 have hk : ∀ k,k < Tryz.f199.ntmps→k < args.size+(Tryz.f199.ntmps - args.size):=by intro k h;omega
 rw [Tryz.ntmps199] at hk
 have h0:=hk 0 (by decide)
 have h1:=hk 1 (by decide)
 have h2:=hk 2 (by decide)
 simp [wpOpsS,go_sem,recoverD,hu,Tryz.ntmps199,Exit.thenS,h0,h1,h2]
 refine wpS_cond (t:=false) (by simp [Act.eval,h0,h1,h2]) ?_
 simp only [Bool.false_eq_true,if_false]
 refine wpS_of_wp (wp_skip ?_)
 cases c₀
 simp_all [bodyPostS,results,Tryz.results199]
set_option maxRecDepth 100000 in
@[simp] theorem Kg : cO Tryz.prog 197:=by
 refine ⟨by kernel_rfl,fun args w=>?_⟩
 refine callsD_of_wpS Tryz.func197 rfl fun c₀ cs hu=>?_
 apply wpS_seq
 apply wpS_region
 have hk : ∀ k,k < Tryz.f197.ntmps→k < args.size+(Tryz.f197.ntmps - args.size):=by intro k h;omega
 rw [Tryz.ntmps197] at hk
 have h0:=hk 0 (by decide)
 have h1:=hk 1 (by decide)
 have h2:=hk 2 (by decide)
 simp [wpOpsS,go_sem,recoverD,hu,Tryz.ntmps197,Exit.thenS,h0,h1,h2]
 refine wpS_cond (t:=false) (by simp [Act.eval,h0,h1,h2]) ?_
 simp only [Bool.false_eq_true,if_false]
 refine wpS_of_wp (wp_skip ?_)
 cases c₀
 simp_all [bodyPostS,results,Tryz.results197]
set_option maxRecDepth 100000 in
@[simp] theorem Kh : cO Tryz.prog 207:=by
 refine ⟨by kernel_rfl,fun args w=>?_⟩
 refine callsD_of_wpS Tryz.func207 rfl fun c₀ cs hu=>?_
 apply wpS_seq
 apply wpS_region
 have hk : ∀ k,k < Tryz.f207.ntmps→k < args.size+(Tryz.f207.ntmps - args.size):=by intro k h;omega
 rw [Tryz.ntmps207] at hk
 have h0:=hk 0 (by decide)
 have h1:=hk 1 (by decide)
 have h2:=hk 2 (by decide)
 simp [wpOpsS,go_sem,recoverD,hu,Tryz.ntmps207,Exit.thenS,h0,h1,h2]
 refine wpS_cond (t:=false) (by simp [Act.eval,h0,h1,h2]) ?_
 simp only [Bool.false_eq_true,if_false]
 refine wpS_of_wp (wp_skip ?_)
 cases c₀
 simp_all [bodyPostS,results,Tryz.results207]
set_option maxRecDepth 100000 in
@[simp] theorem KB : cO Tryz.prog 70:=by
 refine ⟨by kernel_rfl,fun args w=>?_⟩
 refine callsD_of_wpS Tryz.func70 rfl fun c₀ cs hu=>?_
 apply wpS_seq
 apply wpS_region
 have hk : ∀ k,k < Tryz.f70.ntmps→k < args.size+(Tryz.f70.ntmps - args.size):=by intro k h;omega
 rw [Tryz.ntmps70] at hk
 have h0:=hk 0 (by decide)
 have h1:=hk 1 (by decide)
 have h2:=hk 2 (by decide)
 have h3:=hk 3 (by decide)
 simp [wpOpsS,go_sem,recoverD,hu,Tryz.ntmps70,Exit.thenS,h0,h1,h2,h3]
 refine wpS_cond (t:=false) (by simp [Act.eval,h0,h1,h2,h3]) ?_
 simp only [Bool.false_eq_true,if_false]
 refine wpS_of_wp (wp_skip ?_)
 cases c₀
 simp_all [bodyPostS,results,Tryz.results70]
set_option maxRecDepth 100000 in
@[simp] theorem KD : cO Tryz.prog 90:=by
 refine ⟨by kernel_rfl,fun args w=>?_⟩
 refine callsD_of_wpS Tryz.func90 rfl fun c₀ cs hu=>?_
 apply wpS_seq
 apply wpS_region
 have hk : ∀ k,k < Tryz.f90.ntmps→k < args.size+(Tryz.f90.ntmps - args.size):=by intro k h;omega
 rw [Tryz.ntmps90] at hk
 have h0:=hk 0 (by decide)
 have h1:=hk 1 (by decide)
 have h2:=hk 2 (by decide)
 have h3:=hk 3 (by decide)
 simp [wpOpsS,go_sem,recoverD,hu,Tryz.ntmps90,Exit.thenS,h0,h1,h2,h3]
 refine wpS_cond (t:=false) (by simp [Act.eval,h0,h1,h2,h3]) ?_
 simp only [Bool.false_eq_true,if_false]
 refine wpS_of_wp (wp_skip ?_)
 cases c₀
 simp_all [bodyPostS,results,Tryz.results90]
set_option maxRecDepth 100000 in
@[simp] theorem Ki : cO Tryz.prog 195:=by
 refine ⟨by kernel_rfl,fun args w=>?_⟩
 refine callsD_of_wpS Tryz.func195 rfl fun c₀ cs hu=>?_
 apply wpS_seq
 apply wpS_region
 have hk : ∀ k,k < Tryz.f195.ntmps→k < args.size+(Tryz.f195.ntmps - args.size):=by intro k h;omega
 rw [Tryz.ntmps195] at hk
 have h0:=hk 0 (by decide)
 have h1:=hk 1 (by decide)
 have h2:=hk 2 (by decide)
 have h3:=hk 3 (by decide)
 simp [wpOpsS,go_sem,recoverD,hu,Tryz.ntmps195,Exit.thenS,h0,h1,h2,h3]
 refine wpS_cond (t:=false) (by simp [Act.eval,h0,h1,h2,h3]) ?_
 simp only [Bool.false_eq_true,if_false]
 refine wpS_of_wp (wp_skip ?_)
 cases c₀
 simp_all [bodyPostS,results,Tryz.results195]
set_option maxRecDepth 100000 in
@[simp] theorem KE : cO Tryz.prog 84:=by
 refine ⟨by kernel_rfl,fun args w=>?_⟩
 refine callsD_of_wpS Tryz.func84 rfl fun c₀ cs hu=>?_
 apply wpS_seq
 apply wpS_region
 have hk : ∀ k,k < Tryz.f84.ntmps→k < args.size+(Tryz.f84.ntmps - args.size):=by intro k h;omega
 rw [Tryz.ntmps84] at hk
 have h0:=hk 0 (by decide)
 have h1:=hk 1 (by decide)
 have h2:=hk 2 (by decide)
 have h3:=hk 3 (by decide)
 simp [wpOpsS,go_sem,recoverD,hu,Tryz.ntmps84,Exit.thenS,h0,h1,h2,h3]
 refine wpS_cond (t:=false) (by simp [Act.eval,h0,h1,h2,h3]) ?_
 simp only [Bool.false_eq_true,if_false]
 refine wpS_of_wp (wp_skip ?_)
 cases c₀
 simp_all [bodyPostS,results,Tryz.results84]
set_option maxRecDepth 100000 in
@[simp] theorem KF : cO Tryz.prog 79:=by
 refine ⟨by kernel_rfl,fun args w=>?_⟩
 refine callsD_of_wpS Tryz.func79 rfl fun c₀ cs hu=>?_
 apply wpS_seq
 apply wpS_region
 have hk : ∀ k,k < Tryz.f79.ntmps→k < args.size+(Tryz.f79.ntmps - args.size):=by intro k h;omega
 rw [Tryz.ntmps79] at hk
 have h0:=hk 0 (by decide)
 have h1:=hk 1 (by decide)
 have h2:=hk 2 (by decide)
 have h3:=hk 3 (by decide)
 simp [wpOpsS,go_sem,recoverD,hu,Tryz.ntmps79,Exit.thenS,h0,h1,h2,h3]
 refine wpS_cond (t:=false) (by simp [Act.eval,h0,h1,h2,h3]) ?_
 simp only [Bool.false_eq_true,if_false]
 refine wpS_of_wp (wp_skip ?_)
 cases c₀
 simp_all [bodyPostS,results,Tryz.results79]
set_option maxRecDepth 100000 in
@[simp] theorem Kj : cO Tryz.prog 301:=by
 refine ⟨by kernel_rfl,fun args w=>?_⟩
 refine callsD_of_wpS Tryz.func301 rfl fun c₀ cs hu=>?_
 apply wpS_seq
 apply wpS_region
 have hk : ∀ k,k < Tryz.f301.ntmps→k < args.size+(Tryz.f301.ntmps - args.size):=by intro k h;omega
 rw [Tryz.ntmps301] at hk
 have h0:=hk 0 (by decide)
 have h1:=hk 1 (by decide)
 have h2:=hk 2 (by decide)
 have h3:=hk 3 (by decide)
 simp [wpOpsS,go_sem,recoverD,hu,Tryz.ntmps301,Exit.thenS,h0,h1,h2,h3]
 refine wpS_cond (t:=false) (by simp [Act.eval,h0,h1,h2,h3]) ?_
 simp only [Bool.false_eq_true,if_false]
 refine wpS_of_wp (wp_skip ?_)
 cases c₀
 simp_all [bodyPostS,results,Tryz.results301]
set_option maxRecDepth 100000 in
@[simp] theorem Kk : cO Tryz.prog 204:=by
 refine ⟨by kernel_rfl,fun args w=>?_⟩
 refine callsD_of_wpS Tryz.func204 rfl fun c₀ cs hu=>?_
 apply wpS_seq
 apply wpS_region
 have hk : ∀ k,k < Tryz.f204.ntmps→k < args.size+(Tryz.f204.ntmps - args.size):=by intro k h;omega
 rw [Tryz.ntmps204] at hk
 have h0:=hk 0 (by decide)
 have h1:=hk 1 (by decide)
 have h2:=hk 2 (by decide)
 have h3:=hk 3 (by decide)
 simp [wpOpsS,go_sem,recoverD,hu,Tryz.ntmps204,Exit.thenS,h0,h1,h2,h3]
 refine wpS_cond (t:=false) (by simp [Act.eval,h0,h1,h2,h3]) ?_
 simp only [Bool.false_eq_true,if_false]
 refine wpS_of_wp (wp_skip ?_)
 cases c₀
 simp_all [bodyPostS,results,Tryz.results204]
end Go.Ab
namespace Go.Ab
open Go.Proofs
theorem EP {P : Program} (D : Nat) {t e : TypeId} (ht : P.underlying t=some (.array 3 e)) (hs : ag P (sizeOf e)=some 1) (e0 : ∀ x y : Int,ag P (Op.equalIn D e (.int .i64 x) (.int .i64 y))=some (x==y)) {xs ys : Array Value} {a b c a' b' c' : Int}
 (p0 : ag P (part e xs (0 * 1))=some (.int .i64 a)) (p1 : ag P (part e xs (1 * 1))=some (.int .i64 b)) (p2 : ag P (part e xs (2 * 1))=some (.int .i64 c))
 (q0 : ag P (part e ys (0 * 1))=some (.int .i64 a')) (q1 : ag P (part e ys (1 * 1))=some (.int .i64 b')) (q2 : ag P (part e ys (2 * 1))=some (.int .i64 c')) :
 ag P (Op.equalIn (D+1) t (.agg xs) (.agg ys))=some (a==a' && b==b' && c==c'):=by
 simp only [Op.equalIn,af,gh ht,Option.bind_some]
 simp only [hs,Option.bind_some,Std.Legacy.Range.forIn_eq_forIn_range',Std.Legacy.Range.size]
 have hr : List.range' 0 ((3 - 0+1 - 1) / 1) 1=[0,1,2]:=by decide
 rw [hr]
 simp only [List.forIn_cons,List.forIn_nil,af,p0,q0,e0,Option.bind_some]
 cases h1 : (a==a')
 ·simp [cF]
 simp only [Bool.not_true,Bool.false_eq_true,if_false,cF,Option.bind_some,af,p1,q1,e0]
 cases h2 : (b==b')
 ·simp [cF]
 simp only [Bool.not_true,Bool.false_eq_true,if_false,cF,Option.bind_some,af,p2,q2,e0]
 cases h3 : (c==c')
 ·simp [cF]
 ·simp [cF]
theorem D9 (a b e c d f : Int) : ag Tryz.prog (Op.equal 126 (.agg #[.int .i64 a,.int .i64 b,.int .i64 e]) (.agg #[.int .i64 c,.int .i64 d,.int .i64 f]))=some (a==c && b==d && e==f):=
 EP 9999 Tryz.underlying126 (by kernel_rfl) (fun x y=>qa (P:=Tryz.prog) 9998 2 .i64 .i64 x y Tryz.underlying2) (by kernel_rfl) (by kernel_rfl) (by kernel_rfl) (by kernel_rfl) (by kernel_rfl) (by kernel_rfl)
def rA (x : AV) : Option (Int × Int × Int):=match x with
 |.pv (.val (.agg vs))=>match vs.toList with
  |[.int .i64 a,.int .i64 b,.int .i64 c]=>some (a,b,c)
  |_=>none
 |_=>none
theorem mm {x : AV} {a b c : Int} (h : rA x=some (a,b,c)) : x=.pv (aC (a,b,c)):=by
 unfold rA at h
 split at h
 ·split at h
  ·rename_i vs _ a' b' c' hv
   injection h with h;injection h with h1 h2;injection h2 with h2 h3;subst h1;subst h2;subst h3
   rw [← Array.toArray_toList (xs:=vs),hv]
  ·cases h
 ·cases h
def Dx (x y : AV) (fb : Option bI) : Option bI:=match rA x,rA y with
 |some (a,b,e),some (c,d,f)=>some (.pv (.val (.bool !(a==c && b==d && e==f))),[])
 |_,_=>fb
@[simp] theorem Hy (a b e c d f : Int) (fb : Option bI) : Dx (.pv (.val (.agg #[.int .i64 a,.int .i64 b,.int .i64 e]))) (.pv (.val (.agg #[.int .i64 c,.int .i64 d,.int .i64 f]))) fb=some (.pv (.val (.bool !(a==c && b==d && e==f))),[]):=rfl
@[simp] theorem Lh {dst : Option Nat} {ty : TypeId} {pos : String} {aft : Array Edge} {g : Option (Nat × Bool)} {ρ : Operand→AV} (x y : Operand) :
 aR Tryz.prog ⟨dst,.binOp .neq 126 x y 126,ty,pos,aft,g⟩ ρ=Dx (ρ x) (ρ y) (ga Tryz.prog ⟨dst,.binOp .neq 126 x y 126,ty,pos,aft,g⟩ ρ):=by
 unfold Dx
 split
 ·rename_i a b e c d f hx hy
  exact tr rfl (mm hx) (mm hy) (by kernel_rfl) (D9 a b e c d f)
 ·rfl
def AQ (x y : AV) (fb : Option bI) : Option bI:=match rA x,rA y with
 |some (a,b,e),some (c,d,f)=>some (.pv (.val (.bool (a==c && b==d && e==f))),[])
 |_,_=>fb
end Go.Ab
