/- The contracts and facts that the laws of this seat need, in one text (Rd, K1, K2, K2b, KM1, KM2, TrA, KV). -/
import Derived.Test.YtcalbhjelehlgaaGreatS4
import Derived.Test.YtcalbhjelehlgaaGreatRows
set_option linter.all false
namespace Go.Ab
open Go.Proofs Go.Proofs.YtcalbhjelehlgaaGreat
theorem own : ownKnob Tryz.prog.godebug=none:=by kernel_rfl
theorem kids : Kids Tryz.prog (·< Tryz.prog.types.size):=kids_rows (by kernel_rfl) (by kernel_rfl)
theorem full : ∀ t e,t < Tryz.prog.types.size→Tryz.prog.underlying t=some (.slice e)→0 < Tryz.prog.cellsOf e:=slices_full_of Tryz.prog (by kernel_rfl)
mutual
theorem bulk_le {H : Type} : ∀ d : DataW H,bulk d≤Rows.uptoBulk d
 |.lit (.string _)=>by simp [bulk,Rows.uptoBulk]
 |.lit (.bool _)=>by simp [bulk,Rows.uptoBulk]
 |.lit (.int _ _)=>by simp [bulk,Rows.uptoBulk]
 |.lit (.float _ _)=>by simp [bulk,Rows.uptoBulk]
 |.lit .nil=>by simp [bulk,Rows.uptoBulk]
 |.nil=>by simp [bulk,Rows.uptoBulk]
 |.ptr _=>by simp [bulk,Rows.uptoBulk]
 |.slice es sp=>by have:=bulkL_le es;have:=bulkL_le sp;simp only [bulk,Rows.uptoBulk];omega
 |.agg ds=>by have:=bulkL_le ds;simp only [bulk,Rows.uptoBulk];omega
 |.iface _ _=>by simp [bulk,Rows.uptoBulk]
 |.map _=>by simp [bulk,Rows.uptoBulk]
 |.held _=>by simp [bulk,Rows.uptoBulk]
theorem bulkL_le {H : Type} : ∀ ds : List (DataW H),bulkL ds≤Rows.uptoBulkAll ds
 |[]=>by simp [bulkL,Rows.uptoBulkAll]
 |d :: ds=>by have:=bulk_le d;have:=bulkL_le ds;simp only [bulkL,Rows.uptoBulkAll];omega
end
theorem uptoAll_append {H : Type} (l r : List (DataW H)) : Rows.uptoBulkAll (l++r)=Rows.uptoBulkAll l+Rows.uptoBulkAll r:=by
 induction l with
 |nil=>simp [Rows.uptoBulkAll]
 |cons x l ih=>simp only [List.cons_append,Rows.uptoBulkAll,ih];omega
theorem bulk_small {H : Type} {ds gs : List (DataW H)} (hk : Rows.uptoSmall H (ds++gs)=true) : bulkL ds≤1048576:=by
 have h : Rows.uptoBulkAll (ds++gs)≤1048576:=of_decide_eq_true hk
 rw [uptoAll_append] at h
 have:=bulkL_le ds
 omega
section
variable {H : Type}
theorem rd_int : Reads H Tryz.prog 3 (fun i=>.val (.int .i64 i)) (fun i=>IntKind.i64.min≤i∧i≤IntKind.i64.max) (fun _=>1):=reads_int Tryz.underlying3
theorem rd_ints : Reads H Tryz.prog 32 (fun l : List Int=>.sl (l.map fun i=>.val (.int .i64 i))) (fun l=>l.length≤9223372036854775807∧∀ a ∈ l,IntKind.i64.min≤a∧a≤IntKind.i64.max) (fun l=>(l.map fun _=>1).sum+1):=reads_slice Tryz.underlying32 rd_int
theorem rd_int64 : Reads H Tryz.prog 2 (fun i=>.val (.int .i64 i)) (fun i=>IntKind.i64.min≤i∧i≤IntKind.i64.max) (fun _=>1):=reads_int Tryz.underlying2
theorem rd_int64s : Reads H Tryz.prog 37 (fun l : List Int=>.sl (l.map fun i=>.val (.int .i64 i))) (fun l=>l.length≤9223372036854775807∧∀ a ∈ l,IntKind.i64.min≤a∧a≤IntKind.i64.max) (fun l=>(l.map fun _=>1).sum+1):=reads_slice Tryz.underlying37 rd_int64
end
end Go.Ab
namespace Go.Ab
open Go.Proofs
abbrev Iv:=Int × Int
def clp (a : Int) : Int:=min (max a (-2147483648)) 2147483648
def shU (a m : Int) : Int:=-((-a) / m)
theorem mul_rng {a b : Int} (m n : Nat) (ha : -(m : Int)≤a) (ha' : a≤m) (hb : -(n : Int)≤b) (hb' : b≤n) : -((m * n : Nat) : Int)≤a * b∧a * b≤((m * n : Nat) : Int):=by
 have h1 : (a * b).natAbs≤m * n:=by
  rw [Int.natAbs_mul]
  exact Nat.mul_le_mul (by omega) (by omega)
 omega
theorem fd_ (a : Int) (m : Nat) : a.fdiv (m : Int)=a / (m : Int):=Int.fdiv_eq_ediv_of_nonneg a (by omega)
theorem fd16 (a : Int) : a.fdiv 65536=a / 65536:=fd_ a 65536
theorem fd14 (a : Int) : a.fdiv 16384=a / 16384:=fd_ a 16384
theorem fd30 (a : Int) : a.fdiv 1073741824=a / 1073741824:=fd_ a 1073741824
theorem dU16 (a : Int) (ha : -4611686018427387904≤a) (hb : a≤4611686018427387904) : DetH Tryz.prog 171 [.pv (Z a),.pv (Z 16)] [] [] (.pv (Z (shU a 65536))):=by
 have h1 : a.fdiv (2 ^ min 16 IntKind.i64.bits)=a / 65536:=fd16 a
 have h2 : IntKind.i64.wrap (a / 65536 * 2 ^ min 16 IntKind.i64.bits)=a / 65536 * 65536:=by
  show IntKind.i64.wrap (a / 65536 * 65536)=_
  exact wr_id (by omega) (by omega)
 have h3 : IntKind.i64.wrap (a / 65536+1)=a / 65536+1:=wr_id (by omega) (by omega)
 by_cases he : a / 65536 * 65536=a
 ·have hf : shU a 65536=a / 65536:=by unfold shU;omega
  rw [hf]
  refine detP_of Tryz.func171 rfl (by kernel_rfl) (by simp [Tryz.f171]) rfl ?_
  intro C hP hN
  simp only [Tryz.f171] at hN ⊢
  with_reducible repeat' (first|refine Sp.h ?_|((first|refine Ss.h ?_|(refine Sb.h ?_ ?_ ?_<;>(try intro hgd)<;>try exact Xy))<;>simp -implicitDefEqProofs (maxSteps:=2000000) [hP,hN,h1,h2,h3,he])|refine X2 ?_ ?_|(refine Xd ?_ ?_<;>intro hcd<;>try exact Xx))
 ·have hf : shU a 65536=a / 65536+1:=by unfold shU;omega
  rw [hf]
  have he' : (a / 65536 * 65536==a)=false:=by simpa using he
  refine detP_of Tryz.func171 rfl (by kernel_rfl) (by simp [Tryz.f171]) rfl ?_
  intro C hP hN
  simp only [Tryz.f171] at hN ⊢
  with_reducible repeat' (first|refine Sp.h ?_|((first|refine Ss.h ?_|(refine Sb.h ?_ ?_ ?_<;>(try intro hgd)<;>try exact Xy))<;>simp -implicitDefEqProofs (maxSteps:=2000000) [hP,hN,h1,h2,h3,he,he'])|refine X2 ?_ ?_|(refine Xd ?_ ?_<;>intro hcd<;>try exact Xx))
theorem dD16 (a : Int) : DetH Tryz.prog 131 [.pv (Z a),.pv (Z 16)] [] [] (.pv (Z (a / 65536))):=by
 have h1 : a.fdiv (2 ^ min 16 IntKind.i64.bits)=a / 65536:=fd16 a
 refine detP_of Tryz.func131 rfl (by kernel_rfl) (by simp [Tryz.f131]) rfl ?_
 intro C hP hN
 simp only [Tryz.f131] at hN ⊢
 with_reducible repeat' (first|refine Sp.h ?_|((first|refine Ss.h ?_|(refine Sb.h ?_ ?_ ?_<;>(try intro hgd)<;>try exact Xy))<;>simp -implicitDefEqProofs (maxSteps:=2000000) [hP,hN,h1])|refine X2 ?_ ?_|(refine Xd ?_ ?_<;>intro hcd<;>try exact Xx))
theorem dU14 (a : Int) (ha : -4611686018427387904≤a) (hb : a≤4611686018427387904) : DetH Tryz.prog 171 [.pv (Z a),.pv (Z 14)] [] [] (.pv (Z (shU a 16384))):=by
 have h1 : a.fdiv (2 ^ min 14 IntKind.i64.bits)=a / 16384:=fd14 a
 have h2 : IntKind.i64.wrap (a / 16384 * 2 ^ min 14 IntKind.i64.bits)=a / 16384 * 16384:=by
  show IntKind.i64.wrap (a / 16384 * 16384)=_
  exact wr_id (by omega) (by omega)
 have h3 : IntKind.i64.wrap (a / 16384+1)=a / 16384+1:=wr_id (by omega) (by omega)
 by_cases he : a / 16384 * 16384=a
 ·have hf : shU a 16384=a / 16384:=by unfold shU;omega
  rw [hf]
  refine detP_of Tryz.func171 rfl (by kernel_rfl) (by simp [Tryz.f171]) rfl ?_
  intro C hP hN
  simp only [Tryz.f171] at hN ⊢
  with_reducible repeat' (first|refine Sp.h ?_|((first|refine Ss.h ?_|(refine Sb.h ?_ ?_ ?_<;>(try intro hgd)<;>try exact Xy))<;>simp -implicitDefEqProofs (maxSteps:=2000000) [hP,hN,h1,h2,h3,he])|refine X2 ?_ ?_|(refine Xd ?_ ?_<;>intro hcd<;>try exact Xx))
 ·have hf : shU a 16384=a / 16384+1:=by unfold shU;omega
  rw [hf]
  have he' : (a / 16384 * 16384==a)=false:=by simpa using he
  refine detP_of Tryz.func171 rfl (by kernel_rfl) (by simp [Tryz.f171]) rfl ?_
  intro C hP hN
  simp only [Tryz.f171] at hN ⊢
  with_reducible repeat' (first|refine Sp.h ?_|((first|refine Ss.h ?_|(refine Sb.h ?_ ?_ ?_<;>(try intro hgd)<;>try exact Xy))<;>simp -implicitDefEqProofs (maxSteps:=2000000) [hP,hN,h1,h2,h3,he,he'])|refine X2 ?_ ?_|(refine Xd ?_ ?_<;>intro hcd<;>try exact Xx))
theorem dD14 (a : Int) : DetH Tryz.prog 131 [.pv (Z a),.pv (Z 14)] [] [] (.pv (Z (a / 16384))):=by
 have h1 : a.fdiv (2 ^ min 14 IntKind.i64.bits)=a / 16384:=fd14 a
 refine detP_of Tryz.func131 rfl (by kernel_rfl) (by simp [Tryz.f131]) rfl ?_
 intro C hP hN
 simp only [Tryz.f131] at hN ⊢
 with_reducible repeat' (first|refine Sp.h ?_|((first|refine Ss.h ?_|(refine Sb.h ?_ ?_ ?_<;>(try intro hgd)<;>try exact Xy))<;>simp -implicitDefEqProofs (maxSteps:=2000000) [hP,hN,h1])|refine X2 ?_ ?_|(refine Xd ?_ ?_<;>intro hcd<;>try exact Xx))
theorem dU30 (a : Int) (ha : -4611686018427387904≤a) (hb : a≤4611686018427387904) : DetH Tryz.prog 171 [.pv (Z a),.pv (Z 30)] [] [] (.pv (Z (shU a 1073741824))):=by
 have h1 : a.fdiv (2 ^ min 30 IntKind.i64.bits)=a / 1073741824:=fd30 a
 have h2 : IntKind.i64.wrap (a / 1073741824 * 2 ^ min 30 IntKind.i64.bits)=a / 1073741824 * 1073741824:=by
  show IntKind.i64.wrap (a / 1073741824 * 1073741824)=_
  exact wr_id (by omega) (by omega)
 have h3 : IntKind.i64.wrap (a / 1073741824+1)=a / 1073741824+1:=wr_id (by omega) (by omega)
 by_cases he : a / 1073741824 * 1073741824=a
 ·have hf : shU a 1073741824=a / 1073741824:=by unfold shU;omega
  rw [hf]
  refine detP_of Tryz.func171 rfl (by kernel_rfl) (by simp [Tryz.f171]) rfl ?_
  intro C hP hN
  simp only [Tryz.f171] at hN ⊢
  with_reducible repeat' (first|refine Sp.h ?_|((first|refine Ss.h ?_|(refine Sb.h ?_ ?_ ?_<;>(try intro hgd)<;>try exact Xy))<;>simp -implicitDefEqProofs (maxSteps:=2000000) [hP,hN,h1,h2,h3,he])|refine X2 ?_ ?_|(refine Xd ?_ ?_<;>intro hcd<;>try exact Xx))
 ·have hf : shU a 1073741824=a / 1073741824+1:=by unfold shU;omega
  rw [hf]
  have he' : (a / 1073741824 * 1073741824==a)=false:=by simpa using he
  refine detP_of Tryz.func171 rfl (by kernel_rfl) (by simp [Tryz.f171]) rfl ?_
  intro C hP hN
  simp only [Tryz.f171] at hN ⊢
  with_reducible repeat' (first|refine Sp.h ?_|((first|refine Ss.h ?_|(refine Sb.h ?_ ?_ ?_<;>(try intro hgd)<;>try exact Xy))<;>simp -implicitDefEqProofs (maxSteps:=2000000) [hP,hN,h1,h2,h3,he,he'])|refine X2 ?_ ?_|(refine Xd ?_ ?_<;>intro hcd<;>try exact Xx))
theorem dD30 (a : Int) : DetH Tryz.prog 131 [.pv (Z a),.pv (Z 30)] [] [] (.pv (Z (a / 1073741824))):=by
 have h1 : a.fdiv (2 ^ min 30 IntKind.i64.bits)=a / 1073741824:=fd30 a
 refine detP_of Tryz.func131 rfl (by kernel_rfl) (by simp [Tryz.f131]) rfl ?_
 intro C hP hN
 simp only [Tryz.f131] at hN ⊢
 with_reducible repeat' (first|refine Sp.h ?_|((first|refine Ss.h ?_|(refine Sb.h ?_ ?_ ?_<;>(try intro hgd)<;>try exact Xy))<;>simp -implicitDefEqProofs (maxSteps:=2000000) [hP,hN,h1])|refine X2 ?_ ?_|(refine Xd ?_ ?_<;>intro hcd<;>try exact Xx))
def addI (x y : Iv) : Iv:=if validB x.1 x.2 && validB y.1 y.2 then (clp (x.1+y.1),clp (x.2+y.2)) else (0,0)
def negI (x : Iv) : Iv:=if validB x.1 x.2 then (-x.2,-x.1) else (0,0)
def mulI (x y : Iv) : Iv:=if validB x.1 x.2 && validB y.1 y.2 then
 (clp (min (x.1 * y.1) (min (x.1 * y.2) (min (x.2 * y.1) (x.2 * y.2))) / 65536),clp (shU (max (x.1 * y.1) (max (x.1 * y.2) (max (x.2 * y.1) (x.2 * y.2)))) 65536)) else (0,0)
def ofI (x : Int) : Iv:=(clp x,clp x)
theorem valid_iff {a b : Int} : validB a b=true↔-2147483648≤a∧a≤b∧b≤2147483648:=by
 simp only [validB,Bool.and_eq_true,decide_eq_true_eq]
 constructor
 ·rintro ⟨⟨h1,h2⟩,h3⟩;exact ⟨h1,h2,h3⟩
 ·rintro ⟨h1,h2,h3⟩;exact ⟨⟨h1,h2⟩,h3⟩
theorem dIlim (a b : Int) : DetH Tryz.prog 223 [.pv (Z a),.pv (Z b)] [] [] (.pv (I (clp a) (clp b))):=d223 a b
theorem dOof (a : Int) : DetH Tryz.prog 198 [.pv (Z a)] [] [] (.pv (I (clp a) (clp a))):=d198 a
theorem d220 {a b c d : Int} : DetH Tryz.prog 220 [.pv (I a b),.pv (I c d)] [] [] (.pv (encI (addI (a,b) (c,d)))):=by
 cases hv : (validB a b && validB c d) with
 |false=>
  have hr : addI (a,b) (c,d)=(0,0):=by simp [addI,hv]
  rw [hr]
  refine detP_of Tryz.func220 rfl (by kernel_rfl) (by simp [Tryz.f220]) rfl ?_
  intro C hP hN
  simp only [Tryz.f220] at hN ⊢
  with_reducible repeat' (first|refine Sp.h ?_|((first|refine Ss.h ?_|refine Sc.h (d230 _ _ _ _) ?_|(refine Sb.h ?_ ?_ ?_<;>(try intro hgd)<;>try exact Xy))<;>simp -implicitDefEqProofs (maxSteps:=2000000) [hP,hN,hv])|refine X2 ?_ ?_|(refine Xd ?_ ?_<;>intro hcd<;>try exact Xx))
 |true=>
  have hr : addI (a,b) (c,d)=(clp (a+c),clp (b+d)):=by simp only [addI,hv,if_true]
  rw [hr]
  have hv':=hv
  rw [Bool.and_eq_true,valid_iff,valid_iff] at hv'
  have w1 : IntKind.i64.wrap (a+c)=a+c:=wr_id (by omega) (by omega)
  have w2 : IntKind.i64.wrap (b+d)=b+d:=wr_id (by omega) (by omega)
  refine detP_of Tryz.func220 rfl (by kernel_rfl) (by simp [Tryz.f220]) rfl ?_
  intro C hP hN
  simp only [Tryz.f220] at hN ⊢
  with_reducible repeat' (first|refine Sp.h ?_|((first|refine Ss.h ?_|refine Sc.h (d230 _ _ _ _) ?_|refine Sc.h (dIlim _ _) ?_|(refine Sb.h ?_ ?_ ?_<;>(try intro hgd)<;>try exact Xy))<;>simp -implicitDefEqProofs (maxSteps:=2000000) [hP,hN,hv,w1,w2])|refine X2 ?_ ?_|(refine Xd ?_ ?_<;>intro hcd<;>try exact Xx))
theorem d243 {a b : Int} : DetH Tryz.prog 243 [.pv (I a b)] [] [] (.pv (encI (negI (a,b)))):=by
 cases hv : validB a b with
 |false=>
  have hr : negI (a,b)=(0,0):=by simp [negI,hv]
  rw [hr]
  refine detP_of Tryz.func243 rfl (by kernel_rfl) (by simp [Tryz.f243]) rfl ?_
  intro C hP hN
  simp only [Tryz.f243] at hN ⊢
  with_reducible repeat' (first|refine Sp.h ?_|((first|refine Ss.h ?_|refine Sc.h (d69 _ _) ?_|(refine Sb.h ?_ ?_ ?_<;>(try intro hgd)<;>try exact Xy))<;>simp -implicitDefEqProofs (maxSteps:=2000000) [hP,hN,hv])|refine X2 ?_ ?_|(refine Xd ?_ ?_<;>intro hcd<;>try exact Xx))
 |true=>
  have hr : negI (a,b)=(-b,-a):=by simp only [negI,hv,if_true]
  rw [hr]
  have hv':=hv
  rw [valid_iff] at hv'
  have w1 : IntKind.i64.wrap (-b)=-b:=wr_id (by omega) (by omega)
  have w2 : IntKind.i64.wrap (-a)=-a:=wr_id (by omega) (by omega)
  have w3 : IntKind.i64.wrap (0 - b)=-b:=(wr_id (n:=0 - b) (by omega) (by omega)).trans (by omega)
  have w4 : IntKind.i64.wrap (0 - a)=-a:=(wr_id (n:=0 - a) (by omega) (by omega)).trans (by omega)
  refine detP_of Tryz.func243 rfl (by kernel_rfl) (by simp [Tryz.f243]) rfl ?_
  intro C hP hN
  simp only [Tryz.f243] at hN ⊢
  with_reducible repeat' (first|refine Sp.h ?_|((first|refine Ss.h ?_|refine Sc.h (d69 _ _) ?_|(refine Sb.h ?_ ?_ ?_<;>(try intro hgd)<;>try exact Xy))<;>simp -implicitDefEqProofs (maxSteps:=2000000) [hP,hN,hv,w1,w2,w3,w4])|refine X2 ?_ ?_|(refine Xd ?_ ?_<;>intro hcd<;>try exact Xx))
theorem d231 (a b : Int) (ha : -4611686018427387904≤b) (hb : b≤4611686018427387904) : DetH Tryz.prog 231 [.pv (Z a),.pv (Z b)] [] [] (.pv (I (clp (a / 65536)) (clp (shU b 65536)))):=by
 refine detP_of Tryz.func231 rfl (by kernel_rfl) (by simp [Tryz.f231]) rfl ?_
 intro C hP hN
 simp only [Tryz.f231] at hN ⊢
 with_reducible repeat' (first|refine Sp.h ?_|((first|refine Ss.h ?_|refine Sc.h (dD16 _) ?_|refine Sc.h (dU16 _ ha hb) ?_|refine Sc.h (dIlim _ _) ?_|(refine Sb.h ?_ ?_ ?_<;>(try intro hgd)<;>try exact Xy))<;>simp -implicitDefEqProofs (maxSteps:=2000000) [hP,hN])|refine X2 ?_ ?_|(refine Xd ?_ ?_<;>intro hcd<;>try exact Xx))
@[simp] theorem wlit1 : IntKind.i64.wrap 1=1:=by decide
@[simp] theorem wlit2 : IntKind.i64.wrap 2=2:=by decide
@[simp] theorem wlit3 : IntKind.i64.wrap 3=3:=by decide
@[simp] theorem wlit4 : IntKind.i64.wrap 4=4:=by decide
theorem fin4 {i : Nat} (h : i≤4) : i=0∨i=1∨i=2∨i=3∨i=4:=by omega
set_option maxHeartbeats 4000000 in
theorem d221 {a b c d : Int} : DetH Tryz.prog 221 [.pv (I a b),.pv (I c d)] [] [] (.pv (encI (mulI (a,b) (c,d)))):=by
 cases hv : (validB a b && validB c d) with
 |false=>
  have hr : mulI (a,b) (c,d)=(0,0):=by simp [mulI,hv]
  rw [hr]
  refine detP_of Tryz.func221 rfl (by kernel_rfl) (by simp [Tryz.f221]) rfl ?_
  intro C hP hN
  simp only [Tryz.f221] at hN ⊢
  with_reducible repeat' (first|refine Sp.h ?_|((first|refine Wd ?_|refine Ss.h ?_|refine Sc.h (d230 _ _ _ _) ?_|(refine Sb.h ?_ ?_ ?_<;>(try intro hgd)<;>try exact Xy))<;>simp -implicitDefEqProofs (maxSteps:=2000000) [hP,hN,hv]<;>try refine Ya ?_)|refine X2 ?_ ?_|(refine Xd ?_ ?_<;>intro hcd<;>try exact Xx))
 |true=>
  have hv':=hv
  rw [Bool.and_eq_true,valid_iff,valid_iff] at hv'
  have m1:=mul_rng (a:=a) (b:=c) 2147483648 2147483648 (by omega) (by omega) (by omega) (by omega)
  have m2:=mul_rng (a:=a) (b:=d) 2147483648 2147483648 (by omega) (by omega) (by omega) (by omega)
  have m3:=mul_rng (a:=b) (b:=c) 2147483648 2147483648 (by omega) (by omega) (by omega) (by omega)
  have m4:=mul_rng (a:=b) (b:=d) 2147483648 2147483648 (by omega) (by omega) (by omega) (by omega)
  have w1 : IntKind.i64.wrap (a * c)=a * c:=wr_id (by omega) (by omega)
  have w2 : IntKind.i64.wrap (a * d)=a * d:=wr_id (by omega) (by omega)
  have w3 : IntKind.i64.wrap (b * c)=b * c:=wr_id (by omega) (by omega)
  have w4 : IntKind.i64.wrap (b * d)=b * d:=wr_id (by omega) (by omega)
  have hr : mulI (a,b) (c,d)=(clp (min (a * c) (min (a * d) (min (b * c) (b * d))) / 65536),clp (shU (max (a * c) (max (a * d) (max (b * c) (b * d)))) 65536)):=by simp only [mulI,hv,if_true]
  rw [hr]
  generalize hp0 : a * c=p0 at *
  generalize hp1 : a * d=p1 at *
  generalize hp2 : b * c=p2 at *
  generalize hp3 : b * d=p3 at *
  have cs:=d231 (min p0 (min p1 (min p2 p3))) (max p0 (max p1 (max p2 p3))) (by omega) (by omega)
  refine detP_of Tryz.func221 rfl (by kernel_rfl) (by simp [Tryz.f221]) rfl ?_
  intro C hP hN
  simp only [Tryz.f221] at hN ⊢
  with_reducible repeat' (first|refine Sp.h ?_|((first|refine Wd ?_|refine Ss.h ?_|refine Sc.h (d230 _ _ _ _) ?_|(refine Sb.h ?_ ?_ ?_<;>(try intro hgd)<;>try exact Xy))<;>simp -implicitDefEqProofs (maxSteps:=2000000) [hP,hN,hv,w1,w2,w3,w4,hp0,hp1,hp2,hp3]<;>try refine Ya ?_)|refine X2 ?_ ?_|(refine Xd ?_ ?_<;>intro hcd<;>try exact Xx))
  refine WP.loopN [] 4 (fun i st=>st.t 4=.ptr 4 0∧st.h 4=some (.box [.pv (Z 0),.pv (Z 0)] true false)∧st.t 40=.pv (.val (.agg #[.int .i64 p0,.int .i64 p1,.int .i64 p2,.int .i64 p3]))∧st.t 41=.pv (Z i)∧
   st.t 6=.pv (Z (if i≤1 then p0 else if i=2 then min p0 p1 else if i=3 then min p0 (min p1 p2) else min p0 (min p1 (min p2 p3))))∧st.t 7=.pv (Z (if i≤1 then p0 else if i=2 then max p0 p1 else if i=3 then max p0 (max p1 p2) else max p0 (max p1 (max p2 p3))))) (by simp) ?_
  rintro i st hi ⟨g4,hb4,g40,g41,g6,g7⟩
  rcases fin4 hi with rfl|rfl|rfl|rfl|rfl
  all_goals (simp at g6 g7)
  ·skip
   with_reducible repeat' (first|refine Sp.h ?_|((first|refine Wd ?_|refine Ss.h ?_|(refine Sb.h ?_ ?_ ?_<;>(try intro hgd)<;>try exact Xy))<;>simp -implicitDefEqProofs (maxSteps:=2000000) [hP,hN,g4,hb4,g40,g41,g6,g7]<;>try refine Ya ?_)|refine X2 ?_ ?_|(refine Xd ?_ ?_<;>intro hcd<;>try exact Xx))
  ·skip
   with_reducible repeat' (first|refine Sp.h ?_|((first|refine Wd ?_|refine Ss.h ?_|(refine Sb.h ?_ ?_ ?_<;>(try intro hgd)<;>try exact Xy))<;>simp -implicitDefEqProofs (maxSteps:=2000000) [hP,hN,g4,hb4,g40,g41,g6,g7]<;>try refine Ya ?_)|refine X2 ?_ ?_|(refine Xd ?_ ?_<;>intro hcd<;>try exact Xx))
  ·skip
   with_reducible repeat' (first|refine Sp.h ?_|((first|refine Wd ?_|refine Ss.h ?_|(refine Sb.h ?_ ?_ ?_<;>(try intro hgd)<;>try exact Xy))<;>simp -implicitDefEqProofs (maxSteps:=2000000) [hP,hN,g4,hb4,g40,g41,g6,g7]<;>try refine Ya ?_)|refine X2 ?_ ?_|(refine Xd ?_ ?_<;>intro hcd<;>try exact Xx))
  ·skip
   with_reducible repeat' (first|refine Sp.h ?_|((first|refine Wd ?_|refine Ss.h ?_|(refine Sb.h ?_ ?_ ?_<;>(try intro hgd)<;>try exact Xy))<;>simp -implicitDefEqProofs (maxSteps:=2000000) [hP,hN,g4,hb4,g40,g41,g6,g7]<;>try refine Ya ?_)|refine X2 ?_ ?_|(refine Xd ?_ ?_<;>intro hcd<;>try exact Xx))
  ·skip
   with_reducible repeat' (first|refine Sp.h ?_|((first|refine Wd ?_|refine Ss.h ?_|refine Sc.h (cs) ?_|(refine Sb.h ?_ ?_ ?_<;>(try intro hgd)<;>try exact Xy))<;>simp -implicitDefEqProofs (maxSteps:=2000000) [hP,hN,g4,hb4,g40,g41,g6,g7]<;>try refine Ya ?_)|refine X2 ?_ ?_|(refine Xd ?_ ?_<;>intro hcd<;>try exact Xx))
end Go.Ab
namespace Go.Ab
open Go.Proofs
def pwD (x : Int) : Nat→Int
 |0=>1073741824
 |1=>x * 6746518852 / 65536
 |k+2=>pwD x (k+1) * (x * 6746518852 / 65536) / 1073741824
def pwU (x : Int) : Nat→Int
 |0=>1073741824
 |1=>shU (x * 6746518853) 65536
 |k+2=>shU (pwU x (k+1) * shU (x * 6746518853) 65536) 1073741824
theorem pwD_rng {x : Int} (h0 : 0≤x) (h1 : x≤8192) : ∀ k,0≤pwD x k∧pwD x k≤1073741824
 |0=>by simp [pwD]
 |1=>by simp only [pwD];omega
 |k+2=>by
  have h:=pwD_rng h0 h1 (k+1)
  have h2 : 0≤x * 6746518852 / 65536∧x * 6746518852 / 65536≤1073741824:=by omega
  simp only [pwD]
  generalize x * 6746518852 / 65536=y at *
  have h3:=Int.mul_nonneg h.1 h2.1
  have h4:=Int.mul_le_mul h.2 h2.2 h2.1 (by decide : (0 : Int)≤1073741824)
  omega
theorem pwU_rng {x : Int} (h0 : 0≤x) (h1 : x≤8192) : ∀ k,0≤pwU x k∧pwU x k≤1073741824
 |0=>by simp [pwU]
 |1=>by simp only [pwU,shU];omega
 |k+2=>by
  have h:=pwU_rng h0 h1 (k+1)
  have h2 : 0≤shU (x * 6746518853) 65536∧shU (x * 6746518853) 65536≤1073741824:=by unfold shU;omega
  simp only [pwU]
  generalize shU (x * 6746518853) 65536=y at *
  have h3:=Int.mul_nonneg h.1 h2.1
  have h4:=Int.mul_le_mul h.2 h2.2 h2.1 (by decide : (0 : Int)≤1073741824)
  unfold shU
  omega
theorem pwD_mul {x : Int} (h0 : 0≤x) (h1 : x≤8192) (j : Nat) : 0≤pwD x j * pwD x 1∧pwD x j * pwD x 1≤1152921504606846976:=by
 have h:=pwD_rng h0 h1 j
 have h2:=pwD_rng h0 h1 1
 have h3:=Int.mul_nonneg h.1 h2.1
 have h4:=Int.mul_le_mul h.2 h2.2 h2.1 (by decide : (0 : Int)≤1073741824)
 omega
theorem pwU_mul {x : Int} (h0 : 0≤x) (h1 : x≤8192) (j : Nat) : 0≤pwU x j * pwU x 1∧pwU x j * pwU x 1≤1152921504606846976:=by
 have h:=pwU_rng h0 h1 j
 have h2:=pwU_rng h0 h1 1
 have h3:=Int.mul_nonneg h.1 h2.1
 have h4:=Int.mul_le_mul h.2 h2.2 h2.1 (by decide : (0 : Int)≤1073741824)
 omega
def p11 (f : Nat→Int) (n : Nat) : List AV:=[.pv (Z (if 0 < n then f 0 else 0)),.pv (Z (if 1 < n then f 1 else 0)),.pv (Z (if 2 < n then f 2 else 0)),.pv (Z (if 3 < n then f 3 else 0)),.pv (Z (if 4 < n then f 4 else 0)),.pv (Z (if 5 < n then f 5 else 0)),
 .pv (Z (if 6 < n then f 6 else 0)),.pv (Z (if 7 < n then f 7 else 0)),.pv (Z (if 8 < n then f 8 else 0)),.pv (Z (if 9 < n then f 9 else 0)),.pv (Z (if 10 < n then f 10 else 0))]
abbrev enc11 (f : Nat→Int) : PV:=.val (.agg #[.int .i64 (f 0),.int .i64 (f 1),.int .i64 (f 2),.int .i64 (f 3),.int .i64 (f 4),.int .i64 (f 5),.int .i64 (f 6),.int .i64 (f 7),.int .i64 (f 8),.int .i64 (f 9),.int .i64 (f 10)])
@[simp] theorem wlit5 : IntKind.i64.wrap 5=5:=by decide
@[simp] theorem wlit6 : IntKind.i64.wrap 6=6:=by decide
@[simp] theorem wlit7 : IntKind.i64.wrap 7=7:=by decide
@[simp] theorem wlit8 : IntKind.i64.wrap 8=8:=by decide
@[simp] theorem wlit9 : IntKind.i64.wrap 9=9:=by decide
@[simp] theorem wlit10 : IntKind.i64.wrap 10=10:=by decide
@[simp] theorem wlit11 : IntKind.i64.wrap 11=11:=by decide
set_option maxHeartbeats 8000000 in
set_option maxRecDepth 4000 in
theorem d263 (x : Int) (h0 : 0≤x) (h1 : x≤8192) : DetH Tryz.prog 263 [.pv (Z x)] [] [] (.pv (.tup [enc11 (pwD x),enc11 (pwU x)])):=by
 have w1 : IntKind.i64.wrap (x * 6746518852)=x * 6746518852:=wr_id (by omega) (by omega)
 have w2 : IntKind.i64.wrap (x * 6746518853)=x * 6746518853:=wr_id (by omega) (by omega)
 have c1 : DetH Tryz.prog 131 [.pv (Z (x * 6746518852)),.pv (Z 16)] [] [] (.pv (Z (pwD x 1))):=dD16 _
 have c2 : DetH Tryz.prog 171 [.pv (Z (x * 6746518853)),.pv (Z 16)] [] [] (.pv (Z (pwU x 1))):=dU16 _ (by omega) (by omega)
 have m1 : ∀ j,IntKind.i64.wrap (pwD x j * pwD x 1)=pwD x j * pwD x 1:=fun j=>wr_id (by have:=pwD_mul h0 h1 j;omega) (by have:=pwD_mul h0 h1 j;omega)
 have m2 : ∀ j,IntKind.i64.wrap (pwU x j * pwU x 1)=pwU x j * pwU x 1:=fun j=>wr_id (by have:=pwU_mul h0 h1 j;omega) (by have:=pwU_mul h0 h1 j;omega)
 have c3 : ∀ j,DetH Tryz.prog 131 [.pv (Z (pwD x (j+1) * pwD x 1)),.pv (Z 30)] [] [] (.pv (Z (pwD x (j+2)))):=fun j=>dD30 _
 have c4 : ∀ j,DetH Tryz.prog 171 [.pv (Z (pwU x (j+1) * pwU x 1)),.pv (Z 30)] [] [] (.pv (Z (pwU x (j+2)))):=fun j=>dU30 _ (by have:=pwU_mul h0 h1 (j+1);omega) (by have:=pwU_mul h0 h1 (j+1);omega)
 have z1 : pwD x 0=1073741824:=rfl
 have z2 : pwU x 0=1073741824:=rfl
 generalize pwD x=f at *
 generalize pwU x=g at *
 refine detP_of Tryz.func263 rfl (by kernel_rfl) (by simp [Tryz.f263]) rfl ?_
 intro C hP hN
 simp only [Tryz.f263] at hN ⊢
 with_reducible repeat' (first|refine Sp.h ?_|((first|refine Wd ?_|refine Ss.h ?_|refine Sc.h (c1) ?_|refine Sc.h (c2) ?_|(refine Sb.h ?_ ?_ ?_<;>(try intro hgd)<;>try exact Xy))<;>simp -implicitDefEqProofs (maxSteps:=2000000) [hP,hN,w1,w2,z1,z2]<;>try refine Ya ?_)|refine X2 ?_ ?_|(refine Xd ?_ ?_<;>intro hcd<;>try exact Xx))
 refine WP.loopN [] 9 (fun i st=>st.t 2=.ptr 2 0∧st.t 3=.ptr 3 0∧st.t 4=.ptr 4 0∧st.t 5=.ptr 5 0∧st.t 6=.pv (Z (i+2 : Nat))∧st.h 2=some (.box (p11 f 0) true false)∧st.h 3=some (.box (p11 f 0) true false)∧st.h 4=some (.box (p11 f (i+2)) true false)∧st.h 5=some (.box (p11 g (i+2)) true false)) (by simp [p11,z1,z2]) ?_
 rintro i st hi ⟨g2,g3,g4,g5,g6,hb2,hb3,hb4,hb5⟩
 have hc : i=0∨i=1∨i=2∨i=3∨i=4∨i=5∨i=6∨i=7∨i=8∨i=9:=by omega
 rcases hc with rfl|rfl|rfl|rfl|rfl|rfl|rfl|rfl|rfl|rfl
 all_goals (simp only [p11] at hb2 hb3 hb4 hb5;simp at g6 hb2 hb3 hb4 hb5)
 all_goals skip
 ·skip
  with_reducible repeat' (first|refine Sp.h ?_|((first|refine Wd ?_|refine Ss.h ?_|refine Sc.h (c3 0) ?_|refine Sc.h (c4 0) ?_|(refine Sb.h ?_ ?_ ?_<;>(try intro hgd)<;>try exact Xy))<;>simp -implicitDefEqProofs (maxSteps:=2000000) [hP,hN,g2,g3,g4,g5,g6,hb2,hb3,hb4,hb5,m1,m2,p11]<;>try refine Ya ?_)|refine X2 ?_ ?_|(refine Xd ?_ ?_<;>intro hcd<;>try exact Xx))
 ·skip
  with_reducible repeat' (first|refine Sp.h ?_|((first|refine Wd ?_|refine Ss.h ?_|refine Sc.h (c3 1) ?_|refine Sc.h (c4 1) ?_|(refine Sb.h ?_ ?_ ?_<;>(try intro hgd)<;>try exact Xy))<;>simp -implicitDefEqProofs (maxSteps:=2000000) [hP,hN,g2,g3,g4,g5,g6,hb2,hb3,hb4,hb5,m1,m2,p11]<;>try refine Ya ?_)|refine X2 ?_ ?_|(refine Xd ?_ ?_<;>intro hcd<;>try exact Xx))
 ·skip
  with_reducible repeat' (first|refine Sp.h ?_|((first|refine Wd ?_|refine Ss.h ?_|refine Sc.h (c3 2) ?_|refine Sc.h (c4 2) ?_|(refine Sb.h ?_ ?_ ?_<;>(try intro hgd)<;>try exact Xy))<;>simp -implicitDefEqProofs (maxSteps:=2000000) [hP,hN,g2,g3,g4,g5,g6,hb2,hb3,hb4,hb5,m1,m2,p11]<;>try refine Ya ?_)|refine X2 ?_ ?_|(refine Xd ?_ ?_<;>intro hcd<;>try exact Xx))
 ·skip
  with_reducible repeat' (first|refine Sp.h ?_|((first|refine Wd ?_|refine Ss.h ?_|refine Sc.h (c3 3) ?_|refine Sc.h (c4 3) ?_|(refine Sb.h ?_ ?_ ?_<;>(try intro hgd)<;>try exact Xy))<;>simp -implicitDefEqProofs (maxSteps:=2000000) [hP,hN,g2,g3,g4,g5,g6,hb2,hb3,hb4,hb5,m1,m2,p11]<;>try refine Ya ?_)|refine X2 ?_ ?_|(refine Xd ?_ ?_<;>intro hcd<;>try exact Xx))
 ·skip
  with_reducible repeat' (first|refine Sp.h ?_|((first|refine Wd ?_|refine Ss.h ?_|refine Sc.h (c3 4) ?_|refine Sc.h (c4 4) ?_|(refine Sb.h ?_ ?_ ?_<;>(try intro hgd)<;>try exact Xy))<;>simp -implicitDefEqProofs (maxSteps:=2000000) [hP,hN,g2,g3,g4,g5,g6,hb2,hb3,hb4,hb5,m1,m2,p11]<;>try refine Ya ?_)|refine X2 ?_ ?_|(refine Xd ?_ ?_<;>intro hcd<;>try exact Xx))
 ·skip
  with_reducible repeat' (first|refine Sp.h ?_|((first|refine Wd ?_|refine Ss.h ?_|refine Sc.h (c3 5) ?_|refine Sc.h (c4 5) ?_|(refine Sb.h ?_ ?_ ?_<;>(try intro hgd)<;>try exact Xy))<;>simp -implicitDefEqProofs (maxSteps:=2000000) [hP,hN,g2,g3,g4,g5,g6,hb2,hb3,hb4,hb5,m1,m2,p11]<;>try refine Ya ?_)|refine X2 ?_ ?_|(refine Xd ?_ ?_<;>intro hcd<;>try exact Xx))
 ·skip
  with_reducible repeat' (first|refine Sp.h ?_|((first|refine Wd ?_|refine Ss.h ?_|refine Sc.h (c3 6) ?_|refine Sc.h (c4 6) ?_|(refine Sb.h ?_ ?_ ?_<;>(try intro hgd)<;>try exact Xy))<;>simp -implicitDefEqProofs (maxSteps:=2000000) [hP,hN,g2,g3,g4,g5,g6,hb2,hb3,hb4,hb5,m1,m2,p11]<;>try refine Ya ?_)|refine X2 ?_ ?_|(refine Xd ?_ ?_<;>intro hcd<;>try exact Xx))
 ·skip
  with_reducible repeat' (first|refine Sp.h ?_|((first|refine Wd ?_|refine Ss.h ?_|refine Sc.h (c3 7) ?_|refine Sc.h (c4 7) ?_|(refine Sb.h ?_ ?_ ?_<;>(try intro hgd)<;>try exact Xy))<;>simp -implicitDefEqProofs (maxSteps:=2000000) [hP,hN,g2,g3,g4,g5,g6,hb2,hb3,hb4,hb5,m1,m2,p11]<;>try refine Ya ?_)|refine X2 ?_ ?_|(refine Xd ?_ ?_<;>intro hcd<;>try exact Xx))
 ·skip
  with_reducible repeat' (first|refine Sp.h ?_|((first|refine Wd ?_|refine Ss.h ?_|refine Sc.h (c3 8) ?_|refine Sc.h (c4 8) ?_|(refine Sb.h ?_ ?_ ?_<;>(try intro hgd)<;>try exact Xy))<;>simp -implicitDefEqProofs (maxSteps:=2000000) [hP,hN,g2,g3,g4,g5,g6,hb2,hb3,hb4,hb5,m1,m2,p11]<;>try refine Ya ?_)|refine X2 ?_ ?_|(refine Xd ?_ ?_<;>intro hcd<;>try exact Xx))
 ·skip
  with_reducible repeat' (first|refine Sp.h ?_|((first|refine Wd ?_|refine Ss.h ?_|(refine Sb.h ?_ ?_ ?_<;>(try intro hgd)<;>try exact Xy))<;>simp -implicitDefEqProofs (maxSteps:=2000000) [hP,hN,g2,g3,g4,g5,g6,hb2,hb3,hb4,hb5,m1,m2,p11]<;>try refine Ya ?_)|refine X2 ?_ ?_|(refine Xd ?_ ?_<;>intro hcd<;>try exact Xx))
end Go.Ab
namespace Go.Ab
open Go.Proofs
def sgI (i : Nat) : Int:=if i % 2=0 then 1 else -1
def altP (xs : List Int) : Nat→Int
 |0=>0
 |i+1=>altP xs i+sgI i * (xs[i]?).getD 0
def altS (xs : List Int) : Int:=altP xs xs.length
theorem sgI_mul (i : Nat) (x : Int) : (sgI i * x=x∨sgI i * x=-x):=by unfold sgI;split<;>simp
theorem sgI_succ (i : Nat) : sgI (i+1)=-sgI i:=by unfold sgI;split<;>split<;>omega
theorem altP_rng {xs : List Int} (hb : ∀ x ∈ xs,-1099511627776≤x∧x≤1099511627776) : ∀ i : Nat,-((i : Int) * 1099511627776)≤altP xs i∧altP xs i≤(i : Int) * 1099511627776
 |0=>by simp [altP]
 |i+1=>by
  have h:=altP_rng hb i
  have h2 : -1099511627776≤(xs[i]?).getD 0∧(xs[i]?).getD 0≤1099511627776:=by
   cases hx : xs[i]? with
   |none=>simp
   |some y=>exact hb y (List.mem_of_getElem? hx)
  have h3:=sgI_mul i ((xs[i]?).getD 0)
  simp only [altP]
  omega
set_option maxHeartbeats 2000000 in
theorem d264 (xs : List Int) (hl : xs.length≤1000) (hb : ∀ x ∈ xs,-1099511627776≤x∧x≤1099511627776) : DetH Tryz.prog 264 [.pv (zs xs)] [] [] (.pv (Z (altS xs))):=by
 refine detP_of Tryz.func264 rfl (by kernel_rfl) (by simp [Tryz.f264]) rfl ?_
 intro C hP hN
 simp only [Tryz.f264] at hN ⊢
 with_reducible repeat' (first|refine Sp.h ?_|((first|refine Ss.h ?_|(refine Sb.h ?_ ?_ ?_<;>(try intro hgd)<;>try exact Xy))<;>simp -implicitDefEqProofs (maxSteps:=2000000) [hP,hN])|refine X2 ?_ ?_|(refine Xd ?_ ?_<;>intro hcd<;>try exact Xx))
 refine WP.loopN [] xs.length (fun i st=>st.t 3=.pv (Z (altP xs i))∧st.t 4=.pv (Z (sgI i))∧st.t 7=.pv (zs xs)∧st.t 8=.pv (Z xs.length)∧st.t 9=.pv (Z i)) (by simp [altP,sgI]) ?_
 rintro i st hi ⟨g3,g4,g7,g8,g9⟩
 by_cases hlt : i < xs.length
 ·have hw:=wr_succ hlt (by omega)
  have hxi : xs[i]?=some xs[i]:=List.getElem?_eq_getElem hlt
  have hr:=hb xs[i] (List.getElem_mem hlt)
  have ha:=altP_rng hb i
  have h3:=sgI_mul i xs[i]
  have w1 : IntKind.i64.wrap (sgI i * xs[i])=sgI i * xs[i]:=wr_id (by omega) (by omega)
  have w2 : IntKind.i64.wrap (altP xs i+sgI i * xs[i])=altP xs (i+1):=(wr_id (by omega) (by omega)).trans (by simp [altP,hxi])
  have w3 : IntKind.i64.wrap (-sgI i)=sgI (i+1):=by
   rw [sgI_succ];unfold sgI;split<;>decide
  have w4 : IntKind.i64.wrap (0 - sgI i)=sgI (i+1):=by
   rw [sgI_succ];unfold sgI;split<;>decide
  with_reducible repeat' (first|refine Sp.h ?_|((first|refine Ss.h ?_|(refine Sb.h ?_ ?_ ?_<;>(try intro hgd)<;>try exact Xy))<;>simp -implicitDefEqProofs (maxSteps:=2000000) [hP,hN,g3,g4,g7,g8,g9,hlt,hw,w1,w2,w3,w4])|refine X2 ?_ ?_|(refine Xd ?_ ?_<;>intro hcd<;>try exact Xx))
 ·skip
  with_reducible repeat' (first|refine Sp.h ?_|((first|refine Ss.h ?_|(refine Sb.h ?_ ?_ ?_<;>(try intro hgd)<;>try exact Xy))<;>simp -implicitDefEqProofs (maxSteps:=2000000) [hP,hN,g3,g4,g7,g8,g9,hlt])|refine X2 ?_ ?_|(refine Xd ?_ ?_<;>intro hcd<;>try exact Xx))
  all_goals (have : i=xs.length:=by omega
             subst this;rfl)
def ceilI (n d : Int) : Int:=(n+d - 1) / d
theorem d265 (n d : Int) (hn : 0≤n) (hn' : n≤1099511627776) (hd : 1≤d) (hd' : d≤1099511627776) : DetH Tryz.prog 265 [.pv (Z n),.pv (Z d)] [] [] (.pv (Z (ceilI n d))):=by
 have w1 : IntKind.i64.wrap (n+d)=n+d:=wr_id (by omega) (by omega)
 have w2 : IntKind.i64.wrap (n+d - 1)=n+d - 1:=wr_id (by omega) (by omega)
 have hq : (n+d - 1).tdiv d=(n+d - 1) / d:=Int.tdiv_eq_ediv_of_nonneg (by omega)
 have hq1 : 0≤(n+d - 1) / d:=Int.ediv_nonneg (by omega) (by omega)
 have hq2 : (n+d - 1) / d≤n+d - 1:=Int.ediv_le_self _ (by omega)
 have w3 : IntKind.i64.wrap ((n+d - 1) / d)=(n+d - 1) / d:=wr_id (by omega) (by omega)
 have hne : d≠0:=by omega
 refine detP_of Tryz.func265 rfl (by kernel_rfl) (by simp [Tryz.f265]) rfl ?_
 intro C hP hN
 simp only [Tryz.f265] at hN ⊢
 with_reducible repeat' (first|refine Sp.h ?_|((first|refine Ss.h ?_|(refine Sb.h ?_ ?_ ?_<;>(try intro hgd)<;>try exact Xy))<;>simp -implicitDefEqProofs (maxSteps:=2000000) [hP,hN,w1,w2,w3,hq,hne])|refine X2 ?_ ?_|(refine Xd ?_ ?_<;>intro hcd<;>try exact Xx))
 all_goals rfl
def encl (lo hi : Int) : Iv:=(max 0 (lo / 16384),min 65536 (shU hi 16384))
theorem d266 (lo hi : Int) (h1 : -4611686018427387904≤hi) (h2 : hi≤4611686018427387904) : DetH Tryz.prog 266 [.pv (Z lo),.pv (Z hi)] [] [] (.pv (encI (encl lo hi))):=by
 refine detP_of Tryz.func266 rfl (by kernel_rfl) (by simp [Tryz.f266]) rfl ?_
 intro C hP hN
 simp only [Tryz.f266] at hN ⊢
 with_reducible repeat' (first|refine Sp.h ?_|((first|refine Ss.h ?_|refine Sc.h (dD14 _) ?_|refine Sc.h (dU14 _ h1 h2) ?_|(refine Sb.h ?_ ?_ ?_<;>(try intro hgd)<;>try exact Xy))<;>simp -implicitDefEqProofs (maxSteps:=2000000) [hP,hN])|refine X2 ?_ ?_|(refine Xd ?_ ?_<;>intro hcd<;>try exact Xx))
 all_goals simp [encl]
def sineL (f g : Nat→Int) : List Int:=[f 1,ceilI (g 3) 6,f 5 / 120,ceilI (g 7) 5040]
def sineH (f g : Nat→Int) : List Int:=[g 1,f 3 / 6,ceilI (g 5) 120,f 7 / 5040,ceilI (g 9) 362880]
def cosL (f g : Nat→Int) : List Int:=[1073741824,ceilI (g 2) 2,f 4 / 24,ceilI (g 6) 720,f 8 / 40320,ceilI (g 10) 3628800]
def cosH (f g : Nat→Int) : List Int:=[1073741824,f 2 / 2,ceilI (g 4) 24,f 6 / 720,ceilI (g 8) 40320]
def sineI (x : Int) : Iv:=encl (altS (sineL (pwD x) (pwU x))) (altS (sineH (pwD x) (pwU x)))
def cosI (x : Int) : Iv:=encl (altS (cosL (pwD x) (pwU x))) (altS (cosH (pwD x) (pwU x)))
theorem ceil_rng {n d : Int} (h0 : 0≤n) (h1 : n≤1073741824) (hd : 1≤d) (hd' : d≤4000000) : 0≤ceilI n d∧ceilI n d≤1099511627776:=by
 unfold ceilI
 have hq1 : 0≤(n+d - 1) / d:=Int.ediv_nonneg (by omega) (by omega)
 have hq2 : (n+d - 1) / d≤n+d - 1:=Int.ediv_le_self _ (by omega)
 omega
theorem td_ {f : Nat→Int} (hf : ∀ j,0≤f j∧f j≤1073741824) (j : Nat) (d : Int) : (f j).tdiv d=f j / d:=Int.tdiv_eq_ediv_of_nonneg (hf j).1
theorem dv_ {f : Nat→Int} (hf : ∀ j,0≤f j∧f j≤1073741824) (j : Nat) {d : Int} (hd : 0 < d) : 0≤f j / d∧f j / d≤1073741824:=by
 have h:=hf j
 have hq1 : 0≤f j / d:=Int.ediv_nonneg (by omega) (by omega)
 have hq2 : f j / d≤f j:=Int.ediv_le_self _ (by omega)
 omega
theorem dw_ {f : Nat→Int} (hf : ∀ j,0≤f j∧f j≤1073741824) (j : Nat) {d : Int} (hd : 0 < d) : IntKind.i64.wrap (f j / d)=f j / d:=by
 have:=dv_ hf j hd
 exact wr_id (by omega) (by omega)
set_option maxHeartbeats 4000000 in
theorem d261 (x : Int) (h0 : 0≤x) (h1 : x≤8192) : DetH Tryz.prog 261 [.pv (Z x)] [] [] (.pv (encI (sineI x))):=by
 have cp:=d263 x h0 h1
 have hf:=pwD_rng h0 h1
 have hg:=pwU_rng h0 h1
 show DetH _ _ _ _ _ (.pv (encI (encl (altS (sineL (pwD x) (pwU x))) (altS (sineH (pwD x) (pwU x))))))
 generalize pwD x=f at *
 generalize pwU x=g at *
 have k1 : ∀ y ∈ sineL f g,-1099511627776≤y∧y≤1099511627776:=by
  intro y hy
  have a1:=hf 1
  have a2:=ceil_rng (d:=6) (hg 3).1 (hg 3).2 (by decide) (by decide)
  have a3:=dv_ hf 5 (d:=120) (by decide)
  have a4:=ceil_rng (d:=5040) (hg 7).1 (hg 7).2 (by decide) (by decide)
  simp only [sineL,List.mem_cons,List.not_mem_nil,or_false] at hy
  rcases hy with rfl|rfl|rfl|rfl<;>omega
 have k2 : ∀ y ∈ sineH f g,-1099511627776≤y∧y≤1099511627776:=by
  intro y hy
  have a1:=hg 1
  have a2:=ceil_rng (d:=120) (hg 5).1 (hg 5).2 (by decide) (by decide)
  have a3:=dv_ hf 3 (d:=6) (by decide)
  have a4:=ceil_rng (d:=362880) (hg 9).1 (hg 9).2 (by decide) (by decide)
  have a5:=dv_ hf 7 (d:=5040) (by decide)
  simp only [sineH,List.mem_cons,List.not_mem_nil,or_false] at hy
  rcases hy with rfl|rfl|rfl|rfl|rfl<;>omega
 have b2:=altP_rng k2 5
 have b3 : -(((5 : Nat) : Int) * 1099511627776)≤altS (sineH f g)∧altS (sineH f g)≤((5 : Nat) : Int) * 1099511627776:=b2
 have ca : DetH Tryz.prog 264 [.pv (.sl [Z (f 1),Z (ceilI (g 3) 6),Z (f 5 / 120),Z (ceilI (g 7) 5040)])] [] [] (.pv (Z (altS (sineL f g)))):=d264 (sineL f g) (by simp [sineL]) k1
 have cb : DetH Tryz.prog 264 [.pv (.sl [Z (g 1),Z (f 3 / 6),Z (ceilI (g 5) 120),Z (f 7 / 5040),Z (ceilI (g 9) 362880)])] [] [] (.pv (Z (altS (sineH f g)))):=d264 (sineH f g) (by simp [sineH]) k2
 have c3:=d265 (g 3) 6 (hg 3).1 (by have:=hg 3;omega) (by decide) (by decide)
 have c7:=d265 (g 7) 5040 (hg 7).1 (by have:=hg 7;omega) (by decide) (by decide)
 have c5:=d265 (g 5) 120 (hg 5).1 (by have:=hg 5;omega) (by decide) (by decide)
 have c9:=d265 (g 9) 362880 (hg 9).1 (by have:=hg 9;omega) (by decide) (by decide)
 have ce:=d266 (altS (sineL f g)) (altS (sineH f g)) (by omega) (by omega)
 generalize altS (sineL f g)=lo at *
 generalize altS (sineH f g)=hi at *
 have t1:=td_ hf 5 120
 have t2:=td_ hf 3 6
 have t3:=td_ hf 7 5040
 have w1:=dw_ hf 5 (d:=120) (by decide)
 have w2:=dw_ hf 3 (d:=6) (by decide)
 have w3:=dw_ hf 7 (d:=5040) (by decide)
 refine detP_of Tryz.func261 rfl (by kernel_rfl) (by simp [Tryz.f261]) rfl ?_
 intro C hP hN
 simp only [Tryz.f261] at hN ⊢
 with_reducible repeat' (first|refine Sp.h ?_|((first|refine Wd ?_|refine Ss.h ?_|refine Sc.h (cp) ?_|refine Sc.h (c3) ?_|refine Sc.h (c7) ?_|refine Sc.h (c5) ?_|refine Sc.h (c9) ?_|refine Sc.h (ca) ?_|refine Sc.h (cb) ?_|refine Sc.h (ce) ?_|(refine Sb.h ?_ ?_ ?_<;>(try intro hgd)<;>try exact Xy))<;>simp -implicitDefEqProofs (maxSteps:=2000000) [hP,hN,t1,t2,t3,w1,w2,w3]<;>try refine Ya ?_)|refine X2 ?_ ?_|(refine Xd ?_ ?_<;>intro hcd<;>try exact Xx))
set_option maxHeartbeats 4000000 in
theorem d262 (x : Int) (h0 : 0≤x) (h1 : x≤8192) : DetH Tryz.prog 262 [.pv (Z x)] [] [] (.pv (encI (cosI x))):=by
 have cp:=d263 x h0 h1
 have hf:=pwD_rng h0 h1
 have hg:=pwU_rng h0 h1
 show DetH _ _ _ _ _ (.pv (encI (encl (altS (cosL (pwD x) (pwU x))) (altS (cosH (pwD x) (pwU x))))))
 generalize pwD x=f at *
 generalize pwU x=g at *
 have k1 : ∀ y ∈ cosL f g,-1099511627776≤y∧y≤1099511627776:=by
  intro y hy
  have a2:=ceil_rng (d:=2) (hg 2).1 (hg 2).2 (by decide) (by decide)
  have a3:=dv_ hf 4 (d:=24) (by decide)
  have a4:=ceil_rng (d:=720) (hg 6).1 (hg 6).2 (by decide) (by decide)
  have a5:=dv_ hf 8 (d:=40320) (by decide)
  have a6:=ceil_rng (d:=3628800) (hg 10).1 (hg 10).2 (by decide) (by decide)
  simp only [cosL,List.mem_cons,List.not_mem_nil,or_false] at hy
  rcases hy with rfl|rfl|rfl|rfl|rfl|rfl<;>omega
 have k2 : ∀ y ∈ cosH f g,-1099511627776≤y∧y≤1099511627776:=by
  intro y hy
  have a2:=ceil_rng (d:=24) (hg 4).1 (hg 4).2 (by decide) (by decide)
  have a3:=dv_ hf 2 (d:=2) (by decide)
  have a4:=ceil_rng (d:=40320) (hg 8).1 (hg 8).2 (by decide) (by decide)
  have a5:=dv_ hf 6 (d:=720) (by decide)
  simp only [cosH,List.mem_cons,List.not_mem_nil,or_false] at hy
  rcases hy with rfl|rfl|rfl|rfl|rfl<;>omega
 have b2:=altP_rng k2 5
 have b3 : -(((5 : Nat) : Int) * 1099511627776)≤altS (cosH f g)∧altS (cosH f g)≤((5 : Nat) : Int) * 1099511627776:=b2
 have ca : DetH Tryz.prog 264 [.pv (.sl [Z 1073741824,Z (ceilI (g 2) 2),Z (f 4 / 24),Z (ceilI (g 6) 720),Z (f 8 / 40320),Z (ceilI (g 10) 3628800)])] [] [] (.pv (Z (altS (cosL f g)))):=d264 (cosL f g) (by simp [cosL]) k1
 have cb : DetH Tryz.prog 264 [.pv (.sl [Z 1073741824,Z (f 2 / 2),Z (ceilI (g 4) 24),Z (f 6 / 720),Z (ceilI (g 8) 40320)])] [] [] (.pv (Z (altS (cosH f g)))):=d264 (cosH f g) (by simp [cosH]) k2
 have c2:=d265 (g 2) 2 (hg 2).1 (by have:=hg 2;omega) (by decide) (by decide)
 have c6:=d265 (g 6) 720 (hg 6).1 (by have:=hg 6;omega) (by decide) (by decide)
 have c10:=d265 (g 10) 3628800 (hg 10).1 (by have:=hg 10;omega) (by decide) (by decide)
 have c4:=d265 (g 4) 24 (hg 4).1 (by have:=hg 4;omega) (by decide) (by decide)
 have c8:=d265 (g 8) 40320 (hg 8).1 (by have:=hg 8;omega) (by decide) (by decide)
 have ce:=d266 (altS (cosL f g)) (altS (cosH f g)) (by omega) (by omega)
 generalize altS (cosL f g)=lo at *
 generalize altS (cosH f g)=hi at *
 have t1:=td_ hf 4 24
 have t2:=td_ hf 8 40320
 have t3:=td_ hf 2 2
 have t4:=td_ hf 6 720
 have w1:=dw_ hf 4 (d:=24) (by decide)
 have w2:=dw_ hf 8 (d:=40320) (by decide)
 have w3:=dw_ hf 2 (d:=2) (by decide)
 have w4:=dw_ hf 6 (d:=720) (by decide)
 refine detP_of Tryz.func262 rfl (by kernel_rfl) (by simp [Tryz.f262]) rfl ?_
 intro C hP hN
 simp only [Tryz.f262] at hN ⊢
 with_reducible repeat' (first|refine Sp.h ?_|((first|refine Wd ?_|refine Ss.h ?_|refine Sc.h (cp) ?_|refine Sc.h (c2) ?_|refine Sc.h (c6) ?_|refine Sc.h (c10) ?_|refine Sc.h (c4) ?_|refine Sc.h (c8) ?_|refine Sc.h (ca) ?_|refine Sc.h (cb) ?_|refine Sc.h (ce) ?_|(refine Sb.h ?_ ?_ ?_<;>(try intro hgd)<;>try exact Xy))<;>simp -implicitDefEqProofs (maxSteps:=2000000) [hP,hN,t1,t2,t3,t4,w1,w2,w3,w4]<;>try refine Ya ?_)|refine X2 ?_ ?_|(refine Xd ?_ ?_<;>intro hcd<;>try exact Xx))
def firstI (r : Int) : Iv:=if r≤8192 then sineI r else cosI (16384 - r)
theorem d257 (r : Int) (h0 : 0≤r) (h1 : r≤16384) : DetH Tryz.prog 257 [.pv (Z r)] [] [] (.pv (encI (firstI r))):=by
 have w1 : IntKind.i64.wrap (16384 - r)=16384 - r:=wr_id (by omega) (by omega)
 by_cases h : r≤8192
 ·have hf : firstI r=sineI r:=by simp [firstI,h]
  have cs:=d261 r h0 h
  rw [hf]
  generalize sineI r=y at *
  refine detP_of Tryz.func257 rfl (by kernel_rfl) (by simp [Tryz.f257]) rfl ?_
  intro C hP hN
  simp only [Tryz.f257] at hN ⊢
  with_reducible repeat' (first|refine Sp.h ?_|((first|refine Ss.h ?_|refine Sc.h (cs) ?_|(refine Sb.h ?_ ?_ ?_<;>(try intro hgd)<;>try exact Xy))<;>simp -implicitDefEqProofs (maxSteps:=2000000) [hP,hN,h])|refine X2 ?_ ?_|(refine Xd ?_ ?_<;>intro hcd<;>try exact Xx))
 ·have hf : firstI r=cosI (16384 - r):=by simp [firstI,h]
  have cs:=d262 (16384 - r) (by omega) (by omega)
  rw [hf]
  generalize cosI (16384 - r)=y at *
  refine detP_of Tryz.func257 rfl (by kernel_rfl) (by simp [Tryz.f257]) rfl ?_
  intro C hP hN
  simp only [Tryz.f257] at hN ⊢
  with_reducible repeat' (first|refine Sp.h ?_|((first|refine Ss.h ?_|refine Sc.h (cs) ?_|(refine Sb.h ?_ ?_ ?_<;>(try intro hgd)<;>try exact Xy))<;>simp -implicitDefEqProofs (maxSteps:=2000000) [hP,hN,h,w1])|refine X2 ?_ ?_|(refine Xd ?_ ?_<;>intro hcd<;>try exact Xx))
theorem and16 (a : Int) : bitI .and .i64 a 65535=a % 65536:=by
 unfold bitI
 have h1 : (BitVec.ofInt 64 a &&& BitVec.ofInt 64 65535).toNat=(a % 65536).toNat:=by
  rw [BitVec.toNat_and,BitVec.toNat_ofInt,BitVec.toNat_ofInt]
  have e1 : ((65535 : Int) % ((2 ^ 64 : Nat) : Int)).toNat=2 ^ 16 - 1:=by decide
  rw [e1,Nat.and_two_pow_sub_one_eq_mod]
  have h0 : 0≤a % ((2 ^ 64 : Nat) : Int):=Int.emod_nonneg _ (by decide)
  have h2 : (a % ((2 ^ 64 : Nat) : Int)) % 65536=a % 65536:=Int.emod_emod_of_dvd a (by decide)
  omega
 show IntKind.i64.wrap ((BitVec.ofInt 64 a &&& BitVec.ofInt 64 65535).toNat : Int)=_
 rw [h1,IntKind.wrap_i64]
 have:=Int.emod_nonneg a (b:=65536) (by decide)
 have:=Int.emod_lt_of_pos a (b:=65536) (by decide)
 omega
theorem d256 (a : Int) : DetH Tryz.prog 256 [.pv (Z a)] [] [] (.pv (Z (a % 65536))):=by
 refine detP_of Tryz.func256 rfl (by kernel_rfl) (by simp [Tryz.f256]) rfl ?_
 intro C hP hN
 simp only [Tryz.f256] at hN ⊢
 with_reducible repeat' (first|refine Sp.h ?_|((first|refine Ss.h ?_|(refine Sb.h ?_ ?_ ?_<;>(try intro hgd)<;>try exact Xy))<;>simp -implicitDefEqProofs (maxSteps:=2000000) [hP,hN,and16])|refine X2 ?_ ?_|(refine Xd ?_ ?_<;>intro hcd<;>try exact Xx))
def sinM (m : Int) : Iv:=if m / 16384=0 then firstI (m % 16384) else if m / 16384=1 then firstI (16384 - m % 16384) else if m / 16384=2 then negI (firstI (m % 16384)) else negI (firstI (16384 - m % 16384))
def sinA (a : Int) : Iv:=sinM (a % 65536)
set_option maxHeartbeats 2000000 in
theorem d250 (a : Int) : DetH Tryz.prog 250 [.pv (Z a)] [] [] (.pv (encI (sinA a))):=by
 have cm:=d256 a
 show DetH _ _ _ _ _ (.pv (encI (sinM (a % 65536))))
 have r1:=Int.emod_nonneg a (b:=65536) (by decide)
 have r2:=Int.emod_lt_of_pos a (b:=65536) (by decide)
 generalize a % 65536=m at *
 have t1 : m.tmod 16384=m % 16384:=Int.tmod_eq_emod_of_nonneg r1
 have t2 : m.tdiv 16384=m / 16384:=Int.tdiv_eq_ediv_of_nonneg r1
 have w1 : IntKind.i64.wrap (m / 16384)=m / 16384:=wr_id (by omega) (by omega)
 have w2 : IntKind.i64.wrap (m % 16384)=m % 16384:=wr_id (by omega) (by omega)
 have w3 : IntKind.i64.wrap (16384 - m % 16384)=16384 - m % 16384:=wr_id (by omega) (by omega)
 have cf:=d257 (m % 16384) (by omega) (by omega)
 have cg:=d257 (16384 - m % 16384) (by omega) (by omega)
 have key : m / 16384=0∨m / 16384=1∨m / 16384=2∨m / 16384=3:=by omega
 rcases key with hk|hk|hk|hk
 ·have hf : sinM m=firstI (m % 16384):=by simp [sinM,hk]
  rw [hf]
  generalize firstI (m % 16384)=y at *
  refine detP_of Tryz.func250 rfl (by kernel_rfl) (by simp [Tryz.f250]) rfl ?_
  intro C hP hN
  simp only [Tryz.f250] at hN ⊢
  with_reducible repeat' (first|refine Sp.h ?_|((first|refine Ss.h ?_|refine Sc.h (cm) ?_|refine Sc.h (cf) ?_|(refine Sb.h ?_ ?_ ?_<;>(try intro hgd)<;>try exact Xy))<;>simp -implicitDefEqProofs (maxSteps:=2000000) [hP,hN,t1,t2,w1,w2,w3,hk])|refine X2 ?_ ?_|(refine Xd ?_ ?_<;>intro hcd<;>try exact Xx))
 ·have hf : sinM m=firstI (16384 - m % 16384):=by simp [sinM,hk]
  rw [hf]
  generalize firstI (16384 - m % 16384)=y at *
  refine detP_of Tryz.func250 rfl (by kernel_rfl) (by simp [Tryz.f250]) rfl ?_
  intro C hP hN
  simp only [Tryz.f250] at hN ⊢
  with_reducible repeat' (first|refine Sp.h ?_|((first|refine Ss.h ?_|refine Sc.h (cm) ?_|refine Sc.h (cg) ?_|(refine Sb.h ?_ ?_ ?_<;>(try intro hgd)<;>try exact Xy))<;>simp -implicitDefEqProofs (maxSteps:=2000000) [hP,hN,t1,t2,w1,w2,w3,hk])|refine X2 ?_ ?_|(refine Xd ?_ ?_<;>intro hcd<;>try exact Xx))
 ·have hf : sinM m=negI (firstI (m % 16384)):=by simp [sinM,hk]
  rw [hf]
  generalize firstI (m % 16384)=y at *
  refine detP_of Tryz.func250 rfl (by kernel_rfl) (by simp [Tryz.f250]) rfl ?_
  intro C hP hN
  simp only [Tryz.f250] at hN ⊢
  with_reducible repeat' (first|refine Sp.h ?_|((first|refine Ss.h ?_|refine Sc.h (cm) ?_|refine Sc.h (cf) ?_|refine Sc.h (d243) ?_|(refine Sb.h ?_ ?_ ?_<;>(try intro hgd)<;>try exact Xy))<;>simp -implicitDefEqProofs (maxSteps:=2000000) [hP,hN,t1,t2,w1,w2,w3,hk])|refine X2 ?_ ?_|(refine Xd ?_ ?_<;>intro hcd<;>try exact Xx))
 ·have hf : sinM m=negI (firstI (16384 - m % 16384)):=by simp [sinM,hk]
  rw [hf]
  generalize firstI (16384 - m % 16384)=y at *
  refine detP_of Tryz.func250 rfl (by kernel_rfl) (by simp [Tryz.f250]) rfl ?_
  intro C hP hN
  simp only [Tryz.f250] at hN ⊢
  with_reducible repeat' (first|refine Sp.h ?_|((first|refine Ss.h ?_|refine Sc.h (cm) ?_|refine Sc.h (cg) ?_|refine Sc.h (d243) ?_|(refine Sb.h ?_ ?_ ?_<;>(try intro hgd)<;>try exact Xy))<;>simp -implicitDefEqProofs (maxSteps:=2000000) [hP,hN,t1,t2,w1,w2,w3,hk])|refine X2 ?_ ?_|(refine Xd ?_ ?_<;>intro hcd<;>try exact Xx))
def cosA (a : Int) : Iv:=sinA (a % 65536+16384)
theorem d249 (a : Int) : DetH Tryz.prog 249 [.pv (Z a)] [] [] (.pv (encI (cosA a))):=by
 have cm:=d256 a
 show DetH _ _ _ _ _ (.pv (encI (sinA (a % 65536+16384))))
 have r1:=Int.emod_nonneg a (b:=65536) (by decide)
 have r2:=Int.emod_lt_of_pos a (b:=65536) (by decide)
 generalize a % 65536=m at *
 have w1 : IntKind.i64.wrap (m+16384)=m+16384:=wr_id (by omega) (by omega)
 have cs:=d250 (m+16384)
 generalize sinA (m+16384)=y at *
 refine detP_of Tryz.func249 rfl (by kernel_rfl) (by simp [Tryz.f249]) rfl ?_
 intro C hP hN
 simp only [Tryz.f249] at hN ⊢
 with_reducible repeat' (first|refine Sp.h ?_|((first|refine Ss.h ?_|refine Sc.h (cm) ?_|refine Sc.h (cs) ?_|(refine Sb.h ?_ ?_ ?_<;>(try intro hgd)<;>try exact Xy))<;>simp -implicitDefEqProofs (maxSteps:=2000000) [hP,hN,w1])|refine X2 ?_ ?_|(refine Xd ?_ ?_<;>intro hcd<;>try exact Xx))
def meetsI (a : Iv) (t : Int) : Bool:=validB a.1 a.2 && decide (a.1≤a.1+(t - a.1) % 65536) && decide (a.1+(t - a.1) % 65536≤a.2)
theorem d255 {a b : Int} (t : Int) (h1 : -2147483648≤a) (h2 : a≤2147483648) (h3 : -2147483648≤t) (h4 : t≤2147483648) : DetH Tryz.prog 255 [.pv (I a b),.pv (Z t)] [] [] (.pv (B (meetsI (a,b) t))):=by
 have w1 : IntKind.i64.wrap (t - a)=t - a:=wr_id (by omega) (by omega)
 have r1:=Int.emod_nonneg (t - a) (b:=65536) (by decide)
 have r2:=Int.emod_lt_of_pos (t - a) (b:=65536) (by decide)
 have w2 : IntKind.i64.wrap (a+(t - a) % 65536)=a+(t - a) % 65536:=wr_id (by omega) (by omega)
 have cm:=d256 (t - a)
 refine detP_of Tryz.func255 rfl (by kernel_rfl) (by simp [Tryz.f255]) rfl ?_
 intro C hP hN
 simp only [Tryz.f255] at hN ⊢
 with_reducible repeat' (first|refine Sp.h ?_|((first|refine Wd ?_|refine Ss.h ?_|refine Sc.h (cm) ?_|refine Sc.h (d260 _ _ _) ?_|(refine Sb.h ?_ ?_ ?_<;>(try intro hgd)<;>try exact Xy))<;>simp -implicitDefEqProofs (maxSteps:=2000000) [hP,hN,w1,w2]<;>try refine Ya ?_)|refine X2 ?_ ?_|(refine Xd ?_ ?_<;>intro hcd<;>try exact Xx))
 all_goals (try simp [meetsI])
def overI (a : Iv) (v : Int→Iv) (t b : Int) : Iv:=if validB a.1 a.2=false then (0,0) else if 65536≤a.2 - a.1 then (-65536,65536) else
 let h:=hullI (v a.1) (v a.2)
 let h1:=if meetsI a t then hullI h (ofI 65536) else h
 if meetsI a b then hullI h1 (ofI (-65536)) else h1
set_option maxHeartbeats 4000000 in
theorem d248 {a b : Int} (f : FuncId) (v : Int→Iv) (t u : Int) (hf : ∀ x,DetH Tryz.prog f [.pv (Z x)] [] [] (.pv (encI (v x)))) (ht : -2147483648≤t) (ht' : t≤2147483648) (hu : -2147483648≤u) (hu' : u≤2147483648) : DetH Tryz.prog 248 [.pv (I a b),.pv (Fv f),.pv (Z t),.pv (Z u)] [] [] (.pv (encI (overI (a,b) v t u))):=by
 cases hv : validB a b with
 |false=>
  have hr : overI (a,b) v t u=(0,0):=by simp [overI,hv]
  rw [hr]
  refine detP_of Tryz.func248 rfl (by kernel_rfl) (by simp [Tryz.f248]) rfl ?_
  intro C hP hN
  simp only [Tryz.f248] at hN ⊢
  with_reducible repeat' (first|refine Sp.h ?_|((first|refine Wd ?_|refine Ss.h ?_|refine Sc.h (d69 _ _) ?_|(refine Sb.h ?_ ?_ ?_<;>(try intro hgd)<;>try exact Xy))<;>simp -implicitDefEqProofs (maxSteps:=2000000) [hP,hN,hv]<;>try refine Ya ?_)|refine X2 ?_ ?_|(refine Xd ?_ ?_<;>intro hcd<;>try exact Xx))
 |true=>
  have hv':=valid_iff.1 hv
  have w1 : IntKind.i64.wrap (b - a)=b - a:=wr_id (by omega) (by omega)
  have cm:=d255 (a:=a) (b:=b) t (by omega) (by omega) ht ht'
  have cn:=d255 (a:=a) (b:=b) u (by omega) (by omega) hu hu'
  have o1 : DetH Tryz.prog 198 [.pv (Z 65536)] [] [] (.pv (I 65536 65536)):=dOof 65536
  have o2 : DetH Tryz.prog 198 [.pv (Z (-65536))] [] [] (.pv (I (-65536) (-65536))):=dOof (-65536)
  by_cases hw : 65536≤b - a
  ·have hr : overI (a,b) v t u=(-65536,65536):=by simp [overI,hv,hw]
   rw [hr]
   refine detP_of Tryz.func248 rfl (by kernel_rfl) (by simp [Tryz.f248]) rfl ?_
   intro C hP hN
   simp only [Tryz.f248] at hN ⊢
   with_reducible repeat' (first|refine Sp.h ?_|((first|refine Wd ?_|refine Ss.h ?_|refine Sc.h (d69 _ _) ?_|refine Sc.h (d253 _ _) ?_|(refine Sb.h ?_ ?_ ?_<;>(try intro hgd)<;>try exact Xy))<;>simp -implicitDefEqProofs (maxSteps:=2000000) [hP,hN,hv,w1,hw]<;>try refine Ya ?_)|refine X2 ?_ ?_|(refine Xd ?_ ?_<;>intro hcd<;>try exact Xx))
  ·have hr : overI (a,b) v t u=(let h:=hullI (v a) (v b);let h1:=if meetsI (a,b) t then hullI h (65536,65536) else h;if meetsI (a,b) u then hullI h1 (-65536,-65536) else h1):=by
    have e1 : ofI 65536=(65536,65536):=by decide
    have e2 : ofI (-65536)=(-65536,-65536):=by decide
    simp [overI,hv,hw,e1,e2]
   rw [hr]
   cases hm1 : meetsI (a,b) t<;>cases hm2 : meetsI (a,b) u<;>rw [hm1] at cm<;>rw [hm2] at cn
   ·skip
    refine detP_of Tryz.func248 rfl (by kernel_rfl) (by simp [Tryz.f248]) rfl ?_
    intro C hP hN
    simp only [Tryz.f248] at hN ⊢
    with_reducible repeat' (first|refine Sp.h ?_|((first|refine Wd ?_|refine Ss.h ?_|refine Sc.h (d69 _ _) ?_|refine Sc.h (d253 _ _) ?_|refine Sc.h (hf _) ?_|refine Sc.h (d254 _ _ _ _) ?_|refine Sc.h (cm) ?_|refine Sc.h (cn) ?_|(refine Sb.h ?_ ?_ ?_<;>(try intro hgd)<;>try exact Xy))<;>simp -implicitDefEqProofs (maxSteps:=2000000) [hP,hN,hv,w1,hw]<;>try refine Ya ?_)|refine X2 ?_ ?_|(refine Xd ?_ ?_<;>intro hcd<;>try exact Xx))
    all_goals (try simp)
   ·skip
    refine detP_of Tryz.func248 rfl (by kernel_rfl) (by simp [Tryz.f248]) rfl ?_
    intro C hP hN
    simp only [Tryz.f248] at hN ⊢
    with_reducible repeat' (first|refine Sp.h ?_|((first|refine Wd ?_|refine Ss.h ?_|refine Sc.h (d69 _ _) ?_|refine Sc.h (d253 _ _) ?_|refine Sc.h (hf _) ?_|refine Sc.h (d254 _ _ _ _) ?_|refine Sc.h (cm) ?_|refine Sc.h (cn) ?_|refine Sc.h (o2) ?_|(refine Sb.h ?_ ?_ ?_<;>(try intro hgd)<;>try exact Xy))<;>simp -implicitDefEqProofs (maxSteps:=2000000) [hP,hN,hv,w1,hw]<;>try refine Ya ?_)|refine X2 ?_ ?_|(refine Xd ?_ ?_<;>intro hcd<;>try exact Xx))
    all_goals (try simp)
   ·skip
    refine detP_of Tryz.func248 rfl (by kernel_rfl) (by simp [Tryz.f248]) rfl ?_
    intro C hP hN
    simp only [Tryz.f248] at hN ⊢
    with_reducible repeat' (first|refine Sp.h ?_|((first|refine Wd ?_|refine Ss.h ?_|refine Sc.h (d69 _ _) ?_|refine Sc.h (d253 _ _) ?_|refine Sc.h (hf _) ?_|refine Sc.h (d254 _ _ _ _) ?_|refine Sc.h (cm) ?_|refine Sc.h (cn) ?_|refine Sc.h (o1) ?_|(refine Sb.h ?_ ?_ ?_<;>(try intro hgd)<;>try exact Xy))<;>simp -implicitDefEqProofs (maxSteps:=2000000) [hP,hN,hv,w1,hw]<;>try refine Ya ?_)|refine X2 ?_ ?_|(refine Xd ?_ ?_<;>intro hcd<;>try exact Xx))
    all_goals (try simp)
   ·skip
    refine detP_of Tryz.func248 rfl (by kernel_rfl) (by simp [Tryz.f248]) rfl ?_
    intro C hP hN
    simp only [Tryz.f248] at hN ⊢
    with_reducible repeat' (first|refine Sp.h ?_|((first|refine Wd ?_|refine Ss.h ?_|refine Sc.h (d69 _ _) ?_|refine Sc.h (d253 _ _) ?_|refine Sc.h (hf _) ?_|refine Sc.h (d254 _ _ _ _) ?_|refine Sc.h (cm) ?_|refine Sc.h (cn) ?_|refine Sc.h (o1) ?_|refine Sc.h (o2) ?_|(refine Sb.h ?_ ?_ ?_<;>(try intro hgd)<;>try exact Xy))<;>simp -implicitDefEqProofs (maxSteps:=2000000) [hP,hN,hv,w1,hw]<;>try refine Ya ?_)|refine X2 ?_ ?_|(refine Xd ?_ ?_<;>intro hcd<;>try exact Xx))
    all_goals (try simp)
def sinO (a : Iv) : Iv:=overI a sinA 16384 49152
def cosO (a : Iv) : Iv:=overI a cosA 0 32768
theorem d242 {a b : Int} : DetH Tryz.prog 242 [.pv (I a b)] [] [] (.pv (encI (sinO (a,b)))):=by
 have co:=d248 (a:=a) (b:=b) 250 sinA 16384 49152 d250 (by decide) (by decide) (by decide) (by decide)
 refine detP_of Tryz.func242 rfl (by kernel_rfl) (by simp [Tryz.f242]) rfl ?_
 intro C hP hN
 simp only [Tryz.f242] at hN ⊢
 with_reducible repeat' (first|refine Sp.h ?_|((first|refine Ss.h ?_|refine Sc.h (co) ?_|(refine Sb.h ?_ ?_ ?_<;>(try intro hgd)<;>try exact Xy))<;>simp -implicitDefEqProofs (maxSteps:=2000000) [hP,hN])|refine X2 ?_ ?_|(refine Xd ?_ ?_<;>intro hcd<;>try exact Xx))
 all_goals exact ⟨rfl,rfl⟩
theorem d241 {a b : Int} : DetH Tryz.prog 241 [.pv (I a b)] [] [] (.pv (encI (cosO (a,b)))):=by
 have co:=d248 (a:=a) (b:=b) 249 cosA 0 32768 d249 (by decide) (by decide) (by decide) (by decide)
 refine detP_of Tryz.func241 rfl (by kernel_rfl) (by simp [Tryz.f241]) rfl ?_
 intro C hP hN
 simp only [Tryz.f241] at hN ⊢
 with_reducible repeat' (first|refine Sp.h ?_|((first|refine Ss.h ?_|refine Sc.h (co) ?_|(refine Sb.h ?_ ?_ ?_<;>(try intro hgd)<;>try exact Xy))<;>simp -implicitDefEqProofs (maxSteps:=2000000) [hP,hN])|refine X2 ?_ ?_|(refine Xd ?_ ?_<;>intro hcd<;>try exact Xx))
 all_goals exact ⟨rfl,rfl⟩
end Go.Ab
namespace Go.Ab
open Go.Proofs
structure SubI (x y : Iv) : Prop where
 vx : validB x.1 x.2=true
 vy : validB y.1 y.2=true
 lo : y.1≤x.1
 hi : x.2≤y.2
theorem subI_of {x y : Iv} (h1 : -2147483648≤y.1) (h2 : y.1≤x.1) (h3 : x.1≤x.2) (h4 : x.2≤y.2) (h5 : y.2≤2147483648) : SubI x y:=⟨valid_iff.2 (by omega),valid_iff.2 (by omega),h2,h4⟩
theorem SubI.all {x y : Iv} (h : SubI x y) : -2147483648≤y.1∧y.1≤x.1∧x.1≤x.2∧x.2≤y.2∧y.2≤2147483648:=by
 have h1:=valid_iff.1 h.vx
 have h2:=valid_iff.1 h.vy
 have h3:=h.lo
 have h4:=h.hi
 omega
theorem SubI.refl {x : Iv} (h : validB x.1 x.2=true) : SubI x x:=⟨h,h,Int.le_refl _,Int.le_refl _⟩
theorem SubI.trans {x y z : Iv} (h : SubI x y) (g : SubI y z) : SubI x z:=⟨h.vx,g.vy,Int.le_trans g.lo h.lo,Int.le_trans h.hi g.hi⟩
theorem addI_sub {x x' y y' : Iv} (hx : SubI x x') (hy : SubI y y') : SubI (addI x y) (addI x' y'):=by
 have h1:=hx.all
 have h2:=hy.all
 simp only [addI,hx.vx,hx.vy,hy.vx,hy.vy,Bool.and_self,if_true]
 apply subI_of<;>simp only [clp]<;>omega
theorem negI_sub {x x' : Iv} (hx : SubI x x') : SubI (negI x) (negI x'):=by
 have h1:=hx.all
 simp only [negI,hx.vx,hx.vy,if_true]
 apply subI_of<;>(try simp only [])<;>omega
theorem mul1 {a b x c : Int} (h1 : a≤x) (h2 : x≤b) : min (a * c) (b * c)≤x * c∧x * c≤max (a * c) (b * c):=by
 rcases Int.le_total 0 c with h|h
 ·have g1:=Int.mul_le_mul_of_nonneg_right h1 h
  have g2:=Int.mul_le_mul_of_nonneg_right h2 h
  omega
 ·have g1:=Int.mul_le_mul_of_nonpos_right h1 h
  have g2:=Int.mul_le_mul_of_nonpos_right h2 h
  omega
theorem mul4 {a b c d x y : Int} (h1 : a≤x) (h2 : x≤b) (h3 : c≤y) (h4 : y≤d) : min (a * c) (min (a * d) (min (b * c) (b * d)))≤x * y∧x * y≤max (a * c) (max (a * d) (max (b * c) (b * d))):=by
 have g1:=mul1 (c:=y) h1 h2
 have g2:=mul1 (c:=a) h3 h4
 have g3:=mul1 (c:=b) h3 h4
 rw [Int.mul_comm c a,Int.mul_comm d a,Int.mul_comm y a] at g2
 rw [Int.mul_comm c b,Int.mul_comm d b,Int.mul_comm y b] at g3
 omega
theorem mulI_sub {x x' y y' : Iv} (hx : SubI x x') (hy : SubI y y') : SubI (mulI x y) (mulI x' y'):=by
 have h1:=hx.all
 have h2:=hy.all
 have m1:=mul4 (x:=x.1) (y:=y.1) (a:=x'.1) (b:=x'.2) (c:=y'.1) (d:=y'.2) (by omega) (by omega) (by omega) (by omega)
 have m2:=mul4 (x:=x.1) (y:=y.2) (a:=x'.1) (b:=x'.2) (c:=y'.1) (d:=y'.2) (by omega) (by omega) (by omega) (by omega)
 have m3:=mul4 (x:=x.2) (y:=y.1) (a:=x'.1) (b:=x'.2) (c:=y'.1) (d:=y'.2) (by omega) (by omega) (by omega) (by omega)
 have m4:=mul4 (x:=x.2) (y:=y.2) (a:=x'.1) (b:=x'.2) (c:=y'.1) (d:=y'.2) (by omega) (by omega) (by omega) (by omega)
 simp only [mulI,hx.vx,hx.vy,hy.vx,hy.vy,Bool.and_self,if_true]
 apply subI_of<;>simp only [clp,shU]<;>omega
theorem ofI_sub (x : Int) : SubI (ofI x) (ofI x):=by
 apply SubI.refl
 rw [valid_iff]
 simp only [ofI,clp]
 omega
theorem hullI_l {x y : Iv} (hx : validB x.1 x.2=true) (hy : validB y.1 y.2=true) : SubI x (hullI x y):=by
 have h1:=valid_iff.1 hx
 have h2:=valid_iff.1 hy
 simp only [hullI,hx,hy,Bool.and_self,if_true]
 apply subI_of<;>(try simp only [])<;>omega
theorem hullI_r {x y : Iv} (hx : validB x.1 x.2=true) (hy : validB y.1 y.2=true) : SubI y (hullI x y):=by
 have h1:=valid_iff.1 hx
 have h2:=valid_iff.1 hy
 simp only [hullI,hx,hy,Bool.and_self,if_true]
 apply subI_of<;>(try simp only [])<;>omega
theorem hullI_in {x y z : Iv} (hx : SubI x z) (hy : SubI y z) : SubI (hullI x y) z:=by
 have h1:=hx.all
 have h2:=hy.all
 simp only [hullI,hx.vx,hy.vx,Bool.and_self,if_true]
 apply subI_of<;>(try simp only [])<;>omega
def sinLN (t u : Nat) : Nat × Nat:=
 let a2:=t * t / 1073741824
 let a3:=a2 * t / 1073741824
 let a4:=a3 * t / 1073741824
 let a5:=a4 * t / 1073741824
 let a6:=a5 * t / 1073741824
 let a7:=a6 * t / 1073741824
 let b2:=(u * u+1073741823) / 1073741824
 let b3:=(b2 * u+1073741823) / 1073741824
 let b4:=(b3 * u+1073741823) / 1073741824
 let b5:=(b4 * u+1073741823) / 1073741824
 let b6:=(b5 * u+1073741823) / 1073741824
 let b7:=(b6 * u+1073741823) / 1073741824
 let b8:=(b7 * u+1073741823) / 1073741824
 let b9:=(b8 * u+1073741823) / 1073741824
 (((t+a5 / 120) - ((b3+5) / 6+(b7+5039) / 5040)) / 16384,((u+(b5+119) / 120+(b9+362879) / 362880) - (a3 / 6+a7 / 5040)+16383) / 16384)
def cosLN (t u : Nat) : Nat × Nat:=
 let a2:=t * t / 1073741824
 let a3:=a2 * t / 1073741824
 let a4:=a3 * t / 1073741824
 let a5:=a4 * t / 1073741824
 let a6:=a5 * t / 1073741824
 let a7:=a6 * t / 1073741824
 let a8:=a7 * t / 1073741824
 let b2:=(u * u+1073741823) / 1073741824
 let b3:=(b2 * u+1073741823) / 1073741824
 let b4:=(b3 * u+1073741823) / 1073741824
 let b5:=(b4 * u+1073741823) / 1073741824
 let b6:=(b5 * u+1073741823) / 1073741824
 let b7:=(b6 * u+1073741823) / 1073741824
 let b8:=(b7 * u+1073741823) / 1073741824
 let b9:=(b8 * u+1073741823) / 1073741824
 let b10:=(b9 * u+1073741823) / 1073741824
 (((1073741824+a4 / 24+a8 / 40320) - ((b2+1) / 2+(b6+719) / 720+(b10+3628799) / 3628800)) / 16384,((1073741824+(b4+23) / 24+(b8+40319) / 40320) - (a2 / 2+a6 / 720)+16383) / 16384)
def tN (x : Nat) : Nat:=x * 6746518852 / 65536
def uN (x : Nat) : Nat:=(x * 6746518853+65535) / 65536
def valN (r : Nat) : Nat × Nat:=bif Nat.ble r 8192 then sinLN (tN r) (uN r) else cosLN (tN (16384 - r)) (uN (16384 - r))
def okN (r : Nat) : Bool:=(Nat.ble (valN r).1 (valN (r+1)).1).and ((Nat.ble (valN r).2 (valN (r+1)).2).and ((Nat.ble (valN r).1 (valN r).2).and (Nat.ble (valN r).1 65536)))
def runN (s : Nat) : Nat→Bool
 |0=>true
 |n+1=>(okN (s+n)).and (runN s n)
theorem runN_get {s : Nat} : ∀ {n : Nat},runN s n=true→∀ i,i < n→okN (s+i)=true
 |0,_,i,hi=>by omega
 |n+1,h,i,hi=>by
  simp only [runN,Bool.and_eq_true] at h
  by_cases he : i=n
  ·subst he;exact h.1
  ·exact runN_get h.2 i (by omega)
def aN (t : Nat) : Nat→Nat
 |0=>1073741824
 |1=>t
 |k+2=>aN t (k+1) * t / 1073741824
def bN' (u : Nat) : Nat→Nat
 |0=>1073741824
 |1=>u
 |k+2=>(bN' u (k+1) * u+1073741823) / 1073741824
theorem shU30 (n : Nat) : shU (n : Int) 1073741824=(((n+1073741823) / 1073741824 : Nat) : Int):=by unfold shU;omega
theorem pwD_nat (x : Nat) : ∀ k,pwD (x : Int) k=((aN (tN x) k : Nat) : Int)
 |0=>rfl
 |1=>by simp only [pwD,aN,tN];omega
 |k+2=>by
  have ih:=pwD_nat x (k+1)
  have h1:=pwD_nat x 1
  simp only [pwD,aN] at h1 ih ⊢
  rw [ih,h1,← Int.natCast_mul]
  generalize aN (tN x) (k+1) * tN x=p
  omega
theorem pwU_nat (x : Nat) : ∀ k,pwU (x : Int) k=((bN' (uN x) k : Nat) : Int)
 |0=>rfl
 |1=>by simp only [pwU,bN',uN,shU];omega
 |k+2=>by
  have ih:=pwU_nat x (k+1)
  have h1:=pwU_nat x 1
  simp only [pwU,bN'] at h1 ih ⊢
  rw [ih,h1,← Int.natCast_mul]
  generalize bN' (uN x) (k+1) * uN x=p
  exact shU30 p
theorem aN_le (t : Nat) (ht : t≤1073741824) : ∀ k,aN t (k+1)≤t
 |0=>Nat.le_refl _
 |k+1=>by
  have ih:=aN_le t ht k
  simp only [aN]
  exact Nat.div_le_of_le_mul (Nat.mul_le_mul_right t (by omega))
theorem tN_le {x : Nat} (h : x≤8192) : tN x≤1073741824∧tN x≤uN x:=by unfold tN uN;omega
theorem cuN (b d : Nat) (hd : 0 < d) : ((b : Int)+d - 1) / d=(((b+(d - 1)) / d : Nat) : Int):=by
 rw [show (b : Int)+d - 1=((b+(d - 1) : Nat) : Int) by omega,Int.natCast_ediv]
theorem loN (p n : Nat) : max 0 (((p : Int) - n) / 16384)=(((p - n) / 16384 : Nat) : Int):=by omega
theorem hiN (p n : Nat) (h : n≤p) : shU ((p : Int) - n) 16384=(((p - n+16383) / 16384 : Nat) : Int):=by unfold shU;omega
theorem sin_lems (a1 a3 a5 a7 b1 b3 b5 b7 b9 : Nat) (h : a3 / 6+a7 / 5040≤b1) : encl ((a1 : Int) - ceilI b3 6+(a5 : Int) / 120 - ceilI b7 5040) ((b1 : Int) - (a3 : Int) / 6+ceilI b5 120 - (a7 : Int) / 5040+ceilI b9 362880)=
 (((((a1+a5 / 120) - ((b3+5) / 6+(b7+5039) / 5040)) / 16384 : Nat) : Int),min 65536 ((((b1+(b5+119) / 120+(b9+362879) / 362880) - (a3 / 6+a7 / 5040)+16383) / 16384 : Nat) : Int)):=by
 have c3 : ceilI b3 6=(((b3+5) / 6 : Nat) : Int):=cuN b3 6 (by decide)
 have c5 : ceilI b5 120=(((b5+119) / 120 : Nat) : Int):=cuN b5 120 (by decide)
 have c7 : ceilI b7 5040=(((b7+5039) / 5040 : Nat) : Int):=cuN b7 5040 (by decide)
 have c9 : ceilI b9 362880=(((b9+362879) / 362880 : Nat) : Int):=cuN b9 362880 (by decide)
 have d3 : (a3 : Int) / 6=((a3 / 6 : Nat) : Int):=(Int.natCast_ediv a3 6).symm
 have d5 : (a5 : Int) / 120=((a5 / 120 : Nat) : Int):=(Int.natCast_ediv a5 120).symm
 have d7 : (a7 : Int) / 5040=((a7 / 5040 : Nat) : Int):=(Int.natCast_ediv a7 5040).symm
 rw [c3,c5,c7,c9,d3,d5,d7]
 generalize (b3+5) / 6=x3 at *
 generalize (b5+119) / 120=x5 at *
 generalize (b7+5039) / 5040=x7 at *
 generalize (b9+362879) / 362880=x9 at *
 generalize a3 / 6=y3 at *
 generalize a5 / 120=y5 at *
 generalize a7 / 5040=y7 at *
 unfold encl
 rw [show (a1 : Int) - x3+y5 - x7=((a1+y5 : Nat) : Int) - ((x3+x7 : Nat) : Int) by omega,show (b1 : Int) - y3+x5 - y7+x9=((b1+x5+x9 : Nat) : Int) - ((y3+y7 : Nat) : Int) by omega,loN,hiN _ _ (by omega)]
theorem cos_lems (a2 a4 a6 a8 b2 b4 b6 b8 b10 : Nat) (h : a2 / 2+a6 / 720≤1073741824) : encl (1073741824 - ceilI b2 2+(a4 : Int) / 24 - ceilI b6 720+(a8 : Int) / 40320 - ceilI b10 3628800) (1073741824 - (a2 : Int) / 2+ceilI b4 24 - (a6 : Int) / 720+ceilI b8 40320)=
 (((((1073741824+a4 / 24+a8 / 40320) - ((b2+1) / 2+(b6+719) / 720+(b10+3628799) / 3628800)) / 16384 : Nat) : Int),min 65536 ((((1073741824+(b4+23) / 24+(b8+40319) / 40320) - (a2 / 2+a6 / 720)+16383) / 16384 : Nat) : Int)):=by
 have c2 : ceilI b2 2=(((b2+1) / 2 : Nat) : Int):=cuN b2 2 (by decide)
 have c4 : ceilI b4 24=(((b4+23) / 24 : Nat) : Int):=cuN b4 24 (by decide)
 have c6 : ceilI b6 720=(((b6+719) / 720 : Nat) : Int):=cuN b6 720 (by decide)
 have c8 : ceilI b8 40320=(((b8+40319) / 40320 : Nat) : Int):=cuN b8 40320 (by decide)
 have c10 : ceilI b10 3628800=(((b10+3628799) / 3628800 : Nat) : Int):=cuN b10 3628800 (by decide)
 have d2 : (a2 : Int) / 2=((a2 / 2 : Nat) : Int):=(Int.natCast_ediv a2 2).symm
 have d4 : (a4 : Int) / 24=((a4 / 24 : Nat) : Int):=(Int.natCast_ediv a4 24).symm
 have d6 : (a6 : Int) / 720=((a6 / 720 : Nat) : Int):=(Int.natCast_ediv a6 720).symm
 have d8 : (a8 : Int) / 40320=((a8 / 40320 : Nat) : Int):=(Int.natCast_ediv a8 40320).symm
 rw [c2,c4,c6,c8,c10,d2,d4,d6,d8]
 generalize (b2+1) / 2=x2 at *
 generalize (b4+23) / 24=x4 at *
 generalize (b6+719) / 720=x6 at *
 generalize (b8+40319) / 40320=x8 at *
 generalize (b10+3628799) / 3628800=x10 at *
 generalize a2 / 2=y2 at *
 generalize a4 / 24=y4 at *
 generalize a6 / 720=y6 at *
 generalize a8 / 40320=y8 at *
 unfold encl
 rw [show (1073741824 : Int) - x2+y4 - x6+y8 - x10=((1073741824+y4+y8 : Nat) : Int) - ((x2+x6+x10 : Nat) : Int) by omega,show (1073741824 : Int) - y2+x4 - y6+x8=((1073741824+x4+x8 : Nat) : Int) - ((y2+y6 : Nat) : Int) by omega,loN,hiN _ _ (by omega)]
theorem sin_val (t u : Nat) : sinLN t u=(((aN t 1+aN t 5 / 120) - ((bN' u 3+5) / 6+(bN' u 7+5039) / 5040)) / 16384,((bN' u 1+(bN' u 5+119) / 120+(bN' u 9+362879) / 362880) - (aN t 3 / 6+aN t 7 / 5040)+16383) / 16384):=by
 simp only [sinLN,aN,bN']
theorem cos_val (t u : Nat) : cosLN t u=(((1073741824+aN t 4 / 24+aN t 8 / 40320) - ((bN' u 2+1) / 2+(bN' u 6+719) / 720+(bN' u 10+3628799) / 3628800)) / 16384,((1073741824+(bN' u 4+23) / 24+(bN' u 8+40319) / 40320) - (aN t 2 / 2+aN t 6 / 720)+16383) / 16384):=by
 simp only [cosLN,aN,bN']
theorem alt4 (a b c d : Int) : altS [a,b,c,d]=a - b+c - d:=by simp [altS,altP,sgI];omega
theorem alt5 (a b c d e : Int) : altS [a,b,c,d,e]=a - b+c - d+e:=by simp [altS,altP,sgI];omega
theorem alt6 (a b c d e f : Int) : altS [a,b,c,d,e,f]=a - b+c - d+e - f:=by simp [altS,altP,sgI];omega
theorem sin_nat {x : Nat} (h : x≤8192) : sineI (x : Int)=(((sinLN (tN x) (uN x)).1 : Int),min 65536 ((sinLN (tN x) (uN x)).2 : Int)):=by
 have h3:=aN_le (tN x) (tN_le h).1 2
 have h7:=aN_le (tN x) (tN_le h).1 6
 have hu:=(tN_le h).2
 have hb : bN' (uN x) 1=uN x:=rfl
 rw [sin_val]
 simp only [sineI,sineL,sineH,alt4,alt5,pwD_nat,pwU_nat]
 exact sin_lems _ _ _ _ _ _ _ _ _ (by simp only [Nat.reduceAdd] at h3 h7;rw [hb];omega)
theorem cos_nat {x : Nat} (h : x≤8192) : cosI (x : Int)=(((cosLN (tN x) (uN x)).1 : Int),min 65536 ((cosLN (tN x) (uN x)).2 : Int)):=by
 have h3:=aN_le (tN x) (tN_le h).1 1
 have h7:=aN_le (tN x) (tN_le h).1 5
 have hu:=(tN_le h).1
 rw [cos_val]
 simp only [cosI,cosL,cosH,alt5,alt6,pwD_nat,pwU_nat]
 exact cos_lems _ _ _ _ _ _ _ _ _ (by simp only [Nat.reduceAdd] at h3 h7;omega)
theorem first_nat {r : Nat} (h : r≤16384) : firstI (r : Int)=(((valN r).1 : Int),min 65536 ((valN r).2 : Int)):=by
 unfold firstI valN
 by_cases hr : r≤8192
 ·rw [if_pos (by omega),show Nat.ble r 8192=true from Nat.ble_eq_true_of_le hr]
  exact sin_nat hr
 ·rw [if_neg (by omega)]
  have : Nat.ble r 8192=false:=by
   cases hb : Nat.ble r 8192 with
   |false=>rfl
   |true=>exact absurd (Nat.le_of_ble_eq_true hb) hr
  rw [this,show (16384 : Int) - (r : Int)=((16384 - r : Nat) : Int) by omega]
  exact cos_nat (by omega)
end Go.Ab
namespace Go.Ab
open Go.Proofs
set_option maxRecDepth 100000
set_option maxHeartbeats 0 in
theorem run0 : runN 0 2048=true:=by decide +kernel
set_option maxHeartbeats 0 in
theorem run1 : runN 2048 2048=true:=by decide +kernel
set_option maxHeartbeats 0 in
theorem run2 : runN 4096 2048=true:=by decide +kernel
set_option maxHeartbeats 0 in
theorem run3 : runN 6144 2048=true:=by decide +kernel
set_option maxHeartbeats 0 in
theorem run4 : runN 8192 2048=true:=by decide +kernel
set_option maxHeartbeats 0 in
theorem run5 : runN 10240 2048=true:=by decide +kernel
set_option maxHeartbeats 0 in
theorem run6 : runN 12288 2048=true:=by decide +kernel
set_option maxHeartbeats 0 in
theorem run7 : runN 14336 2048=true:=by decide +kernel
theorem ok_at {r : Nat} (h : r < 16384) : okN r=true:=by
 by_cases c1 : r < 2048
 ·exact (show 0+r=r by omega) ▸ runN_get run0 r c1
 by_cases c2 : r < 4096
 ·exact (show 2048+(r - 2048)=r by omega) ▸ runN_get run1 (r - 2048) (by omega)
 by_cases c3 : r < 6144
 ·exact (show 4096+(r - 4096)=r by omega) ▸ runN_get run2 (r - 4096) (by omega)
 by_cases c4 : r < 8192
 ·exact (show 6144+(r - 6144)=r by omega) ▸ runN_get run3 (r - 6144) (by omega)
 by_cases c5 : r < 10240
 ·exact (show 8192+(r - 8192)=r by omega) ▸ runN_get run4 (r - 8192) (by omega)
 by_cases c6 : r < 12288
 ·exact (show 10240+(r - 10240)=r by omega) ▸ runN_get run5 (r - 10240) (by omega)
 by_cases c7 : r < 14336
 ·exact (show 12288+(r - 12288)=r by omega) ▸ runN_get run6 (r - 12288) (by omega)
 by_cases c8 : r < 16384
 ·exact (show 14336+(r - 14336)=r by omega) ▸ runN_get run7 (r - 14336) (by omega)
 omega
theorem quad_at {r : Nat} (h : r < 16384) : 0≤(firstI r).1∧(firstI r).1≤(firstI r).2∧(firstI r).2≤65536∧(firstI r).1≤(firstI ((r+1 : Nat) : Int)).1∧(firstI r).2≤(firstI ((r+1 : Nat) : Int)).2:=by
 have:=ok_at h
 simp only [okN,Bool.and_eq_true] at this
 have h1:=Nat.le_of_ble_eq_true this.1
 have h2:=Nat.le_of_ble_eq_true this.2.1
 have h3:=Nat.le_of_ble_eq_true this.2.2.1
 have h4:=Nat.le_of_ble_eq_true this.2.2.2
 rw [first_nat (r:=r) (by omega),first_nat (r:=r+1) (by omega)]
 simp only []
 omega
theorem first_end : firstI 16384=(65536,65536):=by decide +kernel
theorem first_zero : firstI 0=(0,0):=by decide +kernel
theorem first_rng {r : Int} (h0 : 0≤r) (h : r≤16384) : 0≤(firstI r).1∧(firstI r).1≤(firstI r).2∧(firstI r).2≤65536:=by
 by_cases he : r=16384
 ·subst he;rw [first_end];simp
 ·have:=quad_at (r:=r.toNat) (by omega)
  simp only [show ((r.toNat : Nat) : Int)=r by omega] at this
  omega
theorem first_mono (r : Nat) : ∀ k : Nat,r+k≤16384→(firstI r).1≤(firstI ((r+k : Nat) : Int)).1∧(firstI r).2≤(firstI ((r+k : Nat) : Int)).2
 |0,_=>⟨Int.le_refl _,Int.le_refl _⟩
 |k+1,h=>by
  have h1:=first_mono r k (by omega)
  have:=quad_at (r:=r+k) (by omega)
  rw [show r+(k+1)=r+k+1 by omega]
  omega
theorem first_le {a b : Int} (h0 : 0≤a) (h1 : a≤b) (h2 : b≤16384) : (firstI a).1≤(firstI b).1∧(firstI a).2≤(firstI b).2:=by
 have:=first_mono a.toNat (b - a).toNat (by omega)
 rw [show ((a.toNat+(b - a).toNat : Nat) : Int)=b by omega,show ((a.toNat : Nat) : Int)=a by omega] at this
 exact this
def sS (m : Int) : Iv:=if 0≤m then firstI m else negI (firstI (-m))
theorem neg_first {r : Int} (h0 : 0≤r) (h : r≤16384) : negI (firstI r)=(-(firstI r).2,-(firstI r).1):=by
 have h1:=first_rng h0 h
 have : validB (firstI r).1 (firstI r).2=true:=valid_iff.2 (by omega)
 simp only [negI,this,if_true]
theorem sS_rng {m : Int} (h0 : -16384≤m) (h1 : m≤16384) : -65536≤(sS m).1∧(sS m).1≤(sS m).2∧(sS m).2≤65536:=by
 unfold sS
 split
 ·have:=first_rng (r:=m) (by omega) (by omega);omega
 ·have:=first_rng (r:=-m) (by omega) (by omega)
  rw [neg_first (by omega) (by omega)]
  try simp only []
  omega
theorem sS_le {a b : Int} (h0 : -16384≤a) (h1 : a≤b) (h2 : b≤16384) : (sS a).1≤(sS b).1∧(sS a).2≤(sS b).2:=by
 unfold sS
 by_cases ha : 0≤a
 ·rw [if_pos ha,if_pos (by omega)]
  exact first_le ha h1 h2
 ·rw [if_neg ha]
  have r1:=first_rng (r:=-a) (by omega) (by omega)
  rw [neg_first (r:=-a) (by omega) (by omega)]
  by_cases hb : 0≤b
  ·rw [if_pos hb]
   have r2:=first_rng (r:=b) (by omega) (by omega)
   try simp only []
   omega
  ·rw [if_neg hb,neg_first (r:=-b) (by omega) (by omega)]
   have:=first_le (a:=-b) (b:=-a) (by omega) (by omega) (by omega)
   try simp only []
   omega
theorem sin_up {x k : Int} (h0 : -16384≤x - 65536 * k) (h1 : x - 65536 * k≤16384) : sinA x=sS (x - 65536 * k):=by
 unfold sinA sS
 by_cases hp : 0≤x - 65536 * k
 ·rw [if_pos hp,show x % 65536=x - 65536 * k by omega]
  generalize x - 65536 * k=d at *
  unfold sinM
  by_cases he : d=16384
  ·subst he;rfl
  ·rw [if_pos (by omega),show d % 16384=d by omega]
 ·rw [if_neg hp,show x % 65536=x - 65536 * k+65536 by omega]
  generalize x - 65536 * k=d at *
  unfold sinM
  rw [if_neg (by omega),if_neg (by omega),if_neg (by omega),show 16384 - (d+65536) % 16384=-d by omega]
theorem sin_dn {x k : Int} (h0 : 16384≤x - 65536 * k) (h1 : x - 65536 * k≤49152) : sinA x=sS (32768 - (x - 65536 * k)):=by
 unfold sinA sS
 rw [show x % 65536=x - 65536 * k by omega]
 generalize x - 65536 * k=d at *
 unfold sinM
 by_cases h : d < 32768
 ·rw [if_pos (show 0≤32768 - d by omega),if_neg (by omega),if_pos (by omega),show 16384 - d % 16384=32768 - d by omega]
 ·by_cases he : d=32768
  ·subst he
   show negI (firstI 0)=firstI 0
   rw [first_zero];rfl
  ·rw [if_neg (show ¬ 0≤32768 - d by omega),show -(32768 - d)=d - 32768 by omega]
   by_cases hf : d=49152
   ·subst hf;rfl
   ·rw [if_neg (by omega),if_neg (by omega),if_pos (by omega),show d % 16384=d - 32768 by omega]
theorem sin_rng (x : Int) : -65536≤(sinA x).1∧(sinA x).1≤(sinA x).2∧(sinA x).2≤65536:=by
 by_cases h : x - 65536 * ((x+16384) / 65536)≤16384
 ·rw [sin_up (k:=(x+16384) / 65536) (by omega) h]
  exact sS_rng (by omega) (by omega)
 ·rw [sin_dn (k:=(x+16384) / 65536) (by omega) (by omega)]
  exact sS_rng (by omega) (by omega)
theorem sin_hi {lo x hi : Int} (h1 : lo≤x) (h2 : x≤hi) (hn : ∀ n,lo≤n→n≤hi→n % 65536≠16384) : (sinA x).2≤max (sinA lo).2 (sinA hi).2:=by
 by_cases h : x - 65536 * ((x+16384) / 65536)≤16384
 ·have hp:=hn (65536 * ((x+16384) / 65536)+16384) (by omega)
  have hh : hi < 65536 * ((x+16384) / 65536)+16384:=by
   have : (65536 * ((x+16384) / 65536)+16384) % 65536=16384:=by omega
   by_cases hc : 65536 * ((x+16384) / 65536)+16384≤hi
   ·exact absurd this (hp hc)
   ·omega
  rw [sin_up (x:=x) (k:=(x+16384) / 65536) (by omega) h,sin_up (x:=hi) (k:=(x+16384) / 65536) (by omega) (by omega)]
  have:=sS_le (a:=x - 65536 * ((x+16384) / 65536)) (b:=hi - 65536 * ((x+16384) / 65536)) (by omega) (by omega) (by omega)
  omega
 ·have hp:=hn (65536 * ((x+16384) / 65536)+16384)
  have hh : 65536 * ((x+16384) / 65536)+16384 < lo:=by
   have : (65536 * ((x+16384) / 65536)+16384) % 65536=16384:=by omega
   by_cases hc : lo≤65536 * ((x+16384) / 65536)+16384
   ·exact absurd this (hp hc (by omega))
   ·omega
  rw [sin_dn (x:=x) (k:=(x+16384) / 65536) (by omega) (by omega),sin_dn (x:=lo) (k:=(x+16384) / 65536) (by omega) (by omega)]
  have:=sS_le (a:=32768 - (x - 65536 * ((x+16384) / 65536))) (b:=32768 - (lo - 65536 * ((x+16384) / 65536))) (by omega) (by omega) (by omega)
  omega
theorem sin_lo {lo x hi : Int} (h1 : lo≤x) (h2 : x≤hi) (hn : ∀ n,lo≤n→n≤hi→n % 65536≠49152) : min (sinA lo).1 (sinA hi).1≤(sinA x).1:=by
 by_cases h : x - 65536 * ((x+16384) / 65536)≤16384
 ·have hp:=hn (65536 * ((x+16384) / 65536) - 16384)
  have hh : 65536 * ((x+16384) / 65536) - 16384 < lo:=by
   have : (65536 * ((x+16384) / 65536) - 16384) % 65536=49152:=by omega
   by_cases hc : lo≤65536 * ((x+16384) / 65536) - 16384
   ·exact absurd this (hp hc (by omega))
   ·omega
  rw [sin_up (x:=x) (k:=(x+16384) / 65536) (by omega) h,sin_up (x:=lo) (k:=(x+16384) / 65536) (by omega) (by omega)]
  have:=sS_le (a:=lo - 65536 * ((x+16384) / 65536)) (b:=x - 65536 * ((x+16384) / 65536)) (by omega) (by omega) (by omega)
  omega
 ·have hp:=hn (65536 * ((x+16384) / 65536)+49152) (by omega)
  have hh : hi < 65536 * ((x+16384) / 65536)+49152:=by
   have : (65536 * ((x+16384) / 65536)+49152) % 65536=49152:=by omega
   by_cases hc : 65536 * ((x+16384) / 65536)+49152≤hi
   ·exact absurd this (hp hc)
   ·omega
  rw [sin_dn (x:=x) (k:=(x+16384) / 65536) (by omega) (by omega),sin_dn (x:=hi) (k:=(x+16384) / 65536) (by omega) (by omega)]
  have:=sS_le (a:=32768 - (hi - 65536 * ((x+16384) / 65536))) (b:=32768 - (x - 65536 * ((x+16384) / 65536))) (by omega) (by omega) (by omega)
  omega
theorem meets_t {a : Iv} {t n : Int} (ha : validB a.1 a.2=true) (h1 : a.1≤n) (h2 : n≤a.2) (h : (n - t) % 65536=0) : meetsI a t=true:=by
 simp only [meetsI,ha,Bool.true_and,Bool.and_eq_true,decide_eq_true_eq]
 omega
theorem meets_mono {a b : Iv} {t : Int} (h : SubI a b) (hm : meetsI a t=true) : meetsI b t=true:=by
 have:=h.all
 simp only [meetsI,h.vx,Bool.true_and,Bool.and_eq_true,decide_eq_true_eq] at hm
 exact meets_t (n:=a.1+(t - a.1) % 65536) h.vy (by omega) (by omega) (by omega)
theorem ofO : ofI 65536=(65536,65536):=by decide
theorem ofN : ofI (-65536)=(-65536,-65536):=by decide
section over
variable {v : Int→Iv} {c t u : Int}
theorem over_val {a : Iv} (ha : validB a.1 a.2=true) (hw : a.2 - a.1 < 65536) : overI a v t u=(let h1:=if meetsI a t then hullI (hullI (v a.1) (v a.2)) (ofI 65536) else hullI (v a.1) (v a.2);if meetsI a u then hullI h1 (ofI (-65536)) else h1):=by
 unfold overI
 rw [if_neg (by simp [ha]),if_neg (by omega)]
theorem over_big {a : Iv} (ha : validB a.1 a.2=true) (hw : 65536≤a.2 - a.1) : overI a v t u=(-65536,65536):=by
 unfold overI
 rw [if_neg (by simp [ha]),if_pos hw]
theorem over_in (hv : ∀ x,v x=sinA (x+c)) (ht : (t+c - 16384) % 65536=0) (hu : (u+c - 49152) % 65536=0) {a : Iv} (ha : validB a.1 a.2=true) {x : Int} (h1 : a.1≤x) (h2 : x≤a.2) : SubI (v x) (overI a v t u):=by
 have r0 : ∀ x,-65536≤(v x).1∧(v x).1≤(v x).2∧(v x).2≤65536:=fun x=>by rw [hv];exact sin_rng _
 have rx:=r0 x
 have ra:=r0 a.1
 have rb:=r0 a.2
 by_cases hw : 65536≤a.2 - a.1
 ·rw [over_big ha hw]
  apply subI_of<;>(try simp only [])<;>omega
 ·have va : validB (v a.1).1 (v a.1).2=true:=valid_iff.2 (by omega)
  have vb : validB (v a.2).1 (v a.2).2=true:=valid_iff.2 (by omega)
  have hH : meetsI a t=false→(v x).2≤max (v a.1).2 (v a.2).2:=fun hm=>by
   rw [hv,hv,hv]
   refine sin_hi (by omega) (by omega) fun n n1 n2 hn=>?_
   rw [meets_t (n:=n - c) ha (by omega) (by omega) (by omega)] at hm
   cases hm
  have hL : meetsI a u=false→min (v a.1).1 (v a.2).1≤(v x).1:=fun hm=>by
   rw [hv,hv,hv]
   refine sin_lo (by omega) (by omega) fun n n1 n2 hn=>?_
   rw [meets_t (n:=n - c) ha (by omega) (by omega) (by omega)] at hm
   cases hm
  have hh : hullI (v a.1) (v a.2)=(min (v a.1).1 (v a.2).1,max (v a.1).2 (v a.2).2):=by simp only [hullI,va,vb,Bool.and_self,if_true]
  have vh : validB (hullI (v a.1) (v a.2)).1 (hullI (v a.1) (v a.2)).2=true:=by rw [hh,valid_iff];simp only [];omega
  have hP : hullI (hullI (v a.1) (v a.2)) (ofI 65536)=(min (v a.1).1 (v a.2).1,65536):=by
   rw [ofO]
   unfold hullI at *
   simp only [va,vb,Bool.and_self,if_true] at vh ⊢
   rw [vh]
   simp only [show validB 65536 65536=true from rfl,Bool.and_self,if_true]
   ext<;>(try simp only [])<;>omega
  rw [over_val ha (by omega)]
  try simp only []
  cases hm : meetsI a t with
  |true=>
   simp only [if_true]
   rw [hP]
   cases hk : meetsI a u with
   |true=>
    simp only [if_true]
    have : hullI (min (v a.1).1 (v a.2).1,65536) (ofI (-65536))=(-65536,65536):=by
     rw [ofN]
     have : validB (min (v a.1).1 (v a.2).1) 65536=true:=valid_iff.2 (by omega)
     simp only [hullI,this,show validB (-65536) (-65536)=true from rfl,Bool.and_self,if_true]
     ext<;>(try simp only [])<;>omega
    rw [this]
    apply subI_of<;>(try simp only [])<;>omega
   |false=>
    have:=hL hk
    simp only [Bool.false_eq_true,if_false]
    apply subI_of<;>(try simp only [])<;>omega
  |false=>
   have h3:=hH hm
   simp only [Bool.false_eq_true,if_false]
   cases hk : meetsI a u with
   |true=>
    simp only [if_true]
    have : hullI (hullI (v a.1) (v a.2)) (ofI (-65536))=(-65536,max (v a.1).2 (v a.2).2):=by
     rw [ofN,hh]
     have : validB (min (v a.1).1 (v a.2).1) (max (v a.1).2 (v a.2).2)=true:=valid_iff.2 (by omega)
     simp only [hullI,this,show validB (-65536) (-65536)=true from rfl,Bool.and_self,if_true]
     ext<;>(try simp only [])<;>omega
    rw [this]
    apply subI_of<;>(try simp only [])<;>omega
   |false=>
    have:=hL hk
    simp only [Bool.false_eq_true,if_false]
    rw [hh]
    apply subI_of<;>(try simp only [])<;>omega
theorem over_sub (hv : ∀ x,v x=sinA (x+c)) (ht : (t+c - 16384) % 65536=0) (hu : (u+c - 49152) % 65536=0) {a b : Iv} (h : SubI a b) : SubI (overI a v t u) (overI b v t u):=by
 have r0 : ∀ x,-65536≤(v x).1∧(v x).1≤(v x).2∧(v x).2≤65536:=fun x=>by rw [hv];exact sin_rng _
 have hab:=h.all
 have vA : ∀ x,validB (v x).1 (v x).2=true:=fun x=>valid_iff.2 (by have:=r0 x;omega)
 have sF : ∀ x,SubI (v x) (-65536,65536):=fun x=>by have:=r0 x;apply subI_of<;>(try simp only [])<;>omega
 have sO : SubI (ofI 65536) (-65536,65536):=by rw [ofO];apply subI_of<;>(try simp only [])<;>omega
 have sN : SubI (ofI (-65536)) (-65536,65536):=by rw [ofN];apply subI_of<;>(try simp only [])<;>omega
 by_cases hw : 65536≤b.2 - b.1
 ·rw [over_big h.vy hw]
  by_cases hw' : 65536≤a.2 - a.1
  ·rw [over_big h.vx hw'];exact SubI.refl rfl
  ·rw [over_val h.vx (by omega)]
   try simp only []
   have s1:=hullI_in (sF a.1) (sF a.2)
   have s2:=hullI_in s1 sO
   split
   ·split
    ·exact hullI_in s2 sN
    ·exact hullI_in s1 sN
   ·split
    ·exact s2
    ·exact s1
 ·have i1:=over_in hv ht hu h.vy (x:=a.1) (by omega) (by omega)
  have i2:=over_in hv ht hu h.vy (x:=a.2) (by omega) (by omega)
  have s1:=hullI_in i1 i2
  have b1:=hullI_in (sF b.1) (sF b.2)
  have b2:=hullI_in b1 sO
  have sT : meetsI a t=true→SubI (ofI 65536) (overI b v t u):=fun hm=>by
   rw [over_val h.vy (by omega)]
   simp only [meets_mono h hm,if_true]
   have g:=hullI_r b1.vx sO.vx
   split
   ·exact g.trans (hullI_l b2.vx sN.vx)
   ·exact g
  have sU : meetsI a u=true→SubI (ofI (-65536)) (overI b v t u):=fun hm=>by
   rw [over_val h.vy (by omega)]
   simp only [meets_mono h hm,if_true]
   split
   ·exact hullI_r b2.vx sN.vx
   ·exact hullI_r b1.vx sN.vx
  rw [over_val h.vx (by omega)]
  try simp only []
  cases hm : meetsI a t with
  |true=>
   have s2:=hullI_in s1 (sT hm)
   simp only [if_true]
   split
   ·rename_i hk;exact hullI_in s2 (sU hk)
   ·exact s2
  |false=>
   simp only [Bool.false_eq_true,if_false]
   split
   ·rename_i hk;exact hullI_in s1 (sU hk)
   ·exact s1
end over
theorem sinA_mod {x y : Int} (h : (x - y) % 65536=0) : sinA x=sinA y:=by
 unfold sinA
 rw [show x % 65536=y % 65536 by omega]
theorem sinO_sub {a b : Iv} (h : SubI a b) : SubI (sinO a) (sinO b):=over_sub (v:=sinA) (c:=0) (fun x=>by rw [Int.add_zero]) (by decide) (by decide) h
theorem cosO_sub {a b : Iv} (h : SubI a b) : SubI (cosO a) (cosO b):=over_sub (v:=cosA) (c:=16384) (fun x=>by unfold cosA;exact sinA_mod (by omega)) (by decide) (by decide) h
end Go.Ab
namespace Go.Ab
open Go.Proofs
structure Verd where
 kind : Int
 nor : List (Int × Int × Int)
 pair : Int
 left : List Int
 right : List Int
structure Cel where
 joint : Int
 low : Int
 high : Int
 v : Verd
structure Tr where
 root : List (Int × Int)
 cells : List Cel
abbrev encVec (v : Int × Int × Int) : PV:=.val (.agg #[.int .i64 v.1,.int .i64 v.2.1,.int .i64 v.2.2])
abbrev vecs (l : List (Int × Int × Int)) : PV:=.sl (l.map encVec)
def leafB (c : Cel) : Bool:=c.joint==-1 && c.low==-1 && c.high==-1
def emptyW (p : Int) (l r : List Int) : Bool:=p==0 && (l.length : Int)==0 && (r.length : Int)==0
def inFormB (v : Verd) : Bool:=if v.kind=0∨v.kind=1 then emptyW v.pair v.left v.right else if v.kind=2 then ((v.nor.length : Int)==0) else false
def zeroB (v : Verd) : Bool:=v.kind==0 && ((v.nor.length : Int)==0) && emptyW v.pair v.left v.right
def rootOk (r : List (Int × Int)) : Bool:=decide (1≤r.length) && decide (r.length≤10) && allB vI r
end Go.Ab
namespace Go.Ab
open Go.Proofs
theorem allV_iff {α : Type} {p : α→Bool} {xs : List α} : allB p xs=true↔∀ x ∈ xs,p x=true:=List.all_eq_true
abbrev Bx:=List (Int × Int)
abbrev OL:=List (Option Bx)
def innerB (n i : Nat) (c : Cel) : Bool:=decide ((i : Int) < c.low) && decide (c.low < n) && decide ((i : Int) < c.high) && decide (c.high < n) && decide (c.low≠c.high) && zeroB c.v
def bStep (n i : Nat) (c : Cel) (L : OL) : Option OL:=
 match L[i]? with
 |some (some b)=>
  if leafB c then (if inFormB c.v then some L else none)
  else if innerB n i c then
   if halveOk b c.joint then
    match L[c.low.toNat]?,L[c.high.toNat]? with
    |some none,some none=>some ((L.set c.low.toNat (some (halveA b c.joint))).set c.high.toNat (some (halveZ b c.joint)))
    |_,_=>none
   else none
  else none
 |_=>none
def bRun (n : Nat) : List Cel→Nat→OL→Option OL
 |[],_,L=>some L
 |c :: cs,i,L=>match bStep n i c L with
  |some L'=>bRun n cs (i+1) L'
  |none=>none
def bInit (t : Tr) : OL:=some t.root :: List.replicate (t.cells.length - 1) none
def sizeOk (t : Tr) : Bool:=decide (1≤t.cells.length) && decide (t.cells.length≤2048) && rootOk t.root
def boxesO (t : Tr) : Option OL:=if sizeOk t then bRun t.cells.length t.cells 0 (bInit t) else none
def validT (t : Tr) : Bool:=(boxesO t).isSome
def boxesL (t : Tr) : List Bx:=match boxesO t with
 |some L=>L.map fun x=>x.getD []
 |none=>[]
theorem bStep_some {n i : Nat} {c : Cel} {L L' : OL} (h : bStep n i c L=some L') : ∃ b,L[i]?=some (some b)∧
 ((leafB c=true∧inFormB c.v=true∧L'=L)∨
  (leafB c=false∧innerB n i c=true∧halveOk b c.joint=true∧L[c.low.toNat]?=some none∧L[c.high.toNat]?=some none∧
    L'=(L.set c.low.toNat (some (halveA b c.joint))).set c.high.toNat (some (halveZ b c.joint)))):=by
 unfold bStep at h
 split at h
 ·rename_i b hb
  refine ⟨b,hb,?_⟩
  split at h
  ·rename_i hl
   split at h
   ·rename_i hf
    injection h with h
    exact .inl ⟨hl,hf,h.symm⟩
   ·cases h
  ·rename_i hl
   split at h
   ·rename_i hi
    split at h
    ·rename_i hh
     split at h
     ·rename_i h1 h2
      injection h with h
      exact .inr ⟨by simpa using hl,hi,hh,h1,h2,h.symm⟩
     ·cases h
    ·cases h
   ·cases h
 ·cases h
theorem innerB_iff {n i : Nat} {c : Cel} : innerB n i c=true↔(i : Int) < c.low∧c.low < n∧(i : Int) < c.high∧c.high < n∧c.low≠c.high∧zeroB c.v=true:=by
 simp [innerB,and_assoc]
theorem bRun_ind {n : Nat} {P : Nat→OL→Prop} : ∀ (cs : List Cel) (i : Nat) (L L' : OL),bRun n cs i L=some L'→P i L→
 (∀ k c L L',cs[k]?=some c→P (i+k) L→bStep n (i+k) c L=some L'→P (i+k+1) L')→P (i+cs.length) L'
 |[],i,L,L',h,h0,_=>by simp [bRun] at h;subst h;exact h0
 |c :: cs,i,L,L',h,h0,hs=>by
  simp only [bRun] at h
  split at h
  ·rename_i L1 h1
   have h2:=hs 0 c L L1 rfl h0 h1
   have:=bRun_ind cs (i+1) L1 L' h h2 (fun k d M M' hk hp hm=>by
    have e : i+1+k=i+(k+1):=by omega
    rw [e] at hp hm ⊢
    exact hs (k+1) d M M' (by simpa using hk) hp hm)
   have e : i+(c :: cs).length=i+1+cs.length:=by simp;omega
   rw [e];exact this
  ·cases h
theorem boxes_ind {t : Tr} {L : OL} {P : Nat→OL→Prop} (h : boxesO t=some L) (h0 : P 0 (bInit t))
 (hs : ∀ i c L L',t.cells[i]?=some c→P i L→bStep t.cells.length i c L=some L'→P (i+1) L') : P t.cells.length L:=by
 unfold boxesO at h
 split at h
 ·have:=bRun_ind t.cells 0 _ _ h h0 (fun k c M M' hk hp hm=>by
   rw [Nat.zero_add] at hp hm ⊢;exact hs k c M M' hk hp hm)
  simpa using this
 ·cases h
theorem boxesO_size {t : Tr} {L : OL} (h : boxesO t=some L) : sizeOk t=true:=by
 unfold boxesO at h
 split at h
 ·assumption
 ·cases h
theorem sizeOk_iff {t : Tr} : sizeOk t=true↔1≤t.cells.length∧t.cells.length≤2048∧1≤t.root.length∧t.root.length≤10∧allB vI t.root=true:=by
 simp [sizeOk,rootOk,and_assoc]
structure BOk (t : Tr) (i : Nat) (L : OL) : Prop where
 len : L.length=t.cells.length
 pre : ∀ j,j < i→∃ b,L[j]?=some (some b)
 ok : ∀ (j : Nat) b,L[j]?=some (some b)→b.length=t.root.length∧allB vI b=true
theorem halve_len {b : Bx} {j : Int} (h : halveOk b j=true) : (halveA b j).length=b.length∧(halveZ b j).length=b.length:=by
 unfold halveA halveZ
 rw [h]
 simp only [if_true]
 unfold halveOk at h
 split<;>simp_all
theorem validB_iff {lo hi : Int} : validB lo hi=true↔-2147483648≤lo∧lo≤hi∧hi≤2147483648:=by
 simp [validB,and_assoc]
theorem mid_rng {x : Int × Int} (h : validB x.1 x.2=true) : midI x=(x.1+x.2) / 2:=by
 unfold midI
 have h':=validB_iff.1 h
 rw [h,if_pos rfl,show wr (x.1+x.2)=x.1+x.2 from wr_id (by omega) (by omega),Int.fdiv_eq_ediv]
 simp
theorem hvOk_iff {b : Bx} {j : Int} : halveOk b j=true↔0≤j∧allB vI b=true∧∃ x,b[j.toNat]?=some x∧2≤x.2 - x.1:=by
 unfold halveOk
 constructor
 ·intro h
  simp only [Bool.and_eq_true,decide_eq_true_eq] at h
  obtain ⟨⟨h1,h2⟩,h3⟩:=h
  refine ⟨h1,h2,?_⟩
  split at h3
  ·rename_i x hx
   refine ⟨x,hx,?_⟩
   have hv:=validB_iff.1 (allV_iff.1 h2 _ (List.mem_of_getElem? hx))
   rw [decide_eq_true_eq,widthI,if_pos (allV_iff.1 h2 _ (List.mem_of_getElem? hx)),show wr (x.2 - x.1)=x.2 - x.1 from wr_id (by omega) (by omega)] at h3
   exact h3
  ·cases h3
 ·rintro ⟨h1,h2,x,hx,h3⟩
  have hv:=validB_iff.1 (allV_iff.1 h2 _ (List.mem_of_getElem? hx))
  have hw : widthI x=x.2 - x.1:=by
   rw [widthI,if_pos (allV_iff.1 h2 _ (List.mem_of_getElem? hx))]
   exact wr_id (by omega) (by omega)
  simp [h1,h2,hx,hw,h3]
theorem halve_eq {b : Bx} {j : Int} (h : halveOk b j=true) : ∃ x,b[j.toNat]?=some x∧validB x.1 x.2=true∧2≤x.2 - x.1∧halveA b j=b.set j.toNat (x.1,(x.1+x.2) / 2)∧halveZ b j=b.set j.toNat ((x.1+x.2) / 2,x.2):=by
 obtain ⟨_,h2,x,hx,h3⟩:=hvOk_iff.1 h
 have hv : validB x.1 x.2=true:=allV_iff.1 h2 _ (List.mem_of_getElem? hx)
 refine ⟨x,hx,hv,h3,?_,?_⟩
 ·simp [halveA,h,hx,mid_rng hv]
 ·simp [halveZ,h,hx,mid_rng hv]
theorem halve_valid {b : Bx} {j : Int} (h : halveOk b j=true) : allB vI (halveA b j)=true∧allB vI (halveZ b j)=true:=by
 obtain ⟨x,hx,hv,h3,ea,ez⟩:=halve_eq h
 have h2:=(hvOk_iff.1 h).2.1
 have hv':=validB_iff.1 hv
 rw [ea,ez]
 constructor<;>refine allV_iff.2 fun y hy=>?_
 ·rcases List.mem_or_eq_of_mem_set hy with h|rfl
  ·exact allV_iff.1 h2 _ h
  ·exact validB_iff.2 ⟨by omega,by simp only;omega,by simp only;omega⟩
 ·rcases List.mem_or_eq_of_mem_set hy with h|rfl
  ·exact allV_iff.1 h2 _ h
  ·exact validB_iff.2 ⟨by simp only;omega,by simp only;omega,by omega⟩
theorem bok_init {t : Tr} (h : sizeOk t=true) : BOk t 0 (bInit t):=by
 obtain ⟨h1,h2,h3,h4,h5⟩:=sizeOk_iff.1 h
 refine ⟨by simp [bInit];omega,fun j hj=>by omega,fun j b hb=>?_⟩
 cases j with
 |zero=>simp [bInit] at hb;subst hb;exact ⟨rfl,h5⟩
 |succ j=>simp [bInit,List.getElem?_replicate] at hb
theorem set2_get {L : OL} {a z : Nat} {x y : Option Bx} {j : Nat} (hne : a≠z) (ha : a < L.length) (hz : z < L.length) : ((L.set a x).set z y)[j]?=if j=z then some y else if j=a then some x else L[j]?:=by
 rw [List.getElem?_set]
 by_cases h1 : z=j
 ·subst h1;simp [hz]
 ·rw [if_neg h1,if_neg (fun h=>h1 h.symm),List.getElem?_set]
  by_cases h2 : a=j
  ·subst h2;simp [ha]
  ·rw [if_neg h2,if_neg (fun h=>h2 h.symm)]
theorem step_get {t : Tr} {i : Nat} {c : Cel} {L : OL} {x y : Option Bx} {j : Nat} (hl : L.length=t.cells.length) (hi : innerB t.cells.length i c=true) : ((L.set c.low.toNat x).set c.high.toNat y)[j]?=if j=c.high.toNat then some y else if j=c.low.toNat then some x else L[j]?:=by
 obtain ⟨h1,h2,h3,h4,h5,_⟩:=innerB_iff.1 hi
 exact set2_get (by omega) (by omega) (by omega)
theorem bok_step {t : Tr} {i : Nat} {c : Cel} {L L' : OL} (h : BOk t i L) (hs : bStep t.cells.length i c L=some L') : BOk t (i+1) L':=by
 obtain ⟨b,hb,⟨_,_,rfl⟩|⟨_,hi,hh,hlo,hhi,rfl⟩⟩:=bStep_some hs
 ·refine ⟨h.len,fun j hj=>?_,h.ok⟩
  by_cases e : j=i
  ·subst e;exact ⟨b,hb⟩
  ·exact h.pre j (by omega)
 ·have hbo:=h.ok i b hb
  refine ⟨by simpa using h.len,fun j hj=>?_,fun j d hd=>?_⟩
  ·rw [step_get h.len hi]
   split
   ·exact ⟨_,rfl⟩
   ·split
    ·exact ⟨_,rfl⟩
    ·by_cases e : j=i
     ·subst e;exact ⟨b,hb⟩
     ·exact h.pre j (by omega)
  ·rw [step_get h.len hi] at hd
   split at hd
   ·injection hd with hd;injection hd with hd;subst hd
    exact ⟨by rw [(halve_len hh).2];exact hbo.1,(halve_valid hh).2⟩
   ·split at hd
    ·injection hd with hd;injection hd with hd;subst hd
     exact ⟨by rw [(halve_len hh).1];exact hbo.1,(halve_valid hh).1⟩
    ·exact h.ok j d hd
structure BInv (t : Tr) (i : Nat) (L : OL) : Prop where
 bok : BOk t i L
 run : bRun t.cells.length (t.cells.drop i) i L=boxesO t
theorem boxesO_ok {t : Tr} {L : OL} (h : boxesO t=some L) : BOk t t.cells.length L:=
 boxes_ind h (bok_init (boxesO_size h)) (fun _ _ _ _ _ hp hm=>bok_step hp hm)
theorem boxesO_map {t : Tr} {L : OL} (h : boxesO t=some L) : L=(boxesL t).map some:=by
 have ok:=boxesO_ok h
 rw [boxesL,h]
 simp only [List.map_map]
 apply List.ext_getElem?;intro j
 by_cases hj : j < L.length
 ·obtain ⟨b,hb⟩:=ok.pre j (by rw [← ok.len];exact hj)
  simp [hb]
 ·simp [List.getElem?_eq_none (by omega : L.length≤j)]
theorem boxesL_len {t : Tr} (h : validT t=true) : (boxesL t).length=t.cells.length:=by
 obtain ⟨L,hL⟩:=Option.isSome_iff_exists.1 h
 have:=(boxesO_ok hL).len
 rw [boxesO_map hL] at this
 simpa using this
theorem boxesL_ok {t : Tr} {j : Nat} {b : Bx} (hb : (boxesL t)[j]?=some b) : b.length=t.root.length∧allB vI b=true:=by
 cases hL : boxesO t with
 |none=>simp [boxesL,hL] at hb
 |some L=>
  have:=(boxesO_ok hL).ok j b
  rw [boxesO_map hL] at this
  exact this (by simp [hb])
end Go.Ab
namespace Go.Ab
open Go.Proofs
def leafN (t : Tr) (i : Nat) : Bool:=match t.cells[i]? with
 |some c=>leafB c
 |none=>false
end Go.Ab
namespace Go.Ab
open Go.Proofs
structure MTree (t : Tr) : Prop where
 valid : validT t=true
 pos : 1≤t.root.length
 three : t.root.length≤3
 rng : ∀ x ∈ t.root,-40≤x.1∧x.1≤x.2∧x.2≤100
 cells : t.cells.length≤27
 one : 1≤t.cells.length
end Go.Ab
namespace Go.Ab
open Go.Proofs
end Go.Ab
namespace Go.Ab
open Go.Proofs
def boxAt (t : Tr) (c : Int) : Bx:=(boxesL t)[c.toNat]?.getD []
theorem boxAt_ok {t : Tr} (hv : validT t=true) {c : Int} (h : c.toNat < t.cells.length) : (boxesL t)[c.toNat]?=some (boxAt t c)∧(boxAt t c).length=t.root.length∧allB vI (boxAt t c)=true:=by
 have hl : c.toNat < (boxesL t).length:=by rw [boxesL_len hv];exact h
 have e : (boxesL t)[c.toNat]?=some (boxAt t c):=by simp [boxAt,List.getElem?_eq_getElem hl]
 exact ⟨e,boxesL_ok e⟩
def chStep (t : Tr) (chain : List Int) (j : Nat) : Bool:=match chain[j]? with
 |some c=>decide (0≤c) && decide (c < t.cells.length) && leafN t c.toNat && !((chain.take j).contains c) && (decide (j=0) || touchC (boxAt t (chain[j - 1]?.getD 0)) (boxAt t c))
 |none=>false
theorem chStep_iff {t : Tr} {chain : List Int} {j : Nat} {c : Int} (hc : chain[j]?=some c) : chStep t chain j=true↔0≤c∧c < t.cells.length∧leafN t c.toNat=true∧c ∉ chain.take j∧(j=0∨touchC (boxAt t (chain[j - 1]?.getD 0)) (boxAt t c)=true):=by
 simp [chStep,hc,and_assoc]
structure ChOk (t : Tr) (chain p q : List Int) : Prop where
 valid : validT t=true
 hp : hasC t.root p=true
 hq : hasC t.root q=true
 ne : chain≠[]
 all : ∀ j,j < chain.length→chStep t chain j=true
namespace ChOk
variable {t : Tr} {chain p q : List Int}
theorem get (h : ChOk t chain p q) {j : Nat} (hj : j < chain.length) : 0≤chain[j]∧chain[j] < t.cells.length∧leafN t chain[j].toNat=true∧chain[j] ∉ chain.take j∧(j=0∨touchC (boxAt t (chain[j - 1]?.getD 0)) (boxAt t chain[j])=true):=
 (chStep_iff (List.getElem?_eq_getElem hj)).1 (h.all j hj)
theorem box (h : ChOk t chain p q) {j : Nat} (hj : j < chain.length) : (boxesL t)[chain[j].toNat]?=some (boxAt t chain[j])∧(boxAt t chain[j]).length=t.root.length∧allB vI (boxAt t chain[j])=true:=by
 have:=h.get hj
 exact boxAt_ok h.valid (by omega)
theorem touch (h : ChOk t chain p q) {j : Nat} (hj : j+1 < chain.length) : touchC (boxAt t chain[j]) (boxAt t chain[j+1])=true:=by
 have:=(h.get hj).2.2.2.2
 rcases this with e|e
 ·omega
 ·rw [Nat.add_sub_cancel,List.getElem?_eq_getElem (by omega)] at e;exact e
end ChOk
end Go.Ab
namespace Go.Ab
open Go.Proofs
structure BS where
 far : List Int
 q : List Nat
section
variable (n : Nat) (may has hasF : Nat→Bool) (tch : Nat→Nat→Bool)
def fAt (far : List Int) (i : Nat) : Int:=far[i]?.getD 0
structure BInv2 (s : BS) : Prop where
 len : s.far.length=n
 cnt : s.far.countP (fun x=>x !=0)=s.q.length
 mem : ∀ j ∈ s.q,j < n∧1≤fAt s.far j
 nn : ∀ i,0≤fAt s.far i
 top : ∀ i,fAt s.far i≤s.q.length
 may' : ∀ i,1≤fAt s.far i→may i=true
 back : ∀ i,1≤fAt s.far i→(fAt s.far i=1∧has i=true)∨∃ p,p < n∧fAt s.far p=fAt s.far i - 1∧1≤fAt s.far p∧tch i p=true
variable {n may has hasF tch}
theorem fAt_set {far : List Int} {i j : Nat} {v : Int} (hi : i < far.length) : fAt (far.set i v) j=if j=i then v else fAt far j:=by
 unfold fAt
 rw [List.getElem?_set]
 by_cases h : i=j
 ·subst h;simp [hi]
 ·rw [if_neg h,if_neg (fun e=>h e.symm)]
theorem cnt_set {far : List Int} {i : Nat} {v : Int} (hi : i < far.length) (h0 : fAt far i=0) (hv : v≠0) : (far.set i v).countP (fun x=>x !=0)=far.countP (fun x=>x !=0)+1:=by
 have h0' : far[i]=0:=by simpa [fAt,List.getElem?_eq_getElem hi] using h0
 rw [List.countP_set hi]
 simp [h0',hv]
theorem BInv2.put {s : BS} (h : BInv2 n may has tch s) {i : Nat} {v : Int} (hi : i < n) (h0 : fAt s.far i=0) (hv : 1≤v) (hm : may i=true) (ht : v≤s.q.length+1)
 (hb : (v=1∧has i=true)∨∃ p,p < n∧fAt s.far p=v - 1∧1≤fAt s.far p∧tch i p=true) : BInv2 n may has tch ⟨s.far.set i v,s.q++[i]⟩:=by
 have hil : i < s.far.length:=by rw [h.len];exact hi
 refine ⟨by simpa using h.len,?_,?_,?_,?_,?_,?_⟩
 ·simp only [List.length_append,List.length_singleton];rw [cnt_set hil h0 (by omega),h.cnt]
 ·intro j hj
  simp only [List.mem_append,List.mem_singleton] at hj
  simp only [fAt_set hil]
  rcases hj with hj|rfl
  ·refine ⟨(h.mem j hj).1,?_⟩
   split
   ·exact hv
   ·exact (h.mem j hj).2
  ·exact ⟨hi,by simp [hv]⟩
 ·intro j;simp only [fAt_set hil];split
  ·omega
  ·exact h.nn j
 ·intro j;simp only [fAt_set hil,List.length_append,List.length_singleton]
  have:=h.top j
  split<;>omega
 ·intro j;simp only [fAt_set hil];split
  ·rename_i e;rw [e];exact fun _=>hm
  ·exact h.may' j
 ·have hpn : ∀ p,1≤fAt s.far p→p≠i:=fun p hp e=>by rw [e,h0] at hp;omega
  intro j;simp only [fAt_set hil];split
  ·rename_i e;rw [e];intro _
   rcases hb with hb|⟨p,p1,p2,p3,p4⟩
   ·exact .inl hb
   ·exact .inr ⟨p,p1,by rw [if_neg (hpn p p3)];exact p2,by rw [if_neg (hpn p p3)];exact p3,p4⟩
  ·intro hj
   rcases h.back j hj with hb|⟨p,p1,p2,p3,p4⟩
   ·exact .inl hb
   ·exact .inr ⟨p,p1,by rw [if_neg (hpn p p3)];exact p2,by rw [if_neg (hpn p p3)];exact p3,p4⟩
end
end Go.Ab
namespace Go.Ab
open Go.Proofs
end Go.Ab
namespace Go.Ab
open Go.Proofs
theorem rp_arr3 {P : Program} (D : Nat) {t e : TypeId} (ht : P.underlying t=some (.array 3 e)) (hs : runPure P (sizeOf e)=some 1) (e0 : ∀ x y : Int,runPure P (Op.equalIn D e (.int .i64 x) (.int .i64 y))=some (x==y)) {xs ys : Array Value} {a b c a' b' c' : Int}
 (p0 : runPure P (part e xs (0 * 1))=some (.int .i64 a)) (p1 : runPure P (part e xs (1 * 1))=some (.int .i64 b)) (p2 : runPure P (part e xs (2 * 1))=some (.int .i64 c))
 (q0 : runPure P (part e ys (0 * 1))=some (.int .i64 a')) (q1 : runPure P (part e ys (1 * 1))=some (.int .i64 b')) (q2 : runPure P (part e ys (2 * 1))=some (.int .i64 c')) :
 runPure P (Op.equalIn (D+1) t (.agg xs) (.agg ys))=some (a==a' && b==b' && c==c'):=by
 simp only [Op.equalIn,runPure_bind,runPure_underlying ht,Option.bind_some]
 simp only [hs,Option.bind_some,Std.Legacy.Range.forIn_eq_forIn_range',Std.Legacy.Range.size]
 have hr : List.range' 0 ((3 - 0+1 - 1) / 1) 1=[0,1,2]:=by decide
 rw [hr]
 simp only [List.forIn_cons,List.forIn_nil,runPure_bind,p0,q0,e0,Option.bind_some]
 cases h1 : (a==a')
 ·simp [runPure_pure]
 simp only [Bool.not_true,Bool.false_eq_true,if_false,runPure_pure,Option.bind_some,runPure_bind,p1,q1,e0]
 cases h2 : (b==b')
 ·simp [runPure_pure]
 simp only [Bool.not_true,Bool.false_eq_true,if_false,runPure_pure,Option.bind_some,runPure_bind,p2,q2,e0]
 cases h3 : (c==c')
 ·simp [runPure_pure]
 ·simp [runPure_pure]
theorem eqVec (a b e c d f : Int) : runPure Tryz.prog (Op.equal 55 (.agg #[.int .i64 a,.int .i64 b,.int .i64 e]) (.agg #[.int .i64 c,.int .i64 d,.int .i64 f]))=some (a==c && b==d && e==f):=
 rp_arr3 9999 Tryz.underlying55 (by kernel_rfl) (fun x y=>rp_int (P:=Tryz.prog) 9998 2 .i64 .i64 x y Tryz.underlying2) (by kernel_rfl) (by kernel_rfl) (by kernel_rfl) (by kernel_rfl) (by kernel_rfl) (by kernel_rfl)
def ints3 (x : AV) : Option (Int × Int × Int):=match x with
 |.pv (.val (.agg vs))=>match vs.toList with
  |[.int .i64 a,.int .i64 b,.int .i64 c]=>some (a,b,c)
  |_=>none
 |_=>none
theorem ints3_some {x : AV} {a b c : Int} (h : ints3 x=some (a,b,c)) : x=.pv (encVec (a,b,c)):=by
 unfold ints3 at h
 split at h
 ·split at h
  ·rename_i vs _ a' b' c' hv
   injection h with h;injection h with h1 h2;injection h2 with h2 h3;subst h1;subst h2;subst h3
   rw [← Array.toArray_toList (xs:=vs),hv]
  ·cases h
 ·cases h
def cmp3 (x y : AV) (fb : Option Eff) : Option Eff:=match ints3 x,ints3 y with
 |some (a,b,e),some (c,d,f)=>some (.pv (.val (.bool !(a==c && b==d && e==f))),[])
 |_,_=>fb
@[simp] theorem cmp3_some (a b e c d f : Int) (fb : Option Eff) : cmp3 (.pv (.val (.agg #[.int .i64 a,.int .i64 b,.int .i64 e]))) (.pv (.val (.agg #[.int .i64 c,.int .i64 d,.int .i64 f]))) fb=some (.pv (.val (.bool !(a==c && b==d && e==f))),[]):=rfl
@[simp] theorem neqVec {dst : Option Nat} {ty : TypeId} {pos : String} {aft : Array Edge} {g : Option (Nat × Bool)} {ρ : Operand→AV} (x y : Operand) :
 evPure Tryz.prog ⟨dst,.binOp .neq 55 x y 55,ty,pos,aft,g⟩ ρ=cmp3 (ρ x) (ρ y) (evPureX Tryz.prog ⟨dst,.binOp .neq 55 x y 55,ty,pos,aft,g⟩ ρ):=by
 unfold cmp3
 split
 ·rename_i a b e c d f hx hy
  exact evPure_neq rfl (ints3_some hx) (ints3_some hy) (by kernel_rfl) (eqVec a b e c d f)
 ·rfl
end Go.Ab
