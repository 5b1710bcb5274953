/- The contracts and facts that the laws of this seat need, in one text (Ty, CfA). -/
import Derived.Test.YtkjjgiigiiokoaaX3
import Derived.Test.YtkjjgiigiiokoaaProg
set_option linter.all false
namespace Go.Ab
open Go.Proofs
@[simp] theorem y6 : ag Try.prog 2=some ⟨1,(some (.int .i64 0)),.one⟩:=by kernel_rfl
@[simp] theorem y7 : aN Try.prog 2=some .i64:=by kernel_rfl
@[simp] theorem y8 : ag Try.prog 3=some ⟨1,(some (.int .i64 0)),.one⟩:=by kernel_rfl
@[simp] theorem y9 : aN Try.prog 3=some .i64:=by kernel_rfl
@[simp] theorem ya : ag Try.prog 4=some ⟨1,(some (.bool false)),.one⟩:=by kernel_rfl
@[simp] theorem yb : ag Try.prog 5=some ⟨1,(some (.int .u8 0)),.one⟩:=by kernel_rfl
@[simp] theorem yc : aN Try.prog 5=some .u8:=by kernel_rfl
@[simp] theorem yd : ag Try.prog 6=some ⟨1,(some (.int .u8 0)),.one⟩:=by kernel_rfl
@[simp] theorem ye : aN Try.prog 6=some .u8:=by kernel_rfl
@[simp] theorem yf : ag Try.prog 7=some ⟨4,(some (.agg #[.int .i64 0,.int .i64 0,.bool false,.int .u8 0])),.struct [(0,1),(1,1),(2,1),(3,1)]⟩:=by kernel_rfl
@[simp] theorem yg : ag Try.prog 8=some ⟨4,(some (.agg #[.int .i64 0,.int .i64 0,.bool false,.int .u8 0])),.struct [(0,1),(1,1),(2,1),(3,1)]⟩:=by kernel_rfl
@[simp] theorem yh : ag Try.prog 9=some ⟨1,(some (.string ByteArray.empty)),.one⟩:=by kernel_rfl
@[simp] theorem yi : dG Try.prog 9=some none:=by kernel_rfl
@[simp] theorem wP : ag Try.prog 10=some ⟨1,(some (.string ByteArray.empty)),.one⟩:=by kernel_rfl
@[simp] theorem wQ : dG Try.prog 10=some none:=by kernel_rfl
@[simp] theorem wR : ag Try.prog 11=some ⟨1,(some (.string ByteArray.empty)),.one⟩:=by kernel_rfl
@[simp] theorem wS : dG Try.prog 11=some none:=by kernel_rfl
@[simp] theorem wT : ag Try.prog 12=some ⟨1,(some (.int .u64 0)),.one⟩:=by kernel_rfl
@[simp] theorem wU : aN Try.prog 12=some .u64:=by kernel_rfl
@[simp] theorem wV : ag Try.prog 13=some ⟨2,(some (.agg #[.string ByteArray.empty,.int .u64 0])),.struct [(0,1),(1,1)]⟩:=by kernel_rfl
@[simp] theorem wW : ag Try.prog 14=some ⟨2,(some (.agg #[.string ByteArray.empty,.int .u64 0])),.struct [(0,1),(1,1)]⟩:=by kernel_rfl
@[simp] theorem wX : ag Try.prog 15=some ⟨1,(some (.pointer none)),.one⟩:=by kernel_rfl
@[simp] theorem wY : ag Try.prog 16=some ⟨1,(some (.pointer none)),.one⟩:=by kernel_rfl
@[simp] theorem wZ : ag Try.prog 17=some ⟨1,(some (.pointer none)),.one⟩:=by kernel_rfl
@[simp] theorem xa : ag Try.prog 18=some ⟨1,(some (.agg #[.pointer none])),.struct [(0,1)]⟩:=by kernel_rfl
@[simp] theorem xb : ag Try.prog 19=some ⟨1,(some (.agg #[.pointer none])),.struct [(0,1)]⟩:=by kernel_rfl
@[simp] theorem xc : ag Try.prog 21=some ⟨1,(some (.int .i32 0)),.one⟩:=by kernel_rfl
@[simp] theorem xd : aN Try.prog 21=some .i32:=by kernel_rfl
@[simp] theorem xe : ag Try.prog 22=some ⟨1,(some (.slice none 0 0)),.slice 48 2 48 (some (.agg #[.slice none 0 0,.slice none 0 0]))⟩:=by kernel_rfl
@[simp] theorem xf : ag Try.prog 23=some ⟨1,(some (.slice none 0 0)),.slice 72 6 48 (some (.agg #[.int .i64 0,.int .i64 0,.int .i64 0,.int .i64 0,.int .i64 0,.int .i64 0]))⟩:=by kernel_rfl
@[simp] theorem xg : ag Try.prog 24=some ⟨2,(some (.agg #[.slice none 0 0,.slice none 0 0])),.struct [(0,1),(1,1)]⟩:=by kernel_rfl
@[simp] theorem xh : ag Try.prog 25=some ⟨2,(some (.agg #[.slice none 0 0,.slice none 0 0])),.struct [(0,1),(1,1)]⟩:=by kernel_rfl
@[simp] theorem xi : ag Try.prog 26=some ⟨1,(some (.slice none 0 0)),.slice 3 1 8 (some (.int .i64 0))⟩:=by kernel_rfl
@[simp] theorem xj : ag Try.prog 27=some ⟨1,(some (.slice none 0 0)),.slice 26 1 24 (some (.slice none 0 0))⟩:=by kernel_rfl
@[simp] theorem xk : ag Try.prog 45=some ⟨1,(some (.slice none 0 0)),.slice 56 1 24 (some (.slice none 0 0))⟩:=by kernel_rfl
@[simp] theorem xl : ag Try.prog 46=some ⟨1,(some (.slice none 0 0)),.slice 67 12 160 (some (.agg #[.int .i64 0,.int .i64 0,.int .i64 0,.int .i64 0,.int .i64 0,.slice none 0 0,.int .i64 0,.int .i64 0,.slice none 0 0,.int .i64 0,.slice none 0 0,.slice none 0 0]))⟩:=by kernel_rfl
@[simp] theorem xm : ag Try.prog 47=some ⟨2,(some (.agg #[.slice none 0 0,.slice none 0 0])),.struct [(0,1),(1,1)]⟩:=by kernel_rfl
@[simp] theorem xn : ag Try.prog 48=some ⟨2,(some (.agg #[.slice none 0 0,.slice none 0 0])),.struct [(0,1),(1,1)]⟩:=by kernel_rfl
@[simp] theorem xp : ag Try.prog 53=some ⟨1,(some (.pointer none)),.one⟩:=by kernel_rfl
@[simp] theorem xq : ag Try.prog 56=some ⟨1,(some (.slice none 0 0)),.slice 2 1 8 (some (.int .i64 0))⟩:=by kernel_rfl
@[simp] theorem xr : ag Try.prog 57=some ⟨1,(some (.slice none 0 0)),.slice 60 3 40 (some (.agg #[.int .i64 0,.int .i64 0,.slice none 0 0]))⟩:=by kernel_rfl
@[simp] theorem xu : ag Try.prog 58=some ⟨1,(some (.slice none 0 0)),.slice 153 3 24 (some (.agg #[.int .i64 0,.int .i64 0,.int .i64 0]))⟩:=by kernel_rfl
@[simp] theorem xv : ag Try.prog 59=some ⟨3,(some (.agg #[.int .i64 0,.int .i64 0,.slice none 0 0])),.struct [(0,1),(1,1),(2,1)]⟩:=by kernel_rfl
@[simp] theorem xw : ag Try.prog 60=some ⟨3,(some (.agg #[.int .i64 0,.int .i64 0,.slice none 0 0])),.struct [(0,1),(1,1),(2,1)]⟩:=by kernel_rfl
@[simp] theorem xx : ag Try.prog 61=some ⟨3,(some (.agg #[.int .i64 0,.slice none 0 0,.slice none 0 0])),.struct [(0,1),(1,1),(2,1)]⟩:=by kernel_rfl
@[simp] theorem xy : ag Try.prog 62=some ⟨3,(some (.agg #[.int .i64 0,.slice none 0 0,.slice none 0 0])),.struct [(0,1),(1,1),(2,1)]⟩:=by kernel_rfl
@[simp] theorem xz : ag Try.prog 63=some ⟨8,(some (.agg #[.int .i64 0,.slice none 0 0,.int .i64 0,.int .i64 0,.slice none 0 0,.int .i64 0,.slice none 0 0,.slice none 0 0])),.struct [(0,1),(1,1),(2,3),(5,3)]⟩:=by kernel_rfl
@[simp] theorem xA : ag Try.prog 64=some ⟨8,(some (.agg #[.int .i64 0,.slice none 0 0,.int .i64 0,.int .i64 0,.slice none 0 0,.int .i64 0,.slice none 0 0,.slice none 0 0])),.struct [(0,1),(1,1),(2,3),(5,3)]⟩:=by kernel_rfl
@[simp] theorem xD : ag Try.prog 66=some ⟨12,(some (.agg #[.int .i64 0,.int .i64 0,.int .i64 0,.int .i64 0,.int .i64 0,.slice none 0 0,.int .i64 0,.int .i64 0,.slice none 0 0,.int .i64 0,.slice none 0 0,.slice none 0 0])),.struct [(0,1),(1,1),(2,1),(3,1),(4,8)]⟩:=by kernel_rfl
@[simp] theorem xE : ag Try.prog 67=some ⟨12,(some (.agg #[.int .i64 0,.int .i64 0,.int .i64 0,.int .i64 0,.int .i64 0,.slice none 0 0,.int .i64 0,.int .i64 0,.slice none 0 0,.int .i64 0,.slice none 0 0,.slice none 0 0])),.struct [(0,1),(1,1),(2,1),(3,1),(4,8)]⟩:=by kernel_rfl
@[simp] theorem xF : ag Try.prog 68=some ⟨3,(some (.agg #[.int .i64 0,.int .i64 0,.int .i64 0])),.struct [(0,1),(1,1),(2,1)]⟩:=by kernel_rfl
@[simp] theorem xH : ag Try.prog 69=some ⟨3,(some (.agg #[.int .i64 0,.int .i64 0,.int .i64 0])),.struct [(0,1),(1,1),(2,1)]⟩:=by kernel_rfl
@[simp] theorem xI : ag Try.prog 71=some ⟨6,(some (.agg #[.int .i64 0,.int .i64 0,.int .i64 0,.int .i64 0,.int .i64 0,.int .i64 0])),.struct [(0,3),(3,3)]⟩:=by kernel_rfl
@[simp] theorem xJ : ag Try.prog 72=some ⟨6,(some (.agg #[.int .i64 0,.int .i64 0,.int .i64 0,.int .i64 0,.int .i64 0,.int .i64 0])),.struct [(0,3),(3,3)]⟩:=by kernel_rfl
@[simp] theorem xL : ag Try.prog 77=some ⟨1,(some (.nilFunc)),.one⟩:=by kernel_rfl
@[simp] theorem xM : ag Try.prog 79=some ⟨5,(some (.agg #[.slice none 0 0,.int .i64 0,.int .i64 0,.int .i64 0,.nilFunc])),.struct [(0,1),(1,1),(2,1),(3,1),(4,1)]⟩:=by kernel_rfl
@[simp] theorem xP : ag Try.prog 80=some ⟨5,(some (.agg #[.slice none 0 0,.int .i64 0,.int .i64 0,.int .i64 0,.nilFunc])),.struct [(0,1),(1,1),(2,1),(3,1),(4,1)]⟩:=by kernel_rfl
@[simp] theorem xQ : ag Try.prog 89=some ⟨2,(some (.agg #[.slice none 0 0,.int .i64 0])),.struct [(0,1),(1,1)]⟩:=by kernel_rfl
@[simp] theorem xR : ag Try.prog 90=some ⟨2,(some (.agg #[.slice none 0 0,.int .i64 0])),.struct [(0,1),(1,1)]⟩:=by kernel_rfl
@[simp] theorem xS : ag Try.prog 92=some ⟨1,(some (.pointer none)),.one⟩:=by kernel_rfl
@[simp] theorem xT : ag Try.prog 94=some ⟨1,(some (.slice none 0 0)),.slice 96 1 8 (some (.map none))⟩:=by kernel_rfl
@[simp] theorem xU : ag Try.prog 96=some ⟨1,(some (.map none)),.one⟩:=by kernel_rfl
@[simp] theorem xV : lM Try.prog 96=some (.i64,2,4):=by kernel_rfl
@[simp] theorem xW : pp Try.prog 4=some (.bool false):=by kernel_rfl
@[simp] theorem xX : ag Try.prog 97=some ⟨2,(some (.agg #[.int .i64 0,.int .i64 0])),.array 2 1⟩:=by kernel_rfl
@[simp] theorem xY : dG Try.prog 97=some (some 2):=by kernel_rfl
@[simp] theorem xZ : ag Try.prog 98=some ⟨1,(some (.slice none 0 0)),.slice 100 1 24 (some (.slice none 0 0))⟩:=by kernel_rfl
@[simp] theorem wb : ag Try.prog 100=some ⟨1,(some (.slice none 0 0)),.slice 4 1 1 (some (.bool false))⟩:=by kernel_rfl
@[simp] theorem wc : ag Try.prog 104=some ⟨1,(some (.slice none 0 0)),.slice 69 3 24 (some (.agg #[.int .i64 0,.int .i64 0,.int .i64 0]))⟩:=by kernel_rfl
@[simp] theorem wd : ag Try.prog 110=some ⟨1,(some (.int .u64 0)),.one⟩:=by kernel_rfl
@[simp] theorem we : aN Try.prog 110=some .u64:=by kernel_rfl
@[simp] theorem wg : ag Try.prog 115=some ⟨1,(some (.int .i64 0)),.one⟩:=by kernel_rfl
@[simp] theorem wh : aN Try.prog 115=some .i64:=by kernel_rfl
@[simp] theorem wi : ag Try.prog 124=some ⟨1,(some (.int .u32 0)),.one⟩:=by kernel_rfl
@[simp] theorem wj : aN Try.prog 124=some .u32:=by kernel_rfl
@[simp] theorem wk : ag Try.prog 126=some ⟨1,(some (.int .u64 0)),.one⟩:=by kernel_rfl
@[simp] theorem wl : aN Try.prog 126=some .u64:=by kernel_rfl
@[simp] theorem wm : ag Try.prog 128=some ⟨1,(some (.int .u64 0)),.one⟩:=by kernel_rfl
@[simp] theorem wn : aN Try.prog 128=some .u64:=by kernel_rfl
@[simp] theorem wo : ag Try.prog 132=some ⟨1,(some (.pointer none)),.one⟩:=by kernel_rfl
@[simp] theorem wq : ag Try.prog 134=some ⟨1,(some (.pointer none)),.one⟩:=by kernel_rfl
@[simp] theorem wt : ag Try.prog 138=some ⟨4,(some (.agg #[.pointer none,.pointer none,.pointer none,.string ByteArray.empty])),.struct [(0,1),(1,1),(2,1),(3,1)]⟩:=by kernel_rfl
@[simp] theorem wu : ag Try.prog 139=some ⟨4,(some (.agg #[.pointer none,.pointer none,.pointer none,.string ByteArray.empty])),.struct [(0,1),(1,1),(2,1),(3,1)]⟩:=by kernel_rfl
@[simp] theorem wv : ag Try.prog 140=some ⟨0,(some (.agg #[])),.array 0 1⟩:=by kernel_rfl
@[simp] theorem ww : dG Try.prog 140=some (some 0):=by kernel_rfl
@[simp] theorem wx : ag Try.prog 141=some ⟨0,(some (.agg #[])),.struct [(0,0)]⟩:=by kernel_rfl
@[simp] theorem wy : ag Try.prog 142=some ⟨0,(some (.agg #[])),.struct [(0,0)]⟩:=by kernel_rfl
@[simp] theorem wz : ag Try.prog 144=some ⟨1,(some (.int .u8 0)),.one⟩:=by kernel_rfl
@[simp] theorem wA : aN Try.prog 144=some .u8:=by kernel_rfl
@[simp] theorem wB : ag Try.prog 145=some ⟨1,(some (.int .u8 0)),.one⟩:=by kernel_rfl
@[simp] theorem wC : aN Try.prog 145=some .u8:=by kernel_rfl
@[simp] theorem wD : ag Try.prog 146=some ⟨1,(some (.nilFunc)),.one⟩:=by kernel_rfl
@[simp] theorem wE : ag Try.prog 147=some ⟨1,(some (.pointer none)),.one⟩:=by kernel_rfl
@[simp] theorem wF : ag Try.prog 148=some ⟨1,(some (.int .i32 0)),.one⟩:=by kernel_rfl
@[simp] theorem wG : aN Try.prog 148=some .i32:=by kernel_rfl
@[simp] theorem wH : ag Try.prog 149=some ⟨1,(some (.int .i32 0)),.one⟩:=by kernel_rfl
@[simp] theorem wI : aN Try.prog 149=some .i32:=by kernel_rfl
@[simp] theorem wJ : ag Try.prog 150=some ⟨11,(some (.agg #[.int .u64 0,.int .u64 0,.int .u32 0,.int .u8 0,.int .u8 0,.int .u8 0,.int .u8 0,.nilFunc,.pointer none,.int .i32 0,.int .i32 0])),.struct [(0,1),(1,1),(2,1),(3,1),(4,1),(5,1),(6,1),(7,1),(8,1),(9,1),(10,1)]⟩:=by kernel_rfl
@[simp] theorem wK : ag Try.prog 151=some ⟨11,(some (.agg #[.int .u64 0,.int .u64 0,.int .u32 0,.int .u8 0,.int .u8 0,.int .u8 0,.int .u8 0,.nilFunc,.pointer none,.int .i32 0,.int .i32 0])),.struct [(0,1),(1,1),(2,1),(3,1),(4,1),(5,1),(6,1),(7,1),(8,1),(9,1),(10,1)]⟩:=by kernel_rfl
@[simp] theorem wL : ag Try.prog 152=some ⟨3,(some (.agg #[.int .i64 0,.int .i64 0,.int .i64 0])),.array 3 1⟩:=by kernel_rfl
@[simp] theorem wM : dG Try.prog 152=some (some 3):=by kernel_rfl
@[simp] theorem wN : ag Try.prog 153=some ⟨3,(some (.agg #[.int .i64 0,.int .i64 0,.int .i64 0])),.array 3 1⟩:=by kernel_rfl
@[simp] theorem wO : dG Try.prog 153=some (some 3):=by kernel_rfl
end Go.Ab
namespace Go.Ab
open Go.Proofs
abbrev I (lo hi : Int) : PV:=.val (.agg #[.int .i64 lo,.int .i64 hi])
abbrev uP (x : Int × Int) : PV:=I x.1 x.2
abbrev B (b : Bool) : PV:=.val (.bool b)
abbrev Z (n : Int) : PV:=.val (.int .i64 n)
abbrev wr (n : Int) : Int:=IntKind.i64.wrap n
def oW (P : Program) (o : Oper) (ρ : Operand→AV) : Option bj:=aM P o ρ
def fG (n k : Int) : Int:=if n.tmod k < 0 then wr (n.tmod k+k) else n.tmod k
theorem uo (n k : Int) (hk : k≠0) : am Try.prog 15 [.pv (Z n),.pv (Z k)] [] [] (.pv (Z (fG n k))):=by
 refine Dp Try.func15 ?_
 intro C hP hN
 simp only [Try.f15] at hN ⊢
 with_reducible repeat' (first|refine Sp.h ?_|((first|refine Ss.h ?_|(refine Sb.h ?_ ?_ ?_<;>(try intro hgd)<;>try exact Xy))<;>simp -implicitDefEqProofs (maxSteps:=2000000) [hP,hN,hk])|refine X2 ?_ ?_|(refine Xd ?_ ?_<;>intro hcd<;>try exact Xx))
 all_goals (first|(simp_all [fG];done)|((try simp_all [fG])<;>(try omega)<;>grind))
@[simp] theorem u6 (a b : Int) : (if b < a then b else a)=min a b:=by split<;>omega
@[simp] theorem u7 (a b : Int) : (if a < b then b else a)=max a b:=by split<;>omega
theorem bP {n : Int} (h1 : -9223372036854775808≤n:=by omega) (h2 : n < 9223372036854775808:=by omega) : wr n=n:=by
 rw [wr,IntKind.wrap_i64];omega
end Go.Ab
namespace Go.Ab
open Go.Proofs
abbrev zs (xs : List Int) : PV:=.sl (xs.map Z)
abbrev iv (xs : List (Int × Int)) : PV:=.sl (xs.map uP)
theorem ak {i n : Nat} (h : i < n) (hn : n≤9223372036854775807) : IntKind.i64.wrap ((i : Int)+1)=(i : Int)+1:=by rw [IntKind.wrap_i64];omega
end Go.Ab
namespace Go.Ab
open Go.Proofs
end Go.Ab
namespace Go.Ab
open Go.Proofs
end Go.Ab
namespace Go.Ab
open Go.Proofs
end Go.Ab
namespace Go.Ab
open Go.Proofs
end Go.Ab
namespace Go.Ab
open Go.Proofs
def nx (l : List Int) (n : Nat) (k : Int) : Int:=match l[n]? with
 |some x=>fG x k
 |none=>0
def nn (l : List Int) (n : Nat) : Nat:=if n < l.length then n+1 else n
abbrev bk (l : List Int) (n : Nat) : List PV:=[zs l,Z n]
theorem td (l : List Int) : am Try.prog 28 [.pv (zs l)] [] [] (.box (bk l 0)):=by
 refine Dp Try.func28 ?_
 intro C hP hN
 simp only [Try.f28] at hN ⊢
 with_reducible repeat' (first|refine Sp.h ?_|((first|refine Ss.h ?_|(refine Sb.h ?_ ?_ ?_<;>(try intro hgd)<;>try exact Xy))<;>simp -implicitDefEqProofs (maxSteps:=2000000) [hP,hN])|refine X2 ?_ ?_|(refine Xd ?_ ?_<;>intro hcd<;>try exact Xx))
 all_goals (first|(simp_all;done)|((try simp_all)<;>(try omega)<;>grind))
theorem cY (l : List Int) (n : Nat) : nn l n≤n+1:=by unfold nn;split<;>omega
theorem gJ (l : List Int) (n : Nat) (k : Int) (hk : k≠0) (hn : n < 1000000) : am Try.prog 29 [.bx 0,.pv (Z k)] [bk l n] [bk l (nn l n)] (.pv (Z (nx l n k))):=by
 have hw : IntKind.i64.wrap ((n : Int)+1)=(n : Int)+1:=by rw [IntKind.wrap_i64];omega
 have hw' : IntKind.i64.wrap (n : Int)=n:=by rw [IntKind.wrap_i64];omega
 refine eH Try.func29 rfl (by kernel_rfl) (by simp [Try.f29]) rfl (by intro i j h;rcases i with _|_|_|i<;>simp_all) ?_
 intro C hP hN
 simp only [Try.f29] at hN ⊢
 by_cases hlt : n < l.length
 ·skip
  with_reducible repeat' (first|refine Sp.h ?_|((first|refine Wd ?_|refine Ss.h ?_|refine Sc.h (uo _ _ hk) ?_|(refine Sb.h ?_ ?_ ?_<;>(try intro hgd)<;>try exact Xy))<;>simp -implicitDefEqProofs (maxSteps:=2000000) [hP,hN,bk,hlt,hw,hw',Nat.not_le.2 hlt]<;>try refine Ya ?_)|refine X2 ?_ ?_|(refine Xd ?_ ?_<;>intro hcd<;>try exact Xx))
  simp [nn,nx,hlt]
 ·skip
  with_reducible repeat' (first|refine Sp.h ?_|((first|refine Wd ?_|refine Ss.h ?_|(refine Sb.h ?_ ?_ ?_<;>(try intro hgd)<;>try exact Xy))<;>simp -implicitDefEqProofs (maxSteps:=2000000) [hP,hN,bk,hlt,Nat.not_lt.1 hlt]<;>try refine Ya ?_)|refine X2 ?_ ?_|(refine Xd ?_ ?_<;>intro hcd<;>try exact Xx))
  simp [nn,nx,hlt]
theorem bq (l : List Int) (n : Nat) {k : Int} (hk : 0 < k) (hk' : k < 4611686018427387904) : 0≤nx l n k∧nx l n k < k:=by
 unfold nx
 split
 ·rename_i x _
  have h1 : -k < x.tmod k:=by have:=Int.lt_tmod_of_pos x hk;omega
  have h2 : x.tmod k < k:=Int.tmod_lt_of_pos x hk
  unfold fG
  split
  ·rw [bP (by omega) (by omega)];omega
  ·omega
 ·omega
section
variable {dst : Option Nat} {ty : TypeId} {pos : String} {aft : Array Edge} {g : Option (Nat × Bool)} {ρ : Operand→AV}
end
end Go.Ab
namespace Go.Ab
open Go.Proofs
structure J where
 name : ByteArray
 kind : Int
 parent : Int
 ox : Int
 oy : Int
 oz : Int
 lo : Int
 hi : Int
 w : Int
 sp : Int
 ac : Int
 tq : Int
end Go.Ab
namespace Go.Ab
open Go.Proofs
abbrev bf : AV:=.pv (.val (.slice none 0 0))
end Go.Ab
namespace Go.Ab
open Go.Proofs
theorem oK (x : Int) {k : Int} (hk : 0 < k) (hk' : k < 4611686018427387904) : 0≤fG x k∧fG x k < k:=by
 have:=bq [x] 0 hk hk'
 simpa [nx] using this
end Go.Ab
namespace Go.Ab
open Go.Proofs
theorem si {P : Program} (d : Nat) (t : TypeId) (a b : Bool) (h : P.underlying t=some .bool) : af P (Op.equalIn (d+1) t (.bool a) (.bool b))=some (a==b):=by
 simp only [Op.equalIn,aa,dO h,Option.bind_some];rfl
def rW (x y : AV) : Option (Bool × Bool):=match x,y with
 |.pv (.val (.bool a)),.pv (.val (.bool b))=>some (a,b)
 |_,_=>none
def rd (x y : AV) (fb : Option bj) : Option bj:=match rW x y with
 |some (a,b)=>some (.pv (.val (.bool (a==b))),[])
 |none=>fb
@[simp] theorem up (a b : Bool) (fb : Option bj) : rd (.pv (.val (.bool a))) (.pv (.val (.bool b))) fb=some (.pv (.val (.bool (a==b))),[]):=rfl
@[simp] theorem ve {dst : Option Nat} {ty : TypeId} {pos : String} {aft : Array Edge} {g : Option (Nat × Bool)} {ρ : Operand→AV} (x y : Operand) :
 aM Try.prog ⟨dst,.binOp .eql 4 x y 4,ty,pos,aft,g⟩ ρ=rd (ρ x) (ρ y) (oW Try.prog ⟨dst,.binOp .eql 4 x y 4,ty,pos,aft,g⟩ ρ):=by
 unfold rd
 split
 ·rename_i a b h
  unfold rW at h
  split at h
  ·rename_i a' b' hx hy
   injection h with h;injection h with h1 h2;subst h1;subst h2
   refine bw (by simp [Op.operands,hx,hy,bN]) ?_
   unfold execOp
   simp only [(aC hx).2,(aC hy).2]
   have h1 : af Try.prog (eqGuard .eql 4 x y (.bool a') (.bool b'))=some ():=by kernel_rfl
   have h2 : af Try.prog (binOp .eql 4 (.bool a') (.bool b'))=some (.bool (a'==b')):=by
    simp only [binOp,aa]
    rw [show af Try.prog (Op.equal 4 (.bool a') (.bool b'))=some (a'==b') from si 9999 4 a' b' Try.underlying4]
    rfl
   simp only [aa,h1,h2,Option.bind_some];rfl
  ·cases h
 ·rfl
end Go.Ab
