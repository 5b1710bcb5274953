/- The contracts and facts that the laws of this seat need, in one text (Ty, CfA). -/
import Derived.Test.YtkpmahdfgfeknaaW3
import Derived.Test.YtkpmahdfgfeknaaProg
set_option linter.all false
namespace Go.Ab
open Go.Proofs
@[simp] theorem AS : ag Try.prog 2=some ⟨1,(some (.int .i64 0)),.one⟩:=by kernel_rfl
@[simp] theorem AT : aN Try.prog 2=some .i64:=by kernel_rfl
@[simp] theorem AU : ag Try.prog 3=some ⟨1,(some (.int .i64 0)),.one⟩:=by kernel_rfl
@[simp] theorem AW : aN Try.prog 3=some .i64:=by kernel_rfl
@[simp] theorem ya : ag Try.prog 4=some ⟨1,(some (.bool false)),.one⟩:=by kernel_rfl
@[simp] theorem yb : ag Try.prog 5=some ⟨1,(some (.int .u8 0)),.one⟩:=by kernel_rfl
@[simp] theorem yc : aN Try.prog 5=some .u8:=by kernel_rfl
@[simp] theorem yd : ag Try.prog 6=some ⟨1,(some (.int .u8 0)),.one⟩:=by kernel_rfl
@[simp] theorem ye : aN Try.prog 6=some .u8:=by kernel_rfl
@[simp] theorem yf : ag Try.prog 7=some ⟨4,(some (.agg #[.int .i64 0,.int .i64 0,.bool false,.int .u8 0])),.struct [(0,1),(1,1),(2,1),(3,1)]⟩:=by kernel_rfl
@[simp] theorem yg : ag Try.prog 8=some ⟨4,(some (.agg #[.int .i64 0,.int .i64 0,.bool false,.int .u8 0])),.struct [(0,1),(1,1),(2,1),(3,1)]⟩:=by kernel_rfl
@[simp] theorem yh : ag Try.prog 9=some ⟨1,(some (.string ByteArray.empty)),.one⟩:=by kernel_rfl
@[simp] theorem yi : dG Try.prog 9=some none:=by kernel_rfl
@[simp] theorem wP : ag Try.prog 10=some ⟨1,(some (.string ByteArray.empty)),.one⟩:=by kernel_rfl
@[simp] theorem wQ : dG Try.prog 10=some none:=by kernel_rfl
@[simp] theorem wR : ag Try.prog 11=some ⟨1,(some (.string ByteArray.empty)),.one⟩:=by kernel_rfl
@[simp] theorem wS : dG Try.prog 11=some none:=by kernel_rfl
@[simp] theorem wT : ag Try.prog 12=some ⟨1,(some (.int .u64 0)),.one⟩:=by kernel_rfl
@[simp] theorem AB : aN Try.prog 12=some .u64:=by kernel_rfl
@[simp] theorem wV : ag Try.prog 13=some ⟨2,(some (.agg #[.string ByteArray.empty,.int .u64 0])),.struct [(0,1),(1,1)]⟩:=by kernel_rfl
@[simp] theorem wW : ag Try.prog 14=some ⟨2,(some (.agg #[.string ByteArray.empty,.int .u64 0])),.struct [(0,1),(1,1)]⟩:=by kernel_rfl
@[simp] theorem wX : ag Try.prog 15=some ⟨1,(some (.pointer none)),.one⟩:=by kernel_rfl
@[simp] theorem wY : ag Try.prog 16=some ⟨1,(some (.pointer none)),.one⟩:=by kernel_rfl
@[simp] theorem wZ : ag Try.prog 17=some ⟨1,(some (.pointer none)),.one⟩:=by kernel_rfl
@[simp] theorem AC : ag Try.prog 18=some ⟨1,(some (.agg #[.pointer none])),.struct [(0,1)]⟩:=by kernel_rfl
@[simp] theorem xb : ag Try.prog 19=some ⟨1,(some (.agg #[.pointer none])),.struct [(0,1)]⟩:=by kernel_rfl
@[simp] theorem xc : ag Try.prog 21=some ⟨1,(some (.int .i32 0)),.one⟩:=by kernel_rfl
@[simp] theorem xd : aN Try.prog 21=some .i32:=by kernel_rfl
@[simp] theorem xe : ag Try.prog 22=some ⟨1,(some (.slice none 0 0)),.slice 3 1 8 (some (.int .i64 0))⟩:=by kernel_rfl
@[simp] theorem xf : ag Try.prog 23=some ⟨1,(some (.slice none 0 0)),.slice 52 2 16 (some (.agg #[.int .i64 0,.int .i64 0]))⟩:=by kernel_rfl
@[simp] theorem xg : ag Try.prog 24=some ⟨1,(some (.slice none 0 0)),.slice 42 8 112 (some (.agg #[.int .i64 0,.int .i64 0,.int .i64 0,.int .i64 0,.slice none 0 0,.int .i64 0,.slice none 0 0,.slice none 0 0]))⟩:=by kernel_rfl
@[simp] theorem AD : ag Try.prog 25=some ⟨2,(some (.agg #[.slice none 0 0,.slice none 0 0])),.struct [(0,1),(1,1)]⟩:=by kernel_rfl
@[simp] theorem xi : ag Try.prog 26=some ⟨2,(some (.agg #[.slice none 0 0,.slice none 0 0])),.struct [(0,1),(1,1)]⟩:=by kernel_rfl
@[simp] theorem AE : ag Try.prog 28=some ⟨1,(some (.slice none 0 0)),.slice 2 1 8 (some (.int .i64 0))⟩:=by kernel_rfl
@[simp] theorem AF : ag Try.prog 36=some ⟨1,(some (.slice none 0 0)),.slice 105 3 24 (some (.agg #[.int .i64 0,.int .i64 0,.int .i64 0]))⟩:=by kernel_rfl
@[simp] theorem AG : ag Try.prog 37=some ⟨3,(some (.agg #[.int .i64 0,.slice none 0 0,.slice none 0 0])),.struct [(0,1),(1,1),(2,1)]⟩:=by kernel_rfl
@[simp] theorem AH : ag Try.prog 38=some ⟨3,(some (.agg #[.int .i64 0,.slice none 0 0,.slice none 0 0])),.struct [(0,1),(1,1),(2,1)]⟩:=by kernel_rfl
@[simp] theorem AI : ag Try.prog 39=some ⟨5,(some (.agg #[.int .i64 0,.slice none 0 0,.int .i64 0,.slice none 0 0,.slice none 0 0])),.struct [(0,1),(1,1),(2,3)]⟩:=by kernel_rfl
@[simp] theorem AJ : ag Try.prog 40=some ⟨5,(some (.agg #[.int .i64 0,.slice none 0 0,.int .i64 0,.slice none 0 0,.slice none 0 0])),.struct [(0,1),(1,1),(2,3)]⟩:=by kernel_rfl
@[simp] theorem AK : ag Try.prog 41=some ⟨8,(some (.agg #[.int .i64 0,.int .i64 0,.int .i64 0,.int .i64 0,.slice none 0 0,.int .i64 0,.slice none 0 0,.slice none 0 0])),.struct [(0,1),(1,1),(2,1),(3,5)]⟩:=by kernel_rfl
@[simp] theorem AL : ag Try.prog 42=some ⟨8,(some (.agg #[.int .i64 0,.int .i64 0,.int .i64 0,.int .i64 0,.slice none 0 0,.int .i64 0,.slice none 0 0,.slice none 0 0])),.struct [(0,1),(1,1),(2,1),(3,5)]⟩:=by kernel_rfl
@[simp] theorem AM : ag Try.prog 44=some ⟨1,(some (.pointer none)),.one⟩:=by kernel_rfl
@[simp] theorem AN : ag Try.prog 51=some ⟨2,(some (.agg #[.int .i64 0,.int .i64 0])),.struct [(0,1),(1,1)]⟩:=by kernel_rfl
@[simp] theorem AO : ag Try.prog 52=some ⟨2,(some (.agg #[.int .i64 0,.int .i64 0])),.struct [(0,1),(1,1)]⟩:=by kernel_rfl
@[simp] theorem AP : ag Try.prog 55=some ⟨1,(some (.slice none 0 0)),.slice 23 1 24 (some (.slice none 0 0))⟩:=by kernel_rfl
@[simp] theorem xq : ag Try.prog 56=some ⟨1,(some (.slice none 0 0)),.slice 4 1 1 (some (.bool false))⟩:=by kernel_rfl
@[simp] theorem xr : ag Try.prog 57=some ⟨2,(some (.agg #[.slice none 0 0,.slice none 0 0])),.struct [(0,1),(1,1)]⟩:=by kernel_rfl
@[simp] theorem xu : ag Try.prog 58=some ⟨2,(some (.agg #[.slice none 0 0,.slice none 0 0])),.struct [(0,1),(1,1)]⟩:=by kernel_rfl
@[simp] theorem xE : ag Try.prog 67=some ⟨4,(some (.agg #[.int .i64 0,.int .i64 0,.int .i64 0,.int .i64 0])),.struct [(0,1),(1,1),(2,1),(3,1)]⟩:=by kernel_rfl
@[simp] theorem xF : ag Try.prog 68=some ⟨4,(some (.agg #[.int .i64 0,.int .i64 0,.int .i64 0,.int .i64 0])),.struct [(0,1),(1,1),(2,1),(3,1)]⟩:=by kernel_rfl
@[simp] theorem xI : ag Try.prog 71=some ⟨1,(some (.slice none 0 0)),.slice 28 1 24 (some (.slice none 0 0))⟩:=by kernel_rfl
@[simp] theorem AQ : ag Try.prog 75=some ⟨2,(some (.agg #[.slice none 0 0,.int .i64 0])),.struct [(0,1),(1,1)]⟩:=by kernel_rfl
@[simp] theorem AR : ag Try.prog 76=some ⟨2,(some (.agg #[.slice none 0 0,.int .i64 0])),.struct [(0,1),(1,1)]⟩:=by kernel_rfl
@[simp] theorem xX : ag Try.prog 97=some ⟨2,(some (.agg #[.int .i64 0,.int .i64 0])),.struct [(0,1),(1,1)]⟩:=by kernel_rfl
@[simp] theorem xZ : ag Try.prog 98=some ⟨2,(some (.agg #[.int .i64 0,.int .i64 0])),.struct [(0,1),(1,1)]⟩:=by kernel_rfl
@[simp] theorem wc : ag Try.prog 104=some ⟨3,(some (.agg #[.int .i64 0,.int .i64 0,.int .i64 0])),.array 3 1⟩:=by kernel_rfl
@[simp] theorem Ae : dG Try.prog 104=some (some 3):=by kernel_rfl
@[simp] theorem Af : ag Try.prog 105=some ⟨3,(some (.agg #[.int .i64 0,.int .i64 0,.int .i64 0])),.array 3 1⟩:=by kernel_rfl
@[simp] theorem Ag : dG Try.prog 105=some (some 3):=by kernel_rfl
@[simp] theorem Ah : ag Try.prog 114=some ⟨1,(some (.int .u64 0)),.one⟩:=by kernel_rfl
@[simp] theorem Ai : aN Try.prog 114=some .u64:=by kernel_rfl
@[simp] theorem Aj : ag Try.prog 120=some ⟨1,(some (.int .u64 0)),.one⟩:=by kernel_rfl
@[simp] theorem Ak : aN Try.prog 120=some .u64:=by kernel_rfl
@[simp] theorem Al : ag Try.prog 125=some ⟨4,(some (.agg #[.pointer none,.pointer none,.pointer none,.string ByteArray.empty])),.struct [(0,1),(1,1),(2,1),(3,1)]⟩:=by kernel_rfl
@[simp] theorem wk : ag Try.prog 126=some ⟨4,(some (.agg #[.pointer none,.pointer none,.pointer none,.string ByteArray.empty])),.struct [(0,1),(1,1),(2,1),(3,1)]⟩:=by kernel_rfl
@[simp] theorem Am : ag Try.prog 127=some ⟨0,(some (.agg #[])),.array 0 1⟩:=by kernel_rfl
@[simp] theorem Ao : dG Try.prog 127=some (some 0):=by kernel_rfl
@[simp] theorem wm : ag Try.prog 128=some ⟨0,(some (.agg #[])),.struct [(0,0)]⟩:=by kernel_rfl
@[simp] theorem Ap : ag Try.prog 129=some ⟨0,(some (.agg #[])),.struct [(0,0)]⟩:=by kernel_rfl
@[simp] theorem Aq : ag Try.prog 131=some ⟨1,(some (.int .u32 0)),.one⟩:=by kernel_rfl
@[simp] theorem Ar : aN Try.prog 131=some .u32:=by kernel_rfl
@[simp] theorem wo : ag Try.prog 132=some ⟨1,(some (.int .u8 0)),.one⟩:=by kernel_rfl
@[simp] theorem As : aN Try.prog 132=some .u8:=by kernel_rfl
@[simp] theorem At : ag Try.prog 133=some ⟨1,(some (.int .u8 0)),.one⟩:=by kernel_rfl
@[simp] theorem Au : aN Try.prog 133=some .u8:=by kernel_rfl
@[simp] theorem wq : ag Try.prog 134=some ⟨1,(some (.nilFunc)),.one⟩:=by kernel_rfl
@[simp] theorem Av : ag Try.prog 135=some ⟨1,(some (.pointer none)),.one⟩:=by kernel_rfl
@[simp] theorem Aw : ag Try.prog 136=some ⟨1,(some (.int .i32 0)),.one⟩:=by kernel_rfl
@[simp] theorem Ax : aN Try.prog 136=some .i32:=by kernel_rfl
@[simp] theorem Ay : ag Try.prog 137=some ⟨1,(some (.int .i32 0)),.one⟩:=by kernel_rfl
@[simp] theorem Az : aN Try.prog 137=some .i32:=by kernel_rfl
@[simp] theorem wt : ag Try.prog 138=some ⟨11,(some (.agg #[.int .u64 0,.int .u64 0,.int .u32 0,.int .u8 0,.int .u8 0,.int .u8 0,.int .u8 0,.nilFunc,.pointer none,.int .i32 0,.int .i32 0])),.struct [(0,1),(1,1),(2,1),(3,1),(4,1),(5,1),(6,1),(7,1),(8,1),(9,1),(10,1)]⟩:=by kernel_rfl
@[simp] theorem wu : ag Try.prog 139=some ⟨11,(some (.agg #[.int .u64 0,.int .u64 0,.int .u32 0,.int .u8 0,.int .u8 0,.int .u8 0,.int .u8 0,.nilFunc,.pointer none,.int .i32 0,.int .i32 0])),.struct [(0,1),(1,1),(2,1),(3,1),(4,1),(5,1),(6,1),(7,1),(8,1),(9,1),(10,1)]⟩:=by kernel_rfl
end Go.Ab
namespace Go.Ab
open Go.Proofs
abbrev I (lo hi : Int) : PV:=.val (.agg #[.int .i64 lo,.int .i64 hi])
abbrev uP (x : Int × Int) : PV:=I x.1 x.2
abbrev B (b : Bool) : PV:=.val (.bool b)
abbrev Z (n : Int) : PV:=.val (.int .i64 n)
abbrev wr (n : Int) : Int:=IntKind.i64.wrap n
def aW (lo hi : Int) : Bool:=decide (-2147483648≤lo) && decide (lo≤hi) && decide (hi≤2147483648)
theorem zA (a b c d : Int) : af Try.prog (Op.equal 52 (.agg #[.int .i64 a,.int .i64 b]) (.agg #[.int .i64 c,.int .i64 d]))=some (a==c && b==d):=by
 have hf : (Try.prog.fieldsOf 52).toList=[(Try.prog.fieldsOf 52)[0]!,(Try.prog.fieldsOf 52)[1]!]:=by kernel_rfl
 show af Try.prog (Op.equalIn (9999+1) 52 _ _)=_
 rw [qt 9999 52 _ _ (by kernel_rfl) (by kernel_rfl),hf]
 have h:=l9 (P:=Try.prog) (d:=9999) (xs:=#[.int .i64 a,.int .i64 b]) (ys:=#[.int .i64 c,.int .i64 d]) (f:=(Try.prog.fieldsOf 52)[0]!) (fs:=[(Try.prog.fieldsOf 52)[1]!]) (a:=.int .i64 a) (b:=.int .i64 c) (by decide +kernel) (by kernel_rfl) (by kernel_rfl) (nQ 9998 _ .i64 .i64 a c (by kernel_rfl))
  (l9 (by decide +kernel) (a:=.int .i64 b) (b:=.int .i64 d) (by kernel_rfl) (by kernel_rfl) (nQ 9998 _ .i64 .i64 b d (by kernel_rfl)) tc)
 rw [h];simp
def oW (P : Program) (o : Oper) (ρ : Operand→AV) : Option bj:=aM P o ρ
def qz (x : AV) : Option (Int × Int):=match x with
 |.pv (.val (.agg vs))=>match vs.toList with
  |[.int .i64 a,.int .i64 b]=>some (a,b)
  |_=>none
 |_=>none
theorem nW {x : AV} {a b : Int} (h : qz x=some (a,b)) : x=.pv (I a b):=by
 unfold qz at h
 split at h
 ·split at h
  ·rename_i vs _ a' b' hv
   injection h with h;injection h with h1 h2;subst h1;subst h2
   rw [← Array.toArray_toList (xs:=vs),hv]
  ·cases h
 ·cases h
def uO (x y : AV) (fb : Option bj) : Option bj:=match qz x,qz y with
 |some (a,b),some (c,d)=>some (.pv (.val (.bool !(a==c && b==d))),[])
 |_,_=>fb
@[simp] theorem yF (a b c d : Int) (fb : Option bj) : uO (.pv (.val (.agg #[.int .i64 a,.int .i64 b]))) (.pv (.val (.agg #[.int .i64 c,.int .i64 d]))) fb=some (.pv (.val (.bool !(a==c && b==d))),[]):=rfl
@[simp] theorem AA {dst : Option Nat} {ty : TypeId} {pos : String} {aft : Array Edge} {g : Option (Nat × Bool)} {ρ : Operand→AV} (x y : Operand) :
 aM Try.prog ⟨dst,.binOp .neq 52 x y 52,ty,pos,aft,g⟩ ρ=uO (ρ x) (ρ y) (oW Try.prog ⟨dst,.binOp .neq 52 x y 52,ty,pos,aft,g⟩ ρ):=by
 unfold uO
 split
 ·rename_i a b c d hx hy
  exact nV rfl (nW hx) (nW hy) (by kernel_rfl) (zA a b c d)
 ·rfl
theorem rL (lo hi : Int) : am Try.prog 78 [.pv (I lo hi)] [] [] (.pv (B (aW lo hi))):=by
 refine Dp Try.func78 ?_
 intro C hP hN
 simp only [Try.f78] at hN ⊢
 with_reducible repeat' (first|refine Sp.h ?_|((first|refine Ss.h ?_|(refine Sb.h ?_ ?_ ?_<;>(try intro hgd)<;>try exact Xy))<;>simp -implicitDefEqProofs (maxSteps:=2000000) [hP,hN])|refine X2 ?_ ?_|(refine Xd ?_ ?_<;>intro hcd<;>try exact Xx))
 all_goals (first|(simp_all [aW];done)|((try simp_all [aW])<;>(try omega)<;>grind))
theorem qI (lo hi : Int) : am Try.prog 51 [.pv (I lo hi)] [] [] (.pv (B (aW lo hi))):=by
 refine Dp Try.func51 ?_
 intro C hP hN
 simp only [Try.f51] at hN ⊢
 with_reducible repeat' (first|refine Sp.h ?_|((first|refine Ss.h ?_|(refine Sb.h ?_ ?_ ?_<;>(try intro hgd)<;>try exact Xy))<;>simp -implicitDefEqProofs (maxSteps:=2000000) [hP,hN])|refine X2 ?_ ?_|(refine Xd ?_ ?_<;>intro hcd<;>try exact Xx))
 all_goals (first|(simp_all [aW];done)|((try simp_all [aW])<;>(try omega)<;>grind))
theorem zB (a b c d : Int) : am Try.prog 89 [.pv (I a b),.pv (I c d)] [] [] (.pv (B (aW a b && aW c d))):=by
 refine Dp Try.func89 ?_
 intro C hP hN
 simp only [Try.f89] at hN ⊢
 with_reducible repeat' (first|refine Sp.h ?_|((first|refine Ss.h ?_|refine Sc.h (rL _ _) ?_|(refine Sb.h ?_ ?_ ?_<;>(try intro hgd)<;>try exact Xy))<;>simp -implicitDefEqProofs (maxSteps:=2000000) [hP,hN])|refine X2 ?_ ?_|(refine Xd ?_ ?_<;>intro hcd<;>try exact Xx))
 all_goals (first|(simp_all;done)|((try simp_all)<;>(try omega)<;>grind))
def fG (n k : Int) : Int:=if n.tmod k < 0 then wr (n.tmod k+k) else n.tmod k
theorem tL (n k : Int) (hk : k≠0) : am Try.prog 11 [.pv (Z n),.pv (Z k)] [] [] (.pv (Z (fG n k))):=by
 refine Dp Try.func11 ?_
 intro C hP hN
 simp only [Try.f11] at hN ⊢
 with_reducible repeat' (first|refine Sp.h ?_|((first|refine Ss.h ?_|(refine Sb.h ?_ ?_ ?_<;>(try intro hgd)<;>try exact Xy))<;>simp -implicitDefEqProofs (maxSteps:=2000000) [hP,hN,hk])|refine X2 ?_ ?_|(refine Xd ?_ ?_<;>intro hcd<;>try exact Xx))
 all_goals (first|(simp_all [fG];done)|((try simp_all [fG])<;>(try omega)<;>grind))
@[simp] theorem u6 (a b : Int) : (if b < a then b else a)=min a b:=by split<;>omega
@[simp] theorem u7 (a b : Int) : (if a < b then b else a)=max a b:=by split<;>omega
theorem bP {n : Int} (h1 : -9223372036854775808≤n:=by omega) (h2 : n < 9223372036854775808:=by omega) : wr n=n:=by
 rw [wr,IntKind.wrap_i64];omega
theorem yu {k : Int} (hk : k < 64) : min k.toNat 64=k.toNat:=by omega
theorem xP : IntKind.i64.bits=64:=rfl
theorem zC (a k : Int) (h : 0≤k) (hk : k < 64) : am Try.prog 88 [.pv (Z a),.pv (Z k)] [] [] (.pv (Z (a.fdiv (2 ^ k.toNat)))):=by
 refine Dp Try.func88 ?_
 intro C hP hN
 simp only [Try.f88] at hN ⊢
 with_reducible repeat' (first|refine Sp.h ?_|((first|refine Ss.h ?_|(refine Sb.h ?_ ?_ ?_<;>(try intro hgd)<;>try exact Xy))<;>simp -implicitDefEqProofs (maxSteps:=2000000) [hP,hN,h,xP,yu hk])|refine X2 ?_ ?_|(refine Xd ?_ ?_<;>intro hcd<;>try exact Xx))
 all_goals (first|(simp_all;done)|((try simp_all)<;>(try omega)<;>grind))
theorem yM (a b : Int) : am Try.prog 80 [.pv (I a b)] [] [] (.pv (Z (if aW a b then wr (b - a) else 0))):=by
 refine Dp Try.func80 ?_
 intro C hP hN
 simp only [Try.f80] at hN ⊢
 with_reducible repeat' (first|refine Sp.h ?_|((first|refine Ss.h ?_|refine Sc.h (rL _ _) ?_|(refine Sb.h ?_ ?_ ?_<;>(try intro hgd)<;>try exact Xy))<;>simp -implicitDefEqProofs (maxSteps:=2000000) [hP,hN])|refine X2 ?_ ?_|(refine Xd ?_ ?_<;>intro hcd<;>try exact Xx))
 all_goals (first|(simp_all;done)|((try simp_all)<;>(try omega)<;>grind))
theorem zD (a b : Int) : am Try.prog 81 [.pv (I a b)] [] [] (.pv (Z (if aW a b then (wr (a+b)).fdiv 2 else 0))):=by
 refine Dp Try.func81 ?_
 intro C hP hN
 simp only [Try.f81] at hN ⊢
 with_reducible repeat' (first|refine Sp.h ?_|((first|refine Ss.h ?_|refine Sc.h (rL _ _) ?_|refine Sc.h (zC _ _ (by decide) (by decide)) ?_|(refine Sb.h ?_ ?_ ?_<;>(try intro hgd)<;>try exact Xy))<;>simp -implicitDefEqProofs (maxSteps:=2000000) [hP,hN])|refine X2 ?_ ?_|(refine Xd ?_ ?_<;>intro hcd<;>try exact Xx))
 all_goals (first|(simp_all;done)|((try simp_all)<;>(try omega)<;>grind))
theorem vw (a b x : Int) : am Try.prog 65 [.pv (I a b),.pv (Z x)] [] [] (.pv (B (aW a b && decide (a≤x) && decide (x≤b)))):=by
 refine Dp Try.func65 ?_
 intro C hP hN
 simp only [Try.f65] at hN ⊢
 with_reducible repeat' (first|refine Sp.h ?_|((first|refine Ss.h ?_|refine Sc.h (rL _ _) ?_|(refine Sb.h ?_ ?_ ?_<;>(try intro hgd)<;>try exact Xy))<;>simp -implicitDefEqProofs (maxSteps:=2000000) [hP,hN])|refine X2 ?_ ?_|(refine Xd ?_ ?_<;>intro hcd<;>try exact Xx))
 all_goals (first|(simp_all;done)|((try simp_all)<;>(try omega)<;>grind))
theorem yY (a b x : Int) : am Try.prog 50 [.pv (I a b),.pv (Z x)] [] [] (.pv (B (aW a b && decide (a≤x) && decide (x≤b)))):=by
 refine Dp Try.func50 ?_
 intro C hP hN
 simp only [Try.f50] at hN ⊢
 with_reducible repeat' (first|refine Sp.h ?_|((first|refine Ss.h ?_|refine Sc.h (qI _ _) ?_|(refine Sb.h ?_ ?_ ?_<;>(try intro hgd)<;>try exact Xy))<;>simp -implicitDefEqProofs (maxSteps:=2000000) [hP,hN])|refine X2 ?_ ?_|(refine Xd ?_ ?_<;>intro hcd<;>try exact Xx))
 all_goals (first|(simp_all;done)|((try simp_all)<;>(try omega)<;>grind))
theorem yN (a b c d : Int) : am Try.prog 84 [.pv (I a b),.pv (I c d)] [] [] (.pv (.tup (if aW a b && aW c d && decide (max a c≤min b d) then [I (max a c) (min b d),B true] else [I 0 0,B false]))):=by
 refine Dp Try.func84 ?_
 intro C hP hN
 simp only [Try.f84] at hN ⊢
 with_reducible repeat' (first|refine Sp.h ?_|((first|refine Ss.h ?_|refine Sc.h (zB _ _ _ _) ?_|(refine Sb.h ?_ ?_ ?_<;>(try intro hgd)<;>try exact Xy))<;>simp -implicitDefEqProofs (maxSteps:=2000000) [hP,hN])|refine X2 ?_ ?_|(refine Xd ?_ ?_<;>intro hcd<;>try exact Xx))
 all_goals (first|(simp_all;done)|((try simp_all)<;>(try omega)<;>grind))
theorem vN (a b c d : Int) : am Try.prog 70 [.pv (I a b),.pv (I c d)] [] [] (.pv (.tup (if aW a b && aW c d && decide (max a c≤min b d) then [I (max a c) (min b d),B true] else [I 0 0,B false]))):=by
 refine Dp Try.func70 ?_
 intro C hP hN
 simp only [Try.f70] at hN ⊢
 with_reducible repeat' (first|refine Sp.h ?_|((first|refine Ss.h ?_|refine Sc.h (qI _ _) ?_|(refine Sb.h ?_ ?_ ?_<;>(try intro hgd)<;>try exact Xy))<;>simp -implicitDefEqProofs (maxSteps:=2000000) [hP,hN])|refine X2 ?_ ?_|(refine Xd ?_ ?_<;>intro hcd<;>try exact Xx))
 all_goals (first|(simp_all;done)|((try simp_all)<;>(try omega)<;>grind))
end Go.Ab
namespace Go.Ab
open Go.Proofs
abbrev zs (xs : List Int) : PV:=.sl (xs.map Z)
abbrev iv (xs : List (Int × Int)) : PV:=.sl (xs.map uP)
abbrev Fv (f : FuncId) : PV:=.val (.func (.func f) #[] #[])
theorem kz {n : Nat} (h : n≤16777216) : n≤9223372036854775807:=by omega
theorem ak {i n : Nat} (h : i < n) (hn : n≤9223372036854775807) : IntKind.i64.wrap ((i : Int)+1)=(i : Int)+1:=by rw [IntKind.wrap_i64];omega
def mW {α : Type} (p : α→Bool) (xs : List α) : Int:=match xs.findIdx? p with
 |some i=>i
 |none=>-1
theorem sD {α : Type} {p : α→Bool} {xs : List α} {i : Nat} (hlt : i < xs.length) (hq : ∀ j x,j < i→xs[j]?=some x→p x=false) (hp : p xs[i]=true) : mW p xs=i:=by
 have : xs.findIdx? p=some i:=by
  rw [List.findIdx?_eq_some_iff_getElem]
  refine ⟨hlt,hp,fun j hj=>?_⟩
  have hjl : j < xs.length:=by omega
  rw [hq j xs[j] hj (List.getElem?_eq_getElem hjl)];simp
 simp [mW,this]
theorem sT {α : Type} {p : α→Bool} {xs : List α} (hq : ∀ (j : Nat) x,xs[j]?=some x→p x=false) : mW p xs=-1:=by
 have : xs.findIdx? p=none:=by
  rw [List.findIdx?_eq_none_iff]
  intro x hx
  obtain ⟨j,hj,rfl⟩:=List.mem_iff_getElem.1 hx
  exact hq j _ (List.getElem?_eq_getElem hj)
 simp [mW,this]
theorem qJ {α : Type} (p : α→Bool) (xs : List α) : decide (0≤mW p xs)=xs.any p:=by
 unfold mW
 cases h : xs.findIdx? p with
 |none=>
  rw [List.findIdx?_eq_none_iff] at h
  have : xs.any p=false:=by
   rw [List.any_eq_false];intro x hx;rw [h x hx];simp
  simp [this]
 |some i=>
  rw [List.findIdx?_eq_some_iff_getElem] at h
  obtain ⟨hl,hp,_⟩:=h
  have : xs.any p=true:=List.any_eq_true.2 ⟨xs[i],List.getElem_mem hl,hp⟩
  simp [this]
theorem sU {α : Type} {p : α→Bool} {xs : List α} {i : Nat} (hlt : i < xs.length) (hq : ∀ j x,j < i→xs[j]?=some x→p x=false) (hp : p xs[i]=false) : ∀ j x,j < i+1→xs[j]?=some x→p x=false:=by
 intro j x hj hx
 by_cases e : j=i
 ·subst e;rw [List.getElem?_eq_getElem hlt] at hx;injection hx with hx;subst hx;exact hp
 ·exact hq j x (by omega) hx
theorem uQ {α : Type} {p : α→Bool} {xs : List α} {i : Nat} (hlt : ¬ i < xs.length) (hq : ∀ j x,j < i→xs[j]?=some x→p x=false) : ∀ (j : Nat) x,xs[j]?=some x→p x=false:=by
 intro j x hx
 have:=(List.getElem?_eq_some_iff.1 hx).1
 exact hq j x (by omega) hx
theorem zE (f : FuncId) (p : Int × Int→Bool) (xs : List (Int × Int)) (hl : xs.length≤9223372036854775807) (hf : ∀ x,am Try.prog f [.pv (uP x)] [] [] (.pv (B (p x)))) : am Try.prog 90 [.pv (iv xs),.pv (Fv f)] [] [] (.pv (Z (mW p xs))):=by
 refine Dp Try.func90 ?_
 intro C hP hN
 simp only [Try.f90] at hN ⊢
 with_reducible repeat' (first|refine Sp.h ?_|((first|refine Ss.h ?_|(refine Sb.h ?_ ?_ ?_<;>(try intro hgd)<;>try exact Xy))<;>simp -implicitDefEqProofs (maxSteps:=2000000) [hP,hN])|refine X2 ?_ ?_|(refine Xd ?_ ?_<;>intro hcd<;>try exact Xx))
 refine WP.loopN [] xs.length (fun i st=>st.t 0=.pv (iv xs)∧st.t 1=.pv (Fv f)∧st.t 7=.pv (Z xs.length)∧st.t 8=.pv (Z i)∧∀ j x,j < i→xs[j]?=some x→p x=false) (by simp) ?_
 rintro i st hi ⟨h0,h1,h7,h8,hq⟩
 by_cases hlt : i < xs.length
 ·have hw:=ak hlt hl
  with_reducible repeat' (first|refine Sp.h ?_|((first|refine Ss.h ?_|refine Sc.h (hf _) ?_|(refine Sb.h ?_ ?_ ?_<;>(try intro hgd)<;>try exact Xy))<;>simp -implicitDefEqProofs (maxSteps:=2000000) [hP,hN,h0,h1,h7,h8,hlt,hw])|refine X2 ?_ ?_|(refine Xd ?_ ?_<;>intro hcd<;>try exact Xx))
  ·exact (sD hlt hq hcd).symm
  ·simpa using sU hlt hq hcd
 ·skip
  with_reducible repeat' (first|refine Sp.h ?_|((first|refine Ss.h ?_|(refine Sb.h ?_ ?_ ?_<;>(try intro hgd)<;>try exact Xy))<;>simp -implicitDefEqProofs (maxSteps:=2000000) [hP,hN,h0,h1,h7,h8,hlt])|refine X2 ?_ ?_|(refine Xd ?_ ?_<;>intro hcd<;>try exact Xx))
  exact (sT (uQ hlt hq)).symm
theorem zF (f : FuncId) (p : Int × Int→Bool) (xs : List (Int × Int)) (hl : xs.length≤9223372036854775807) (hf : ∀ x,am Try.prog f [.pv (uP x)] [] [] (.pv (B (p x)))) : am Try.prog 86 [.pv (iv xs),.pv (Fv f)] [] [] (.pv (B (xs.any p))):=by
 refine Dp Try.func86 ?_
 intro C hP hN
 simp only [Try.f86] at hN ⊢
 with_reducible repeat' (first|refine Sp.h ?_|((first|refine Ss.h ?_|refine Sc.h (zE _ _ _ hl hf) ?_|(refine Sb.h ?_ ?_ ?_<;>(try intro hgd)<;>try exact Xy))<;>simp -implicitDefEqProofs (maxSteps:=2000000) [hP,hN])|refine X2 ?_ ?_|(refine Xd ?_ ?_<;>intro hcd<;>try exact Xx))
 all_goals (first|(simp_all [qJ];done)|((try simp_all [qJ])<;>(try omega)<;>grind))
def aU {α : Type} (p : α→Bool) (xs : List α) : Bool:=xs.all p
theorem wK {α : Type} (p : α→Bool) (xs : List α) : (xs.any fun x=>!p x)=!aU p xs:=by simp [aU,List.any_eq_not_all_not]
abbrev vI (x : Int × Int) : Bool:=aW x.1 x.2
theorem zG (x : Int × Int) : am Try.prog 87 [.pv (uP x)] [] [] (.pv (B (!aW x.1 x.2))):=by
 refine Dp Try.func87 ?_
 intro C hP hN
 simp only [Try.f87] at hN ⊢
 with_reducible repeat' (first|refine Sp.h ?_|((first|refine Ss.h ?_|refine Sc.h (rL _ _) ?_|(refine Sb.h ?_ ?_ ?_<;>(try intro hgd)<;>try exact Xy))<;>simp -implicitDefEqProofs (maxSteps:=2000000) [hP,hN])|refine X2 ?_ ?_|(refine Xd ?_ ?_<;>intro hcd<;>try exact Xx))
 all_goals (first|(simp_all;done)|((try simp_all)<;>(try omega)<;>grind))
theorem sV (xs : List (Int × Int)) (hl : xs.length≤9223372036854775807) : am Try.prog 79 [.pv (iv xs)] [] [] (.pv (B (aU vI xs))):=by
 refine Dp Try.func79 ?_
 intro C hP hN
 simp only [Try.f79] at hN ⊢
 with_reducible repeat' (first|refine Sp.h ?_|((first|refine Ss.h ?_|refine Sc.h (zF _ _ _ hl zG) ?_|(refine Sb.h ?_ ?_ ?_<;>(try intro hgd)<;>try exact Xy))<;>simp -implicitDefEqProofs (maxSteps:=2000000) [hP,hN,wK vI xs])|refine X2 ?_ ?_|(refine Xd ?_ ?_<;>intro hcd<;>try exact Xx))
 all_goals (first|(simp_all;done)|((try simp_all)<;>(try omega)<;>grind))
def s9 (x : Int) : Bool:=decide (-2147483648≤x) && decide (x≤2147483648)
end Go.Ab
namespace Go.Ab
open Go.Proofs
end Go.Ab
namespace Go.Ab
open Go.Proofs
theorem jS {α : Type} {p : α→Bool} {xs : List α} {i : Nat} (hlt : i < xs.length) (hp : p xs[i]=false) : aU p xs=false:=by
 rw [aU,List.all_eq_false];exact ⟨xs[i],List.getElem_mem hlt,by simp [hp]⟩
theorem jr {α : Type} {p : α→Bool} {xs : List α} {i : Nat} (hlt : i < xs.length) (h : aU p (xs.take i)=true) (hp : p xs[i]=true) : aU p (xs.take (i+1))=true:=by
 unfold aU at *;rw [List.take_succ_eq_append_getElem hlt,List.all_append,h];simp [hp]
theorem js {α : Type} {p : α→Bool} {xs : List α} {i : Nat} (hlt : ¬ i < xs.length) (h : aU p (xs.take i)=true) : aU p xs=true:=by
 rwa [List.take_of_length_le (by omega)] at h
theorem ql {α β : Type} {f : α→β} {xs : List α} {i : Nat} (hlt : i < xs.length) : (xs.map f).take i++[f xs[i]]=(xs.map f).take (i+1):=by
 rw [List.take_succ_eq_append_getElem (by simpa using hlt)];simp
theorem tj {α : Type} {xs : List α} {i n : Nat} (hn : xs.length=n) (hi : ¬ i < n) : xs.take i=xs:=List.take_of_length_le (by omega)
def dk {α β : Type} (f : α→β→Bool) (xs : List α) (ys : List β) : Bool:=(List.zipWith f xs ys).all id
def cN {α β : Type} (f : α→β→Bool) (xs : List α) (ys : List β) (i : Nat) : Bool:=((List.zipWith f xs ys).take i).all id
theorem fa {α β : Type} {f : α→β→Bool} {xs : List α} {ys : List β} {i : Nat} (hlt : i < xs.length) (hlt' : i < ys.length) (hp : f xs[i] ys[i]=false) : dk f xs ys=false:=
 jS (p:=id) (xs:=List.zipWith f xs ys) (i:=i) (by simp;omega) (by simpa using hp)
theorem fL {α β : Type} {f : α→β→Bool} {xs : List α} {ys : List β} {i : Nat} (hlt : i < xs.length) (hlt' : i < ys.length) (h : cN f xs ys i=true) (hp : f xs[i] ys[i]=true) : cN f xs ys (i+1)=true:=
 jr (p:=id) (xs:=List.zipWith f xs ys) (i:=i) (by simp;omega) h (by simpa using hp)
theorem fM {α β : Type} {f : α→β→Bool} {xs : List α} {ys : List β} {i : Nat} (hlt : ¬ i < xs.length) (h : cN f xs ys i=true) : dk f xs ys=true:=
 js (p:=id) (xs:=List.zipWith f xs ys) (i:=i) (by simp;omega) h
theorem vk (xs : List (Int × Int)) (hl : xs.length≤9223372036854775807) : am Try.prog 37 [.pv (iv xs)] [] [] (.pv (B (aU vI xs))):=by
 refine Dp Try.func37 ?_
 intro C hP hN
 simp only [Try.f37] at hN ⊢
 with_reducible repeat' (first|refine Sp.h ?_|((first|refine Ss.h ?_|(refine Sb.h ?_ ?_ ?_<;>(try intro hgd)<;>try exact Xy))<;>simp -implicitDefEqProofs (maxSteps:=2000000) [hP,hN])|refine X2 ?_ ?_|(refine Xd ?_ ?_<;>intro hcd<;>try exact Xx))
 refine WP.loopN [] xs.length (fun i st=>st.t 0=.pv (iv xs)∧st.t 3=.pv (Z i)∧aU vI (xs.take i)=true) (by simp [aU]) ?_
 rintro i st hi ⟨h0,h1,hq⟩
 by_cases hlt : i < xs.length
 ·have hw:=ak hlt hl
  have hF : vI xs[i]=false→aU vI xs=false:=jS hlt
  have hS : vI xs[i]=true→aU vI (xs.take (i+1))=true:=jr hlt hq
  with_reducible repeat' (first|refine Sp.h ?_|((first|refine Ss.h ?_|refine Sc.h (qI _ _) ?_|(refine Sb.h ?_ ?_ ?_<;>(try intro hgd)<;>try exact Xy))<;>simp -implicitDefEqProofs (maxSteps:=2000000) [hP,hN,h0,h1,hlt,hw])|refine X2 ?_ ?_|(refine Xd ?_ ?_<;>intro hcd<;>try exact Xx))
  all_goals first|(rw [hF];simp_all [s9];try omega)|(rw [hS];simp_all [s9];try omega)
 ·skip
  with_reducible repeat' (first|refine Sp.h ?_|((first|refine Ss.h ?_|(refine Sb.h ?_ ?_ ?_<;>(try intro hgd)<;>try exact Xy))<;>simp -implicitDefEqProofs (maxSteps:=2000000) [hP,hN,h0,h1,hlt])|refine X2 ?_ ?_|(refine Xd ?_ ?_<;>intro hcd<;>try exact Xx))
  simp [js hlt hq]
def fo (x : Int × Int) (c : Int) : Bool:=aW x.1 x.2 && decide (x.1≤c) && decide (c≤x.2)
def mX (xs : List (Int × Int)) (ys : List Int) : Bool:=aU vI xs && decide (xs.length=ys.length) && dk fo xs ys
theorem yU (xs : List (Int × Int)) (ys : List (Int)) (hl : xs.length≤9223372036854775807) (hm : ys.length≤9223372036854775807) : am Try.prog 24 [.pv (iv xs),.pv (zs ys)] [] [] (.pv (B (mX xs ys))):=by
 refine Dp Try.func24 ?_
 intro C hP hN
 simp only [Try.f24] at hN ⊢
 cases hv : aU vI xs with
 |false=>
  with_reducible repeat' (first|refine Sp.h ?_|((first|refine Wd ?_|refine Ss.h ?_|refine Sc.h (vk _ hl) ?_|(refine Sb.h ?_ ?_ ?_<;>(try intro hgd)<;>try exact Xy))<;>simp -implicitDefEqProofs (maxSteps:=2000000) [hP,hN,hv]<;>try refine Ya ?_)|refine X2 ?_ ?_|(refine Xd ?_ ?_<;>intro hcd<;>try exact Xx))
  all_goals simp [mX,hv]
 |true=>
  by_cases he : xs.length=ys.length
  ·skip
   with_reducible repeat' (first|refine Sp.h ?_|((first|refine Wd ?_|refine Ss.h ?_|refine Sc.h (vk _ hl) ?_|(refine Sb.h ?_ ?_ ?_<;>(try intro hgd)<;>try exact Xy))<;>simp -implicitDefEqProofs (maxSteps:=2000000) [hP,hN,hv,he]<;>try refine Ya ?_)|refine X2 ?_ ?_|(refine Xd ?_ ?_<;>intro hcd<;>try exact Xx))
   refine WP.loopN [] xs.length (fun i st=>st.t 0=.pv (iv xs)∧st.t 1=.pv (zs ys)∧st.t 5=.pv (Z i)∧cN fo xs ys i=true) (by simp [cN]) ?_
   rintro i st hi ⟨h0,h1,h2,hq⟩
   by_cases hlt : i < xs.length
   ·have hw:=ak hlt hl
    have hlt' : i < ys.length:=by omega
    have hF : fo xs[i] ys[i]=false→dk fo xs ys=false:=fa hlt hlt'
    have hS : fo xs[i] ys[i]=true→cN fo xs ys (i+1)=true:=fL hlt hlt' hq
    with_reducible repeat' (first|refine Sp.h ?_|((first|refine Wd ?_|refine Ss.h ?_|refine Sc.h (yY _ _ _) ?_|(refine Sb.h ?_ ?_ ?_<;>(try intro hgd)<;>try exact Xy))<;>simp -implicitDefEqProofs (maxSteps:=2000000) [hP,hN,h0,h1,h2,hlt,hlt',hw]<;>try refine Ya ?_)|refine X2 ?_ ?_|(refine Xd ?_ ?_<;>intro hcd<;>try exact Xx))
    all_goals first|(rw [mX,hF (by simp only [fo]<;>grind)];simp;done)|(rw [hS (by simp only [fo]<;>grind)];done)
   ·have hlt' : ¬ i < ys.length:=by omega
    with_reducible repeat' (first|refine Sp.h ?_|((first|refine Wd ?_|refine Ss.h ?_|(refine Sb.h ?_ ?_ ?_<;>(try intro hgd)<;>try exact Xy))<;>simp -implicitDefEqProofs (maxSteps:=2000000) [hP,hN,h0,h1,h2,hlt,hlt']<;>try refine Ya ?_)|refine X2 ?_ ?_|(refine Xd ?_ ?_<;>intro hcd<;>try exact Xx))
    all_goals simp [mX,hv,he,fM hlt hq]
  ·skip
   with_reducible repeat' (first|refine Sp.h ?_|((first|refine Wd ?_|refine Ss.h ?_|refine Sc.h (vk _ hl) ?_|(refine Sb.h ?_ ?_ ?_<;>(try intro hgd)<;>try exact Xy))<;>simp -implicitDefEqProofs (maxSteps:=2000000) [hP,hN,hv,he]<;>try refine Ya ?_)|refine X2 ?_ ?_|(refine Xd ?_ ?_<;>intro hcd<;>try exact Xx))
   all_goals simp [mX,hv,he]
def ii {α : Type} [DecidableEq α] (x y : α) : Bool:=decide (x=y)
theorem wL {α : Type} [DecidableEq α] {xs ys : List α} (he : xs.length=ys.length) : dk ii xs ys=decide (xs=ys):=by
 unfold dk
 induction xs generalizing ys with
 |nil=>cases ys<;>simp at he ⊢
 |cons x xs ih=>cases ys with
  |nil=>simp at he
  |cons y ys=>simp only [List.zipWith_cons_cons,List.all_cons,ih (by simpa using he)];simp [ii,Bool.decide_and]
def hY {α : Type} [DecidableEq α] (xs ys : List α) : Bool:=decide (xs.length=ys.length) && dk ii xs ys
theorem td (xs : List (Int × Int)) (ys : List (Int × Int)) (hl : xs.length≤9223372036854775807) (hm : ys.length≤9223372036854775807) : am Try.prog 28 [.pv (iv xs),.pv (iv ys)] [] [] (.pv (B (hY xs ys))):=by
 refine Dp Try.func28 ?_
 intro C hP hN
 simp only [Try.f28] at hN ⊢
 by_cases he : xs.length=ys.length
 ·skip
  with_reducible repeat' (first|refine Sp.h ?_|((first|refine Wd ?_|refine Ss.h ?_|(refine Sb.h ?_ ?_ ?_<;>(try intro hgd)<;>try exact Xy))<;>simp -implicitDefEqProofs (maxSteps:=2000000) [hP,hN,he]<;>try refine Ya ?_)|refine X2 ?_ ?_|(refine Xd ?_ ?_<;>intro hcd<;>try exact Xx))
  refine WP.loopN [] xs.length (fun i st=>st.t 0=.pv (iv xs)∧st.t 1=.pv (iv ys)∧st.t 5=.pv (Z i)∧cN ii xs ys i=true) (by simp [cN]) ?_
  rintro i st hi ⟨h0,h1,h2,hq⟩
  by_cases hlt : i < xs.length
  ·have hw:=ak hlt hl
   have hlt' : i < ys.length:=by omega
   have hF : ii xs[i] ys[i]=false→dk ii xs ys=false:=fa hlt hlt'
   have hS : ii xs[i] ys[i]=true→cN ii xs ys (i+1)=true:=fL hlt hlt' hq
   with_reducible repeat' (first|refine Sp.h ?_|((first|refine Wd ?_|refine Ss.h ?_|(refine Sb.h ?_ ?_ ?_<;>(try intro hgd)<;>try exact Xy))<;>simp -implicitDefEqProofs (maxSteps:=2000000) [hP,hN,h0,h1,h2,hlt,hlt',hw]<;>try refine Ya ?_)|refine X2 ?_ ?_|(refine Xd ?_ ?_<;>intro hcd<;>try exact Xx))
   all_goals first|(rw [hY,hF (by simp only [ii]<;>grind)];simp;done)|(rw [hS (by simp only [ii]<;>grind)];done)
  ·have hlt' : ¬ i < ys.length:=by omega
   with_reducible repeat' (first|refine Sp.h ?_|((first|refine Wd ?_|refine Ss.h ?_|(refine Sb.h ?_ ?_ ?_<;>(try intro hgd)<;>try exact Xy))<;>simp -implicitDefEqProofs (maxSteps:=2000000) [hP,hN,h0,h1,h2,hlt,hlt']<;>try refine Ya ?_)|refine X2 ?_ ?_|(refine Xd ?_ ?_<;>intro hcd<;>try exact Xx))
   all_goals simp [hY,he,fM hlt hq]
 ·skip
  with_reducible repeat' (first|refine Sp.h ?_|((first|refine Wd ?_|refine Ss.h ?_|(refine Sb.h ?_ ?_ ?_<;>(try intro hgd)<;>try exact Xy))<;>simp -implicitDefEqProofs (maxSteps:=2000000) [hP,hN,he]<;>try refine Ya ?_)|refine X2 ?_ ?_|(refine Xd ?_ ?_<;>intro hcd<;>try exact Xx))
  all_goals simp [hY,he]
theorem vJ (xs : List (Int)) (ys : List (Int)) (hl : xs.length≤9223372036854775807) (hm : ys.length≤9223372036854775807) : am Try.prog 73 [.pv (zs xs),.pv (zs ys)] [] [] (.pv (B (hY xs ys))):=by
 refine Dp Try.func73 ?_
 intro C hP hN
 simp only [Try.f73] at hN ⊢
 by_cases he : xs.length=ys.length
 ·skip
  with_reducible repeat' (first|refine Sp.h ?_|((first|refine Wd ?_|refine Ss.h ?_|(refine Sb.h ?_ ?_ ?_<;>(try intro hgd)<;>try exact Xy))<;>simp -implicitDefEqProofs (maxSteps:=2000000) [hP,hN,he]<;>try refine Ya ?_)|refine X2 ?_ ?_|(refine Xd ?_ ?_<;>intro hcd<;>try exact Xx))
  refine WP.loopN [] xs.length (fun i st=>st.t 0=.pv (zs xs)∧st.t 1=.pv (zs ys)∧st.t 5=.pv (Z i)∧cN ii xs ys i=true) (by simp [cN]) ?_
  rintro i st hi ⟨h0,h1,h2,hq⟩
  by_cases hlt : i < xs.length
  ·have hw:=ak hlt hl
   have hlt' : i < ys.length:=by omega
   have hF : ii xs[i] ys[i]=false→dk ii xs ys=false:=fa hlt hlt'
   have hS : ii xs[i] ys[i]=true→cN ii xs ys (i+1)=true:=fL hlt hlt' hq
   with_reducible repeat' (first|refine Sp.h ?_|((first|refine Wd ?_|refine Ss.h ?_|(refine Sb.h ?_ ?_ ?_<;>(try intro hgd)<;>try exact Xy))<;>simp -implicitDefEqProofs (maxSteps:=2000000) [hP,hN,h0,h1,h2,hlt,hlt',hw]<;>try refine Ya ?_)|refine X2 ?_ ?_|(refine Xd ?_ ?_<;>intro hcd<;>try exact Xx))
   all_goals first|(rw [hY,hF (by simp only [ii]<;>grind)];simp;done)|(rw [hS (by simp only [ii]<;>grind)];done)
  ·have hlt' : ¬ i < ys.length:=by omega
   with_reducible repeat' (first|refine Sp.h ?_|((first|refine Wd ?_|refine Ss.h ?_|(refine Sb.h ?_ ?_ ?_<;>(try intro hgd)<;>try exact Xy))<;>simp -implicitDefEqProofs (maxSteps:=2000000) [hP,hN,h0,h1,h2,hlt,hlt']<;>try refine Ya ?_)|refine X2 ?_ ?_|(refine Xd ?_ ?_<;>intro hcd<;>try exact Xx))
   all_goals simp [hY,he,fM hlt hq]
 ·skip
  with_reducible repeat' (first|refine Sp.h ?_|((first|refine Wd ?_|refine Ss.h ?_|(refine Sb.h ?_ ?_ ?_<;>(try intro hgd)<;>try exact Xy))<;>simp -implicitDefEqProofs (maxSteps:=2000000) [hP,hN,he]<;>try refine Ya ?_)|refine X2 ?_ ?_|(refine Xd ?_ ?_<;>intro hcd<;>try exact Xx))
  all_goals simp [hY,he]
end Go.Ab
namespace Go.Ab
open Go.Proofs
end Go.Ab
namespace Go.Ab
open Go.Proofs
def gf (x : Int × Int) : Int:=if aW x.1 x.2 then wr (x.2 - x.1) else 0
def dP (x : Int × Int) : Int:=if aW x.1 x.2 then (wr (x.1+x.2)).fdiv 2 else 0
def aQ (xs : List (Int × Int)) (j : Int) : Bool:=decide (0≤j) && aU vI xs && (match xs[j.toNat]? with|some x=>decide (2≤gf x)|none=>false)
def a8 (xs : List (Int × Int)) (j : Int) : List (Int × Int):=if aQ xs j then (match xs[j.toNat]? with|some x=>xs.set j.toNat (x.1,dP x)|none=>[]) else []
def ba (xs : List (Int × Int)) (j : Int) : List (Int × Int):=if aQ xs j then (match xs[j.toNat]? with|some x=>xs.set j.toNat (dP x,x.2)|none=>[]) else []
theorem vl (xs : List (Int × Int)) (j : Int) (hl : xs.length≤16777216) : am Try.prog 68 [.pv (iv xs),.pv (Z j)] [] [] (.pv (.tup [iv (a8 xs j),iv (ba xs j),B (aQ xs j)])):=by
 refine Dp Try.func68 ?_
 intro C hP hN
 simp only [Try.f68] at hN ⊢
 by_cases hj : 0≤j
 ·obtain ⟨n,rfl⟩:=Int.eq_ofNat_of_zero_le hj
  by_cases hlt : n < xs.length
  ·cases hv : aU vI xs with
   |false=>
    with_reducible repeat' (first|refine Sp.h ?_|((first|refine Wd ?_|refine Ss.h ?_|refine Sc.h (sV _ (kz hl)) ?_|(refine Sb.h ?_ ?_ ?_<;>(try intro hgd)<;>try exact Xy))<;>simp -implicitDefEqProofs (maxSteps:=2000000) [hP,hN,hlt,hv]<;>try refine Ya ?_)|refine X2 ?_ ?_|(refine Xd ?_ ?_<;>intro hcd<;>try exact Xx))
    all_goals simp [a8,ba,aQ,hv]
   |true=>
    have hx:=List.getElem?_eq_getElem hlt
    generalize hxx : xs[n]=x at hx
    by_cases hwd : gf x < 2
    ·have hwd':=hwd
     simp only [gf] at hwd'
     with_reducible repeat' (first|refine Sp.h ?_|((first|refine Wd ?_|refine Ss.h ?_|refine Sc.h (sV _ (kz hl)) ?_|refine Sc.h (yM _ _) ?_|(refine Sb.h ?_ ?_ ?_<;>(try intro hgd)<;>try exact Xy))<;>simp -implicitDefEqProofs (maxSteps:=2000000) [hP,hN,hlt,hv,hx,hxx,hwd']<;>try refine Ya ?_)|refine X2 ?_ ?_|(refine Xd ?_ ?_<;>intro hcd<;>try exact Xx))
     all_goals simp [a8,ba,aQ,hv,hx,Int.not_le.2 hwd]
    ·have hwd':=hwd
     simp only [gf] at hwd'
     with_reducible repeat' (first|refine Sp.h ?_|((first|refine Wd ?_|refine Ss.h ?_|refine Sc.h (sV _ (kz hl)) ?_|refine Sc.h (yM _ _) ?_|refine Sc.h (zD _ _) ?_|(refine Sb.h ?_ ?_ ?_<;>(try intro hgd)<;>try exact Xy))<;>simp -implicitDefEqProofs (maxSteps:=2000000) [hP,hN,hlt,hv,hx,hxx,hwd',show (16 : Int) * xs.length≤281474976710656 by omega,show (xs.length : Int)≤9223372036854775807 by omega]<;>try refine Ya ?_)|refine X2 ?_ ?_|(refine Xd ?_ ?_<;>intro hcd<;>try exact Xx))
     have hok : aQ xs (n : Int)=true:=by simp [aQ,hv,hx,Int.not_lt.1 hwd]
     have ht : List.take xs.length (List.map uP xs)=List.map uP xs:=List.take_of_length_le (by simp)
     simp [a8,ba,hok,hx,ht,List.map_set,dP]
  ·skip
   with_reducible repeat' (first|refine Sp.h ?_|((first|refine Wd ?_|refine Ss.h ?_|refine Sc.h (sV _ (kz hl)) ?_|(refine Sb.h ?_ ?_ ?_<;>(try intro hgd)<;>try exact Xy))<;>simp -implicitDefEqProofs (maxSteps:=2000000) [hP,hN,hlt]<;>try refine Ya ?_)|refine X2 ?_ ?_|(refine Xd ?_ ?_<;>intro hcd<;>try exact Xx))
   all_goals (have hx : xs[n]?=none:=List.getElem?_eq_none (by omega));simp [a8,ba,aQ,hx]
 ·skip
  with_reducible repeat' (first|refine Sp.h ?_|((first|refine Wd ?_|refine Ss.h ?_|refine Sc.h (sV _ (kz hl)) ?_|(refine Sb.h ?_ ?_ ?_<;>(try intro hgd)<;>try exact Xy))<;>simp -implicitDefEqProofs (maxSteps:=2000000) [hP,hN,hj,show j < 0 by omega]<;>try refine Ya ?_)|refine X2 ?_ ?_|(refine Xd ?_ ?_<;>intro hcd<;>try exact Xx))
  all_goals simp [a8,ba,aQ,hj]
end Go.Ab
namespace Go.Ab
open Go.Proofs
def nx (l : List Int) (n : Nat) (k : Int) : Int:=match l[n]? with
 |some x=>fG x k
 |none=>0
def nn (l : List Int) (n : Nat) : Nat:=if n < l.length then n+1 else n
abbrev dY (l : List Int) (n : Nat) : List PV:=[zs l,Z n]
theorem tl (l : List Int) : am Try.prog 12 [.pv (zs l)] [] [] (.box (dY l 0)):=by
 refine Dp Try.func12 ?_
 intro C hP hN
 simp only [Try.f12] at hN ⊢
 with_reducible repeat' (first|refine Sp.h ?_|((first|refine Ss.h ?_|(refine Sb.h ?_ ?_ ?_<;>(try intro hgd)<;>try exact Xy))<;>simp -implicitDefEqProofs (maxSteps:=2000000) [hP,hN])|refine X2 ?_ ?_|(refine Xd ?_ ?_<;>intro hcd<;>try exact Xx))
 all_goals (first|(simp_all;done)|((try simp_all)<;>(try omega)<;>grind))
theorem cY (l : List Int) (n : Nat) : nn l n≤n+1:=by unfold nn;split<;>omega
theorem pZ (l : List Int) (n : Nat) (k : Int) (hk : k≠0) (hn : n < 1000000) : am Try.prog 16 [.bx 0,.pv (Z k)] [dY l n] [dY l (nn l n)] (.pv (Z (nx l n k))):=by
 have hw : IntKind.i64.wrap ((n : Int)+1)=(n : Int)+1:=by rw [IntKind.wrap_i64];omega
 have hw' : IntKind.i64.wrap (n : Int)=n:=by rw [IntKind.wrap_i64];omega
 refine eH Try.func16 rfl (by kernel_rfl) (by simp [Try.f16]) rfl (by intro i j h;rcases i with _|_|_|i<;>simp_all) ?_
 intro C hP hN
 simp only [Try.f16] at hN ⊢
 by_cases hlt : n < l.length
 ·skip
  with_reducible repeat' (first|refine Sp.h ?_|((first|refine Wd ?_|refine Ss.h ?_|refine Sc.h (tL _ _ hk) ?_|(refine Sb.h ?_ ?_ ?_<;>(try intro hgd)<;>try exact Xy))<;>simp -implicitDefEqProofs (maxSteps:=2000000) [hP,hN,dY,hlt,hw,hw',Nat.not_le.2 hlt]<;>try refine Ya ?_)|refine X2 ?_ ?_|(refine Xd ?_ ?_<;>intro hcd<;>try exact Xx))
  simp [nn,nx,hlt]
 ·skip
  with_reducible repeat' (first|refine Sp.h ?_|((first|refine Wd ?_|refine Ss.h ?_|(refine Sb.h ?_ ?_ ?_<;>(try intro hgd)<;>try exact Xy))<;>simp -implicitDefEqProofs (maxSteps:=2000000) [hP,hN,dY,hlt,Nat.not_lt.1 hlt]<;>try refine Ya ?_)|refine X2 ?_ ?_|(refine Xd ?_ ?_<;>intro hcd<;>try exact Xx))
  simp [nn,nx,hlt]
theorem tK (l : List Int) (n : Nat) (k : Int) (h0 : 0 < k) (hk : k < 1000000) (hn : n < 1000000) : am Try.prog 32 [.bx 0,.pv (Z k)] [dY l n] [dY l (nn l n)] (.pv (Z (wr (nx l n (2 * k+1) - k)))):=by
 have hw : IntKind.i64.wrap (2 * k)=2 * k:=by rw [IntKind.wrap_i64];omega
 have hw' : IntKind.i64.wrap (2 * k+1)=2 * k+1:=by rw [IntKind.wrap_i64];omega
 refine eH Try.func32 rfl (by kernel_rfl) (by simp [Try.f32]) rfl (by intro i j h;rcases i with _|_|_|i<;>simp_all) ?_
 intro C hP hN
 simp only [Try.f32] at hN ⊢
 with_reducible repeat' (first|refine Sp.h ?_|((first|refine Ss.h ?_|refine Sc.h (pZ l n (2 * k+1) (by omega) hn) ?_|(refine Sb.h ?_ ?_ ?_<;>(try intro hgd)<;>try exact Xy))<;>simp -implicitDefEqProofs (maxSteps:=2000000) [hP,hN,dY,hw,hw'])|refine X2 ?_ ?_|(refine Xd ?_ ?_<;>intro hcd<;>try exact Xx))
theorem bq (l : List Int) (n : Nat) {k : Int} (hk : 0 < k) (hk' : k < 4611686018427387904) : 0≤nx l n k∧nx l n k < k:=by
 unfold nx
 split
 ·rename_i x _
  have h1 : -k < x.tmod k:=by have:=Int.lt_tmod_of_pos x hk;omega
  have h2 : x.tmod k < k:=Int.tmod_lt_of_pos x hk
  unfold fG
  split
  ·rw [bP (by omega) (by omega)];omega
  ·omega
 ·omega
section
variable {dst : Option Nat} {ty : TypeId} {pos : String} {aft : Array Edge} {g : Option (Nat × Bool)} {ρ : Operand→AV}
end
end Go.Ab
namespace Go.Ab
open Go.Proofs
structure J where
 name : ByteArray
 kind : Int
 parent : Int
 ox : Int
 oy : Int
 oz : Int
 lo : Int
 hi : Int
 w : Int
 sp : Int
 ac : Int
 tq : Int
end Go.Ab
namespace Go.Ab
open Go.Proofs
end Go.Ab
namespace Go.Ab
open Go.Proofs
theorem oK (x : Int) {k : Int} (hk : 0 < k) (hk' : k < 4611686018427387904) : 0≤fG x k∧fG x k < k:=by
 have:=bq [x] 0 hk hk'
 simpa [nx] using this
end Go.Ab
namespace Go.Ab
open Go.Proofs
theorem si {P : Program} (d : Nat) (t : TypeId) (a b : Bool) (h : P.underlying t=some .bool) : af P (Op.equalIn (d+1) t (.bool a) (.bool b))=some (a==b):=by
 simp only [Op.equalIn,aa,dO h,Option.bind_some];rfl
def rW (x y : AV) : Option (Bool × Bool):=match x,y with
 |.pv (.val (.bool a)),.pv (.val (.bool b))=>some (a,b)
 |_,_=>none
def rd (x y : AV) (fb : Option bj) : Option bj:=match rW x y with
 |some (a,b)=>some (.pv (.val (.bool (a==b))),[])
 |none=>fb
@[simp] theorem yP (a b : Bool) (fb : Option bj) : rd (.pv (.val (.bool a))) (.pv (.val (.bool b))) fb=some (.pv (.val (.bool (a==b))),[]):=rfl
@[simp] theorem ve {dst : Option Nat} {ty : TypeId} {pos : String} {aft : Array Edge} {g : Option (Nat × Bool)} {ρ : Operand→AV} (x y : Operand) :
 aM Try.prog ⟨dst,.binOp .eql 4 x y 4,ty,pos,aft,g⟩ ρ=rd (ρ x) (ρ y) (oW Try.prog ⟨dst,.binOp .eql 4 x y 4,ty,pos,aft,g⟩ ρ):=by
 unfold rd
 split
 ·rename_i a b h
  unfold rW at h
  split at h
  ·rename_i a' b' hx hy
   injection h with h;injection h with h1 h2;subst h1;subst h2
   refine bw (by simp [Op.operands,hx,hy,bN]) ?_
   unfold execOp
   simp only [(aC hx).2,(aC hy).2]
   have h1 : af Try.prog (eqGuard .eql 4 x y (.bool a') (.bool b'))=some ():=by kernel_rfl
   have h2 : af Try.prog (binOp .eql 4 (.bool a') (.bool b'))=some (.bool (a'==b')):=by
    simp only [binOp,aa]
    rw [show af Try.prog (Op.equal 4 (.bool a') (.bool b'))=some (a'==b') from si 9999 4 a' b' Try.underlying4]
    rfl
   simp only [aa,h1,h2,Option.bind_some];rfl
  ·cases h
 ·rfl
theorem yX (f : FuncId) (p : Int × Int→Int→Bool) (xs : List (Int × Int)) (ys : List (Int)) (hl : xs.length≤9223372036854775807) (hf : ∀ a b,am Try.prog f [.pv (uP a),.pv (Z b)] [] [] (.pv (B (p a b)))) : am Try.prog 64 [.pv (.sl (xs.map uP)),.pv (.sl (ys.map Z)),.pv (Fv f)] [] [] (.pv (B (decide (xs.length=ys.length) && dk p xs ys))):=by
 refine Dp Try.func64 ?_
 intro C hP hN
 simp only [Try.f64] at hN ⊢
 by_cases he : xs.length=ys.length
 ·skip
  with_reducible repeat' (first|refine Sp.h ?_|((first|refine Wd ?_|refine Ss.h ?_|(refine Sb.h ?_ ?_ ?_<;>(try intro hgd)<;>try exact Xy))<;>simp -implicitDefEqProofs (maxSteps:=2000000) [hP,hN,he]<;>try refine Ya ?_)|refine X2 ?_ ?_|(refine Xd ?_ ?_<;>intro hcd<;>try exact Xx))
  refine WP.loopN [8] xs.length (fun i st=>st.t 0=.pv (.sl (xs.map uP))∧st.t 1=.pv (.sl (ys.map Z))∧st.t 2=.pv (Fv f)∧st.t 14=.pv (.sl (xs.map uP))∧st.t 15=.pv (Z xs.length)∧st.t 16=.pv (Z i)∧st.h 8=none∧cN p xs ys i=true) (by simp [cN,he]) ?_
  rintro i st hi ⟨h0,h1,h2,h14,h15,h16,hb,hq⟩
  by_cases hlt : i < xs.length
  ·have hw:=ak hlt hl
   have hlt' : i < ys.length:=by omega
   have hF : p xs[i] ys[i]=false→dk p xs ys=false:=fa hlt hlt'
   have hS : p xs[i] ys[i]=true→cN p xs ys (i+1)=true:=fL hlt hlt' hq
   with_reducible repeat' (first|refine Sp.h ?_|((first|refine Wd ?_|refine Ss.h ?_|refine Sc.h (hf _ _) ?_|(refine Sb.h ?_ ?_ ?_<;>(try intro hgd)<;>try exact Xy))<;>simp -implicitDefEqProofs (maxSteps:=2000000) [hP,hN,h0,h1,h2,h14,h15,h16,hb,hlt,hlt',hw]<;>try refine Ya ?_)|refine X2 ?_ ?_|(refine Xd ?_ ?_<;>intro hcd<;>try exact Xx))
   all_goals first|exact hF (by simpa using hcd)|simpa using hS (by simpa using hcd)
  ·skip
   with_reducible repeat' (first|refine Sp.h ?_|((first|refine Wd ?_|refine Ss.h ?_|(refine Sb.h ?_ ?_ ?_<;>(try intro hgd)<;>try exact Xy))<;>simp -implicitDefEqProofs (maxSteps:=2000000) [hP,hN,h0,h1,h2,h14,h15,h16,hb,hlt]<;>try refine Ya ?_)|refine X2 ?_ ?_|(refine Xd ?_ ?_<;>intro hcd<;>try exact Xx))
   all_goals simp [he,fM hlt hq]
 ·skip
  with_reducible repeat' (first|refine Sp.h ?_|((first|refine Wd ?_|refine Ss.h ?_|(refine Sb.h ?_ ?_ ?_<;>(try intro hgd)<;>try exact Xy))<;>simp -implicitDefEqProofs (maxSteps:=2000000) [hP,hN,he]<;>try refine Ya ?_)|refine X2 ?_ ?_|(refine Xd ?_ ?_<;>intro hcd<;>try exact Xx))
  all_goals simp [he]
theorem zH (f : FuncId) (p : Int × Int→Int × Int→Bool) (xs : List (Int × Int)) (ys : List (Int × Int)) (hl : xs.length≤9223372036854775807) (hf : ∀ a b,am Try.prog f [.pv (uP a),.pv (uP b)] [] [] (.pv (B (p a b)))) : am Try.prog 82 [.pv (.sl (xs.map uP)),.pv (.sl (ys.map uP)),.pv (Fv f)] [] [] (.pv (B (decide (xs.length=ys.length) && dk p xs ys))):=by
 refine Dp Try.func82 ?_
 intro C hP hN
 simp only [Try.f82] at hN ⊢
 by_cases he : xs.length=ys.length
 ·skip
  with_reducible repeat' (first|refine Sp.h ?_|((first|refine Wd ?_|refine Ss.h ?_|(refine Sb.h ?_ ?_ ?_<;>(try intro hgd)<;>try exact Xy))<;>simp -implicitDefEqProofs (maxSteps:=2000000) [hP,hN,he]<;>try refine Ya ?_)|refine X2 ?_ ?_|(refine Xd ?_ ?_<;>intro hcd<;>try exact Xx))
  refine WP.loopN [8] xs.length (fun i st=>st.t 0=.pv (.sl (xs.map uP))∧st.t 1=.pv (.sl (ys.map uP))∧st.t 2=.pv (Fv f)∧st.t 14=.pv (.sl (xs.map uP))∧st.t 15=.pv (Z xs.length)∧st.t 16=.pv (Z i)∧st.h 8=none∧cN p xs ys i=true) (by simp [cN,he]) ?_
  rintro i st hi ⟨h0,h1,h2,h14,h15,h16,hb,hq⟩
  by_cases hlt : i < xs.length
  ·have hw:=ak hlt hl
   have hlt' : i < ys.length:=by omega
   have hF : p xs[i] ys[i]=false→dk p xs ys=false:=fa hlt hlt'
   have hS : p xs[i] ys[i]=true→cN p xs ys (i+1)=true:=fL hlt hlt' hq
   with_reducible repeat' (first|refine Sp.h ?_|((first|refine Wd ?_|refine Ss.h ?_|refine Sc.h (hf _ _) ?_|(refine Sb.h ?_ ?_ ?_<;>(try intro hgd)<;>try exact Xy))<;>simp -implicitDefEqProofs (maxSteps:=2000000) [hP,hN,h0,h1,h2,h14,h15,h16,hb,hlt,hlt',hw]<;>try refine Ya ?_)|refine X2 ?_ ?_|(refine Xd ?_ ?_<;>intro hcd<;>try exact Xx))
   all_goals first|exact hF (by simpa using hcd)|simpa using hS (by simpa using hcd)
  ·skip
   with_reducible repeat' (first|refine Sp.h ?_|((first|refine Wd ?_|refine Ss.h ?_|(refine Sb.h ?_ ?_ ?_<;>(try intro hgd)<;>try exact Xy))<;>simp -implicitDefEqProofs (maxSteps:=2000000) [hP,hN,h0,h1,h2,h14,h15,h16,hb,hlt]<;>try refine Ya ?_)|refine X2 ?_ ?_|(refine Xd ?_ ?_<;>intro hcd<;>try exact Xx))
   all_goals simp [he,fM hlt hq]
 ·skip
  with_reducible repeat' (first|refine Sp.h ?_|((first|refine Wd ?_|refine Ss.h ?_|(refine Sb.h ?_ ?_ ?_<;>(try intro hgd)<;>try exact Xy))<;>simp -implicitDefEqProofs (maxSteps:=2000000) [hP,hN,he]<;>try refine Ya ?_)|refine X2 ?_ ?_|(refine Xd ?_ ?_<;>intro hcd<;>try exact Xx))
  all_goals simp [he]
theorem zl (a : Int × Int) (b : Int) : am Try.prog 65 [.pv (uP a),.pv (Z b)] [] [] (.pv (B (fo a b))):=vw a.1 a.2 b
def gM (xs : List (Int × Int)) : List Int:=if aU vI xs then xs.map dP else []
def aR (xs : List (Int × Int)) (ys : List Int) : Bool:=decide (xs.length=ys.length) && dk fo xs ys
def cT (x y : Int × Int) : Bool:=aW x.1 x.2 && aW y.1 y.2 && decide (max x.1 y.1≤min x.2 y.2)
def bG (xs ys : List (Int × Int)) : Bool:=decide (xs.length=ys.length) && dk cT xs ys
theorem uA (xs : List (Int × Int)) (ys : List Int) (hl : xs.length≤9223372036854775807) : am Try.prog 40 [.pv (iv xs),.pv (zs ys)] [] [] (.pv (B (aR xs ys))):=by
 refine Dp Try.func40 ?_
 intro C hP hN
 simp only [Try.f40] at hN ⊢
 with_reducible repeat' (first|refine Sp.h ?_|((first|refine Ss.h ?_|refine Sc.h (yX _ fo _ _ hl zl) ?_|(refine Sb.h ?_ ?_ ?_<;>(try intro hgd)<;>try exact Xy))<;>simp -implicitDefEqProofs (maxSteps:=2000000) [hP,hN])|refine X2 ?_ ?_|(refine Xd ?_ ?_<;>intro hcd<;>try exact Xx))
 all_goals (first|(simp_all [aR];done)|((try simp_all [aR])<;>(try omega)<;>grind))
theorem zI (x y : Int × Int) : am Try.prog 83 [.pv (uP x),.pv (uP y)] [] [] (.pv (B (cT x y))):=by
 refine Dp Try.func83 ?_
 intro C hP hN
 simp only [Try.f83] at hN ⊢
 cases h : cT x y with
 |true=>
  have h' : (aW x.1 x.2 && aW y.1 y.2 && decide (max x.1 y.1≤min x.2 y.2))=true:=h
  with_reducible repeat' (first|refine Sp.h ?_|((first|refine Ss.h ?_|refine Sc.h (yN _ _ _ _) ?_|(refine Sb.h ?_ ?_ ?_<;>(try intro hgd)<;>try exact Xy))<;>simp -implicitDefEqProofs (maxSteps:=2000000) [hP,hN,h'])|refine X2 ?_ ?_|(refine Xd ?_ ?_<;>intro hcd<;>try exact Xx))
 |false=>
  have h' : (aW x.1 x.2 && aW y.1 y.2 && decide (max x.1 y.1≤min x.2 y.2))=false:=h
  with_reducible repeat' (first|refine Sp.h ?_|((first|refine Ss.h ?_|refine Sc.h (yN _ _ _ _) ?_|(refine Sb.h ?_ ?_ ?_<;>(try intro hgd)<;>try exact Xy))<;>simp -implicitDefEqProofs (maxSteps:=2000000) [hP,hN,h'])|refine X2 ?_ ?_|(refine Xd ?_ ?_<;>intro hcd<;>try exact Xx))
theorem vm (xs ys : List (Int × Int)) (hl : xs.length≤9223372036854775807) : am Try.prog 69 [.pv (iv xs),.pv (iv ys)] [] [] (.pv (B (bG xs ys))):=by
 refine Dp Try.func69 ?_
 intro C hP hN
 simp only [Try.f69] at hN ⊢
 with_reducible repeat' (first|refine Sp.h ?_|((first|refine Ss.h ?_|refine Sc.h (zH _ cT _ _ hl zI) ?_|(refine Sb.h ?_ ?_ ?_<;>(try intro hgd)<;>try exact Xy))<;>simp -implicitDefEqProofs (maxSteps:=2000000) [hP,hN])|refine X2 ?_ ?_|(refine Xd ?_ ?_<;>intro hcd<;>try exact Xx))
 all_goals (first|(simp_all [bG];done)|((try simp_all [bG])<;>(try omega)<;>grind))
end Go.Ab
