/- The contracts and facts that the laws of this seat need, in one text (Rd, AbG, K1, K2, K2b, KM1, KM2, AbQ, TrA, KV). -/
import Derived.Test.YtelhehdhaakiiaaGreatV4
import Derived.Test.YtelhehdhaakiiaaGreatRows
set_option linter.all false
set_option maxHeartbeats 16000000
namespace Go.Ab
open Go.Proofs Go.Proofs.YtelhehdhaakiiaaGreat
theorem own : ownKnob Tryz.prog.godebug=none:=by kernel_rfl
theorem kids : Kids Tryz.prog (·< Tryz.prog.types.size):=kids_rows (by kernel_rfl) (by kernel_rfl)
theorem full : ∀ t e,t < Tryz.prog.types.size→Tryz.prog.underlying t=some (.slice e)→0 < Tryz.prog.cellsOf e:=slices_full_of Tryz.prog (by kernel_rfl)
section
variable {H : Type}
theorem F8 : eL H Tryz.prog 3 (fun i=>.val (.int .i64 i)) (fun i=>IntKind.i64.min≤i∧i≤IntKind.i64.max) (fun _=>1):=uU Tryz.underlying3
theorem qZ : eL H Tryz.prog 34 (fun l : List Int=>.sl (l.map fun i=>.val (.int .i64 i))) (fun l=>l.length≤9223372036854775807∧∀ a ∈ l,IntKind.i64.min≤a∧a≤IntKind.i64.max) (fun l=>(l.map fun _=>1).sum+1):=dF Tryz.underlying34 F8
end
end Go.Ab
namespace Go.Ab
structure Hid (H : Prop) : Prop where
 h : H
theorem Gy {G : Prop} (h : G:=by
 with_reducible repeat' (first|refine Sp.h ?_|((first|refine Wd ?_|refine Ss.h ?_|refine Sc.h (by assumption) ?_|(refine Sb.h ?_ ?_ ?_<;>(try intro hgd)<;>try exact Xy))<;>simp -implicitDefEqProofs (maxSteps:=2000000) [hP,hN, *]<;>try refine Ya ?_)|refine X2 ?_ ?_|(refine Xd ?_ ?_<;>intro hcd<;>try exact Xx))) : G:=h
theorem Gz {G H : Prop} (x : H) (h : Hid H→G:=by
 intro hG0
 with_reducible repeat' (first|refine Sp.h ?_|((first|refine Wd ?_|refine Ss.h ?_|refine Sc.h (by assumption) ?_|(refine Sb.h ?_ ?_ ?_<;>(try intro hgd)<;>try exact Xy))<;>simp -implicitDefEqProofs (maxSteps:=2000000) [hP,hN, *]<;>try refine Ya ?_)|refine X2 ?_ ?_|(refine Xd ?_ ?_<;>intro hcd<;>try exact Xx))
 exact hG0.h) : G:=h ⟨x⟩
end Go.Ab
namespace Go.Ab
open Go.Proofs
abbrev Iv:=Int × Int
def eI (a : Int) : Int:=min (max a (-2147483648)) 2147483648
def dY (a m : Int) : Int:=-((-a) / m)
theorem bE {a b : Int} (m n : Nat) (ha : -(m : Int)≤a) (ha' : a≤m) (hb : -(n : Int)≤b) (hb' : b≤n) : -((m * n : Nat) : Int)≤a * b∧a * b≤((m * n : Nat) : Int):=by
 have h1 : (a * b).natAbs≤m * n:=by
  rw [Int.natAbs_mul]
  exact Nat.mul_le_mul (by omega) (by omega)
 omega
def ay (x y : Iv) : Iv:=if am x.1 x.2 && am y.1 y.2 then (eI (x.1+y.1),eI (x.2+y.2)) else (0,0)
def jm (x : Iv) : Iv:=if am x.1 x.2 then (-x.2,-x.1) else (0,0)
def al (x y : Iv) : Iv:=if am x.1 x.2 && am y.1 y.2 then
 (eI (min (x.1 * y.1) (min (x.1 * y.2) (min (x.2 * y.1) (x.2 * y.2))) / 65536),eI (dY (max (x.1 * y.1) (max (x.1 * y.2) (max (x.2 * y.1) (x.2 * y.2)))) 65536)) else (0,0)
def rB (x : Int) : Iv:=(eI x,eI x)
theorem eo {a b : Int} : am a b=true↔-2147483648≤a∧a≤b∧b≤2147483648:=by
 simp only [am,Bool.and_eq_true,decide_eq_true_eq]
 constructor
 ·rintro ⟨⟨h1,h2⟩,h3⟩;exact ⟨h1,h2,h3⟩
 ·rintro ⟨h1,h2,h3⟩;exact ⟨⟨h1,h2⟩,h3⟩
@[simp] theorem Kh : IntKind.i64.wrap 1=1:=by decide
@[simp] theorem Ki : IntKind.i64.wrap 2=2:=by decide
@[simp] theorem Kj : IntKind.i64.wrap 3=3:=by decide
@[simp] theorem Kk : IntKind.i64.wrap 4=4:=by decide
end Go.Ab
namespace Go.Ab
open Go.Proofs
def eR (x : Int) : Nat→Int
 |0=>1073741824
 |1=>x * 6746518852 / 65536
 |k+2=>eR x (k+1) * (x * 6746518852 / 65536) / 1073741824
def eS (x : Int) : Nat→Int
 |0=>1073741824
 |1=>dY (x * 6746518853) 65536
 |k+2=>dY (eS x (k+1) * dY (x * 6746518853) 65536) 1073741824
theorem nE {x : Int} (h0 : 0≤x) (h1 : x≤8192) : ∀ k,0≤eR x k∧eR x k≤1073741824
 |0=>by simp [eR]
 |1=>by simp only [eR];omega
 |k+2=>by
  have h:=nE h0 h1 (k+1)
  have h2 : 0≤x * 6746518852 / 65536∧x * 6746518852 / 65536≤1073741824:=by omega
  simp only [eR]
  generalize x * 6746518852 / 65536=y at *
  have h3:=Int.mul_nonneg h.1 h2.1
  have h4:=Int.mul_le_mul h.2 h2.2 h2.1 (by decide : (0 : Int)≤1073741824)
  omega
theorem nF {x : Int} (h0 : 0≤x) (h1 : x≤8192) : ∀ k,0≤eS x k∧eS x k≤1073741824
 |0=>by simp [eS]
 |1=>by simp only [eS,dY];omega
 |k+2=>by
  have h:=nF h0 h1 (k+1)
  have h2 : 0≤dY (x * 6746518853) 65536∧dY (x * 6746518853) 65536≤1073741824:=by unfold dY;omega
  simp only [eS]
  generalize dY (x * 6746518853) 65536=y at *
  have h3:=Int.mul_nonneg h.1 h2.1
  have h4:=Int.mul_le_mul h.2 h2.2 h2.1 (by decide : (0 : Int)≤1073741824)
  unfold dY
  omega
theorem uj {x : Int} (h0 : 0≤x) (h1 : x≤8192) (j : Nat) : 0≤eR x j * eR x 1∧eR x j * eR x 1≤1152921504606846976:=by
 have h:=nE h0 h1 j
 have h2:=nE h0 h1 1
 have h3:=Int.mul_nonneg h.1 h2.1
 have h4:=Int.mul_le_mul h.2 h2.2 h2.1 (by decide : (0 : Int)≤1073741824)
 omega
theorem uk {x : Int} (h0 : 0≤x) (h1 : x≤8192) (j : Nat) : 0≤eS x j * eS x 1∧eS x j * eS x 1≤1152921504606846976:=by
 have h:=nF h0 h1 j
 have h2:=nF h0 h1 1
 have h3:=Int.mul_nonneg h.1 h2.1
 have h4:=Int.mul_le_mul h.2 h2.2 h2.1 (by decide : (0 : Int)≤1073741824)
 omega
def t6 (f : Nat→Int) (n : Nat) : List AV:=[.pv (Z (if 0 < n then f 0 else 0)),.pv (Z (if 1 < n then f 1 else 0)),.pv (Z (if 2 < n then f 2 else 0)),.pv (Z (if 3 < n then f 3 else 0)),.pv (Z (if 4 < n then f 4 else 0)),.pv (Z (if 5 < n then f 5 else 0)),
 .pv (Z (if 6 < n then f 6 else 0)),.pv (Z (if 7 < n then f 7 else 0)),.pv (Z (if 8 < n then f 8 else 0)),.pv (Z (if 9 < n then f 9 else 0)),.pv (Z (if 10 < n then f 10 else 0))]
abbrev DQ (f : Nat→Int) : PV:=.val (.agg #[.int .i64 (f 0),.int .i64 (f 1),.int .i64 (f 2),.int .i64 (f 3),.int .i64 (f 4),.int .i64 (f 5),.int .i64 (f 6),.int .i64 (f 7),.int .i64 (f 8),.int .i64 (f 9),.int .i64 (f 10)])
@[simp] theorem Km : IntKind.i64.wrap 5=5:=by decide
@[simp] theorem Kn : IntKind.i64.wrap 6=6:=by decide
@[simp] theorem Ko : IntKind.i64.wrap 7=7:=by decide
@[simp] theorem Kp : IntKind.i64.wrap 8=8:=by decide
@[simp] theorem Kq : IntKind.i64.wrap 9=9:=by decide
@[simp] theorem JD : IntKind.i64.wrap 10=10:=by decide
@[simp] theorem JE : IntKind.i64.wrap 11=11:=by decide
end Go.Ab
namespace Go.Ab
open Go.Proofs
def DR (i : Nat) : Int:=if i % 2=0 then 1 else -1
def xf (xs : List Int) : Nat→Int
 |0=>0
 |i+1=>xf xs i+DR i * (xs[i]?).getD 0
def jL (xs : List Int) : Int:=xf xs xs.length
def aE (n d : Int) : Int:=(n+d - 1) / d
def um (lo hi : Int) : Iv:=(max 0 (lo / 16384),min 65536 (dY hi 16384))
def zU (f g : Nat→Int) : List Int:=[f 1,aE (g 3) 6,f 5 / 120,aE (g 7) 5040]
def zV (f g : Nat→Int) : List Int:=[g 1,f 3 / 6,aE (g 5) 120,f 7 / 5040,aE (g 9) 362880]
def CP (f g : Nat→Int) : List Int:=[1073741824,aE (g 2) 2,f 4 / 24,aE (g 6) 720,f 8 / 40320,aE (g 10) 3628800]
def CQ (f g : Nat→Int) : List Int:=[1073741824,f 2 / 2,aE (g 4) 24,f 6 / 720,aE (g 8) 40320]
def vP (x : Int) : Iv:=um (jL (zU (eR x) (eS x))) (jL (zV (eR x) (eS x)))
def zW (x : Int) : Iv:=um (jL (CP (eR x) (eS x))) (jL (CQ (eR x) (eS x)))
theorem gB {n d : Int} (h0 : 0≤n) (h1 : n≤1073741824) (hd : 1≤d) (hd' : d≤4000000) : 0≤aE n d∧aE n d≤1099511627776:=by
 unfold aE
 have hq1 : 0≤(n+d - 1) / d:=Int.ediv_nonneg (by omega) (by omega)
 have hq2 : (n+d - 1) / d≤n+d - 1:=Int.ediv_le_self _ (by omega)
 omega
theorem xg {f : Nat→Int} (hf : ∀ j,0≤f j∧f j≤1073741824) (j : Nat) {d : Int} (hd : 0 < d) : 0≤f j / d∧f j / d≤1073741824:=by
 have h:=hf j
 have hq1 : 0≤f j / d:=Int.ediv_nonneg (by omega) (by omega)
 have hq2 : f j / d≤f j:=Int.ediv_le_self _ (by omega)
 omega
def iu (r : Int) : Iv:=if r≤8192 then vP r else zW (16384 - r)
def CR (m : Int) : Iv:=if m / 16384=0 then iu (m % 16384) else if m / 16384=1 then iu (16384 - m % 16384) else if m / 16384=2 then jm (iu (m % 16384)) else jm (iu (16384 - m % 16384))
def oH (a : Int) : Iv:=CR (a % 65536)
def r5 (a : Int) : Iv:=oH (a % 65536+16384)
def tr (a : Iv) (t : Int) : Bool:=am a.1 a.2 && decide (a.1≤a.1+(t - a.1) % 65536) && decide (a.1+(t - a.1) % 65536≤a.2)
def jM (a : Iv) (v : Int→Iv) (t b : Int) : Iv:=if am a.1 a.2=false then (0,0) else if 65536≤a.2 - a.1 then (-65536,65536) else
 let h:=fZ (v a.1) (v a.2)
 let h1:=if tr a t then fZ h (rB 65536) else h
 if tr a b then fZ h1 (rB (-65536)) else h1
def oI (a : Iv) : Iv:=jM a oH 16384 49152
def oJ (a : Iv) : Iv:=jM a r5 0 32768
end Go.Ab
namespace Go.Ab
open Go.Proofs
structure SubI (x y : Iv) : Prop where
 vx : am x.1 x.2=true
 vy : am y.1 y.2=true
 lo : y.1≤x.1
 hi : x.2≤y.2
theorem f0 {x y : Iv} (h1 : -2147483648≤y.1) (h2 : y.1≤x.1) (h3 : x.1≤x.2) (h4 : x.2≤y.2) (h5 : y.2≤2147483648) : SubI x y:=⟨eo.2 (by omega),eo.2 (by omega),h2,h4⟩
theorem SubI.all {x y : Iv} (h : SubI x y) : -2147483648≤y.1∧y.1≤x.1∧x.1≤x.2∧x.2≤y.2∧y.2≤2147483648:=by
 have h1:=eo.1 h.vx
 have h2:=eo.1 h.vy
 have h3:=h.lo
 have h4:=h.hi
 omega
theorem SubI.refl {x : Iv} (h : am x.1 x.2=true) : SubI x x:=⟨h,h,Int.le_refl _,Int.le_refl _⟩
theorem SubI.trans {x y z : Iv} (h : SubI x y) (g : SubI y z) : SubI x z:=⟨h.vx,g.vy,Int.le_trans g.lo h.lo,Int.le_trans h.hi g.hi⟩
theorem AZ {x x' y y' : Iv} (hx : SubI x x') (hy : SubI y y') : SubI (ay x y) (ay x' y'):=by
 have h1:=hx.all
 have h2:=hy.all
 simp only [ay,hx.vx,hx.vy,hy.vx,hy.vy,Bool.and_self,if_true]
 apply f0<;>simp only [eI]<;>omega
theorem Oe {x x' : Iv} (hx : SubI x x') : SubI (jm x) (jm x'):=by
 have h1:=hx.all
 simp only [jm,hx.vx,hx.vy,if_true]
 apply f0<;>(try simp only [])<;>omega
theorem M4 {a b x c : Int} (h1 : a≤x) (h2 : x≤b) : min (a * c) (b * c)≤x * c∧x * c≤max (a * c) (b * c):=by
 rcases Int.le_total 0 c with h|h
 ·have g1:=Int.mul_le_mul_of_nonneg_right h1 h
  have g2:=Int.mul_le_mul_of_nonneg_right h2 h
  omega
 ·have g1:=Int.mul_le_mul_of_nonpos_right h1 h
  have g2:=Int.mul_le_mul_of_nonpos_right h2 h
  omega
theorem Nz {a b c d x y : Int} (h1 : a≤x) (h2 : x≤b) (h3 : c≤y) (h4 : y≤d) : min (a * c) (min (a * d) (min (b * c) (b * d)))≤x * y∧x * y≤max (a * c) (max (a * d) (max (b * c) (b * d))):=by
 have g1:=M4 (c:=y) h1 h2
 have g2:=M4 (c:=a) h3 h4
 have g3:=M4 (c:=b) h3 h4
 rw [Int.mul_comm c a,Int.mul_comm d a,Int.mul_comm y a] at g2
 rw [Int.mul_comm c b,Int.mul_comm d b,Int.mul_comm y b] at g3
 omega
theorem Of {x x' y y' : Iv} (hx : SubI x x') (hy : SubI y y') : SubI (al x y) (al x' y'):=by
 have h1:=hx.all
 have h2:=hy.all
 have m1:=Nz (x:=x.1) (y:=y.1) (a:=x'.1) (b:=x'.2) (c:=y'.1) (d:=y'.2) (by omega) (by omega) (by omega) (by omega)
 have m2:=Nz (x:=x.1) (y:=y.2) (a:=x'.1) (b:=x'.2) (c:=y'.1) (d:=y'.2) (by omega) (by omega) (by omega) (by omega)
 have m3:=Nz (x:=x.2) (y:=y.1) (a:=x'.1) (b:=x'.2) (c:=y'.1) (d:=y'.2) (by omega) (by omega) (by omega) (by omega)
 have m4:=Nz (x:=x.2) (y:=y.2) (a:=x'.1) (b:=x'.2) (c:=y'.1) (d:=y'.2) (by omega) (by omega) (by omega) (by omega)
 simp only [al,hx.vx,hx.vy,hy.vx,hy.vy,Bool.and_self,if_true]
 apply f0<;>simp only [eI,dY]<;>omega
theorem GG (x : Int) : SubI (rB x) (rB x):=by
 apply SubI.refl
 rw [eo]
 simp only [rB,eI]
 omega
theorem OE {x y : Iv} (hx : am x.1 x.2=true) (hy : am y.1 y.2=true) : SubI x (fZ x y):=by
 have h1:=eo.1 hx
 have h2:=eo.1 hy
 simp only [fZ,hx,hy,Bool.and_self,if_true]
 apply f0<;>(try simp only [])<;>omega
theorem GH {x y : Iv} (hx : am x.1 x.2=true) (hy : am y.1 y.2=true) : SubI y (fZ x y):=by
 have h1:=eo.1 hx
 have h2:=eo.1 hy
 simp only [fZ,hx,hy,Bool.and_self,if_true]
 apply f0<;>(try simp only [])<;>omega
theorem iI {x y z : Iv} (hx : SubI x z) (hy : SubI y z) : SubI (fZ x y) z:=by
 have h1:=hx.all
 have h2:=hy.all
 simp only [fZ,hx.vx,hy.vx,Bool.and_self,if_true]
 apply f0<;>(try simp only [])<;>omega
def EJ (t u : Nat) : Nat × Nat:=
 let a2:=t * t / 1073741824
 let a3:=a2 * t / 1073741824
 let a4:=a3 * t / 1073741824
 let a5:=a4 * t / 1073741824
 let a6:=a5 * t / 1073741824
 let a7:=a6 * t / 1073741824
 let b2:=(u * u+1073741823) / 1073741824
 let b3:=(b2 * u+1073741823) / 1073741824
 let b4:=(b3 * u+1073741823) / 1073741824
 let b5:=(b4 * u+1073741823) / 1073741824
 let b6:=(b5 * u+1073741823) / 1073741824
 let b7:=(b6 * u+1073741823) / 1073741824
 let b8:=(b7 * u+1073741823) / 1073741824
 let b9:=(b8 * u+1073741823) / 1073741824
 (((t+a5 / 120) - ((b3+5) / 6+(b7+5039) / 5040)) / 16384,((u+(b5+119) / 120+(b9+362879) / 362880) - (a3 / 6+a7 / 5040)+16383) / 16384)
def EK (t u : Nat) : Nat × Nat:=
 let a2:=t * t / 1073741824
 let a3:=a2 * t / 1073741824
 let a4:=a3 * t / 1073741824
 let a5:=a4 * t / 1073741824
 let a6:=a5 * t / 1073741824
 let a7:=a6 * t / 1073741824
 let a8:=a7 * t / 1073741824
 let b2:=(u * u+1073741823) / 1073741824
 let b3:=(b2 * u+1073741823) / 1073741824
 let b4:=(b3 * u+1073741823) / 1073741824
 let b5:=(b4 * u+1073741823) / 1073741824
 let b6:=(b5 * u+1073741823) / 1073741824
 let b7:=(b6 * u+1073741823) / 1073741824
 let b8:=(b7 * u+1073741823) / 1073741824
 let b9:=(b8 * u+1073741823) / 1073741824
 let b10:=(b9 * u+1073741823) / 1073741824
 (((1073741824+a4 / 24+a8 / 40320) - ((b2+1) / 2+(b6+719) / 720+(b10+3628799) / 3628800)) / 16384,((1073741824+(b4+23) / 24+(b8+40319) / 40320) - (a2 / 2+a6 / 720)+16383) / 16384)
def tN (x : Nat) : Nat:=x * 6746518852 / 65536
def uN (x : Nat) : Nat:=(x * 6746518853+65535) / 65536
def zG (r : Nat) : Nat × Nat:=bif Nat.ble r 8192 then EJ (tN r) (uN r) else EK (tN (16384 - r)) (uN (16384 - r))
def Ou (r : Nat) : Bool:=(Nat.ble (zG r).1 (zG (r+1)).1).and ((Nat.ble (zG r).2 (zG (r+1)).2).and ((Nat.ble (zG r).1 (zG r).2).and (Nat.ble (zG r).1 65536)))
def t7 (s : Nat) : Nat→Bool
 |0=>true
 |n+1=>(Ou (s+n)).and (t7 s n)
theorem ld {s : Nat} : ∀ {n : Nat},t7 s n=true→∀ i,i < n→Ou (s+i)=true
 |0,_,i,hi=>by omega
 |n+1,h,i,hi=>by
  simp only [t7,Bool.and_eq_true] at h
  by_cases he : i=n
  ·subst he;exact h.1
  ·exact ld h.2 i (by omega)
def aN (t : Nat) : Nat→Nat
 |0=>1073741824
 |1=>t
 |k+2=>aN t (k+1) * t / 1073741824
def ql (u : Nat) : Nat→Nat
 |0=>1073741824
 |1=>u
 |k+2=>(ql u (k+1) * u+1073741823) / 1073741824
theorem O0 (n : Nat) : dY (n : Int) 1073741824=(((n+1073741823) / 1073741824 : Nat) : Int):=by unfold dY;omega
theorem Cn (x : Nat) : ∀ k,eR (x : Int) k=((aN (tN x) k : Nat) : Int)
 |0=>rfl
 |1=>by simp only [eR,aN,tN];omega
 |k+2=>by
  have ih:=Cn x (k+1)
  have h1:=Cn x 1
  simp only [eR,aN] at h1 ih ⊢
  rw [ih,h1,← Int.natCast_mul]
  generalize aN (tN x) (k+1) * tN x=p
  omega
theorem Cp (x : Nat) : ∀ k,eS (x : Int) k=((ql (uN x) k : Nat) : Int)
 |0=>rfl
 |1=>by simp only [eS,ql,uN,dY];omega
 |k+2=>by
  have ih:=Cp x (k+1)
  have h1:=Cp x 1
  simp only [eS,ql] at h1 ih ⊢
  rw [ih,h1,← Int.natCast_mul]
  generalize ql (uN x) (k+1) * uN x=p
  exact O0 p
theorem EL (t : Nat) (ht : t≤1073741824) : ∀ k,aN t (k+1)≤t
 |0=>Nat.le_refl _
 |k+1=>by
  have ih:=EL t ht k
  simp only [aN]
  exact Nat.div_le_of_le_mul (Nat.mul_le_mul_right t (by omega))
theorem Cq {x : Nat} (h : x≤8192) : tN x≤1073741824∧tN x≤uN x:=by unfold tN uN;omega
theorem EM (b d : Nat) (hd : 0 < d) : ((b : Int)+d - 1) / d=(((b+(d - 1)) / d : Nat) : Int):=by
 rw [show (b : Int)+d - 1=((b+(d - 1) : Nat) : Int) by omega,Int.natCast_ediv]
theorem O8 (p n : Nat) : max 0 (((p : Int) - n) / 16384)=(((p - n) / 16384 : Nat) : Int):=by omega
theorem O9 (p n : Nat) (h : n≤p) : dY ((p : Int) - n) 16384=(((p - n+16383) / 16384 : Nat) : Int):=by unfold dY;omega
theorem Og (a1 a3 a5 a7 b1 b3 b5 b7 b9 : Nat) (h : a3 / 6+a7 / 5040≤b1) : um ((a1 : Int) - aE b3 6+(a5 : Int) / 120 - aE b7 5040) ((b1 : Int) - (a3 : Int) / 6+aE b5 120 - (a7 : Int) / 5040+aE b9 362880)=
 (((((a1+a5 / 120) - ((b3+5) / 6+(b7+5039) / 5040)) / 16384 : Nat) : Int),min 65536 ((((b1+(b5+119) / 120+(b9+362879) / 362880) - (a3 / 6+a7 / 5040)+16383) / 16384 : Nat) : Int)):=by
 have c3 : aE b3 6=(((b3+5) / 6 : Nat) : Int):=EM b3 6 (by decide)
 have c5 : aE b5 120=(((b5+119) / 120 : Nat) : Int):=EM b5 120 (by decide)
 have c7 : aE b7 5040=(((b7+5039) / 5040 : Nat) : Int):=EM b7 5040 (by decide)
 have c9 : aE b9 362880=(((b9+362879) / 362880 : Nat) : Int):=EM b9 362880 (by decide)
 have d3 : (a3 : Int) / 6=((a3 / 6 : Nat) : Int):=(Int.natCast_ediv a3 6).symm
 have d5 : (a5 : Int) / 120=((a5 / 120 : Nat) : Int):=(Int.natCast_ediv a5 120).symm
 have d7 : (a7 : Int) / 5040=((a7 / 5040 : Nat) : Int):=(Int.natCast_ediv a7 5040).symm
 rw [c3,c5,c7,c9,d3,d5,d7]
 generalize (b3+5) / 6=x3 at *
 generalize (b5+119) / 120=x5 at *
 generalize (b7+5039) / 5040=x7 at *
 generalize (b9+362879) / 362880=x9 at *
 generalize a3 / 6=y3 at *
 generalize a5 / 120=y5 at *
 generalize a7 / 5040=y7 at *
 unfold um
 rw [show (a1 : Int) - x3+y5 - x7=((a1+y5 : Nat) : Int) - ((x3+x7 : Nat) : Int) by omega,show (b1 : Int) - y3+x5 - y7+x9=((b1+x5+x9 : Nat) : Int) - ((y3+y7 : Nat) : Int) by omega,O8,O9 _ _ (by omega)]
theorem Oh (a2 a4 a6 a8 b2 b4 b6 b8 b10 : Nat) (h : a2 / 2+a6 / 720≤1073741824) : um (1073741824 - aE b2 2+(a4 : Int) / 24 - aE b6 720+(a8 : Int) / 40320 - aE b10 3628800) (1073741824 - (a2 : Int) / 2+aE b4 24 - (a6 : Int) / 720+aE b8 40320)=
 (((((1073741824+a4 / 24+a8 / 40320) - ((b2+1) / 2+(b6+719) / 720+(b10+3628799) / 3628800)) / 16384 : Nat) : Int),min 65536 ((((1073741824+(b4+23) / 24+(b8+40319) / 40320) - (a2 / 2+a6 / 720)+16383) / 16384 : Nat) : Int)):=by
 have c2 : aE b2 2=(((b2+1) / 2 : Nat) : Int):=EM b2 2 (by decide)
 have c4 : aE b4 24=(((b4+23) / 24 : Nat) : Int):=EM b4 24 (by decide)
 have c6 : aE b6 720=(((b6+719) / 720 : Nat) : Int):=EM b6 720 (by decide)
 have c8 : aE b8 40320=(((b8+40319) / 40320 : Nat) : Int):=EM b8 40320 (by decide)
 have c10 : aE b10 3628800=(((b10+3628799) / 3628800 : Nat) : Int):=EM b10 3628800 (by decide)
 have d2 : (a2 : Int) / 2=((a2 / 2 : Nat) : Int):=(Int.natCast_ediv a2 2).symm
 have d4 : (a4 : Int) / 24=((a4 / 24 : Nat) : Int):=(Int.natCast_ediv a4 24).symm
 have d6 : (a6 : Int) / 720=((a6 / 720 : Nat) : Int):=(Int.natCast_ediv a6 720).symm
 have d8 : (a8 : Int) / 40320=((a8 / 40320 : Nat) : Int):=(Int.natCast_ediv a8 40320).symm
 rw [c2,c4,c6,c8,c10,d2,d4,d6,d8]
 generalize (b2+1) / 2=x2 at *
 generalize (b4+23) / 24=x4 at *
 generalize (b6+719) / 720=x6 at *
 generalize (b8+40319) / 40320=x8 at *
 generalize (b10+3628799) / 3628800=x10 at *
 generalize a2 / 2=y2 at *
 generalize a4 / 24=y4 at *
 generalize a6 / 720=y6 at *
 generalize a8 / 40320=y8 at *
 unfold um
 rw [show (1073741824 : Int) - x2+y4 - x6+y8 - x10=((1073741824+y4+y8 : Nat) : Int) - ((x2+x6+x10 : Nat) : Int) by omega,show (1073741824 : Int) - y2+x4 - y6+x8=((1073741824+x4+x8 : Nat) : Int) - ((y2+y6 : Nat) : Int) by omega,O8,O9 _ _ (by omega)]
theorem OF (t u : Nat) : EJ t u=(((aN t 1+aN t 5 / 120) - ((ql u 3+5) / 6+(ql u 7+5039) / 5040)) / 16384,((ql u 1+(ql u 5+119) / 120+(ql u 9+362879) / 362880) - (aN t 3 / 6+aN t 7 / 5040)+16383) / 16384):=by
 simp only [EJ,aN,ql]
theorem OG (t u : Nat) : EK t u=(((1073741824+aN t 4 / 24+aN t 8 / 40320) - ((ql u 2+1) / 2+(ql u 6+719) / 720+(ql u 10+3628799) / 3628800)) / 16384,((1073741824+(ql u 4+23) / 24+(ql u 8+40319) / 40320) - (aN t 2 / 2+aN t 6 / 720)+16383) / 16384):=by
 simp only [EK,aN,ql]
theorem H5 (a b c d : Int) : jL [a,b,c,d]=a - b+c - d:=by simp [jL,xf,DR];omega
theorem FI (a b c d e : Int) : jL [a,b,c,d,e]=a - b+c - d+e:=by simp [jL,xf,DR];omega
theorem H6 (a b c d e f : Int) : jL [a,b,c,d,e,f]=a - b+c - d+e - f:=by simp [jL,xf,DR];omega
theorem OH {x : Nat} (h : x≤8192) : vP (x : Int)=(((EJ (tN x) (uN x)).1 : Int),min 65536 ((EJ (tN x) (uN x)).2 : Int)):=by
 have h3:=EL (tN x) (Cq h).1 2
 have h7:=EL (tN x) (Cq h).1 6
 have hu:=(Cq h).2
 have hb : ql (uN x) 1=uN x:=rfl
 rw [OF]
 simp only [vP,zU,zV,H5,FI,Cn,Cp]
 exact Og _ _ _ _ _ _ _ _ _ (by simp only [Nat.reduceAdd] at h3 h7;rw [hb];omega)
theorem OI {x : Nat} (h : x≤8192) : zW (x : Int)=(((EK (tN x) (uN x)).1 : Int),min 65536 ((EK (tN x) (uN x)).2 : Int)):=by
 have h3:=EL (tN x) (Cq h).1 1
 have h7:=EL (tN x) (Cq h).1 5
 have hu:=(Cq h).1
 rw [OG]
 simp only [zW,CP,CQ,FI,H6,Cn,Cp]
 exact Oh _ _ _ _ _ _ _ _ _ (by simp only [Nat.reduceAdd] at h3 h7;omega)
theorem Jt {r : Nat} (h : r≤16384) : iu (r : Int)=(((zG r).1 : Int),min 65536 ((zG r).2 : Int)):=by
 unfold iu zG
 by_cases hr : r≤8192
 ·rw [if_pos (by omega),show Nat.ble r 8192=true from Nat.ble_eq_true_of_le hr]
  exact OH hr
 ·rw [if_neg (by omega)]
  have : Nat.ble r 8192=false:=by
   cases hb : Nat.ble r 8192 with
   |false=>rfl
   |true=>exact absurd (Nat.le_of_ble_eq_true hb) hr
  rw [this,show (16384 : Int) - (r : Int)=((16384 - r : Nat) : Int) by omega]
  exact OI (by omega)
end Go.Ab
namespace Go.Ab
open Go.Proofs
set_option maxRecDepth 100000
theorem Pd : t7 0 2048=true:=by decide +kernel
theorem Pe : t7 2048 2048=true:=by decide +kernel
theorem Pf : t7 4096 2048=true:=by decide +kernel
theorem Pg : t7 6144 2048=true:=by decide +kernel
theorem Ph : t7 8192 2048=true:=by decide +kernel
theorem Pi : t7 10240 2048=true:=by decide +kernel
theorem Pj : t7 12288 2048=true:=by decide +kernel
theorem Pk : t7 14336 2048=true:=by decide +kernel
theorem O1 {r : Nat} (h : r < 16384) : Ou r=true:=by
 by_cases c1 : r < 2048
 ·exact (show 0+r=r by omega) ▸ ld Pd r c1
 by_cases c2 : r < 4096
 ·exact (show 2048+(r - 2048)=r by omega) ▸ ld Pe (r - 2048) (by omega)
 by_cases c3 : r < 6144
 ·exact (show 4096+(r - 4096)=r by omega) ▸ ld Pf (r - 4096) (by omega)
 by_cases c4 : r < 8192
 ·exact (show 6144+(r - 6144)=r by omega) ▸ ld Pg (r - 6144) (by omega)
 by_cases c5 : r < 10240
 ·exact (show 8192+(r - 8192)=r by omega) ▸ ld Ph (r - 8192) (by omega)
 by_cases c6 : r < 12288
 ·exact (show 10240+(r - 10240)=r by omega) ▸ ld Pi (r - 10240) (by omega)
 by_cases c7 : r < 14336
 ·exact (show 12288+(r - 12288)=r by omega) ▸ ld Pj (r - 12288) (by omega)
 by_cases c8 : r < 16384
 ·exact (show 14336+(r - 14336)=r by omega) ▸ ld Pk (r - 14336) (by omega)
 omega
theorem Nm {r : Nat} (h : r < 16384) : 0≤(iu r).1∧(iu r).1≤(iu r).2∧(iu r).2≤65536∧(iu r).1≤(iu ((r+1 : Nat) : Int)).1∧(iu r).2≤(iu ((r+1 : Nat) : Int)).2:=by
 have:=O1 h
 simp only [Ou,Bool.and_eq_true] at this
 have h1:=Nat.le_of_ble_eq_true this.1
 have h2:=Nat.le_of_ble_eq_true this.2.1
 have h3:=Nat.le_of_ble_eq_true this.2.2.1
 have h4:=Nat.le_of_ble_eq_true this.2.2.2
 rw [Jt (r:=r) (by omega),Jt (r:=r+1) (by omega)]
 simp only []
 omega
theorem NU : iu 16384=(65536,65536):=by decide +kernel
theorem NA : iu 0=(0,0):=by decide +kernel
theorem qS {r : Int} (h0 : 0≤r) (h : r≤16384) : 0≤(iu r).1∧(iu r).1≤(iu r).2∧(iu r).2≤65536:=by
 by_cases he : r=16384
 ·subst he;rw [NU];simp
 ·have:=Nm (r:=r.toNat) (by omega)
  simp only [show ((r.toNat : Nat) : Int)=r by omega] at this
  omega
theorem EN (r : Nat) : ∀ k : Nat,r+k≤16384→(iu r).1≤(iu ((r+k : Nat) : Int)).1∧(iu r).2≤(iu ((r+k : Nat) : Int)).2
 |0,_=>⟨Int.le_refl _,Int.le_refl _⟩
 |k+1,h=>by
  have h1:=EN r k (by omega)
  have:=Nm (r:=r+k) (by omega)
  rw [show r+(k+1)=r+k+1 by omega]
  omega
theorem M5 {a b : Int} (h0 : 0≤a) (h1 : a≤b) (h2 : b≤16384) : (iu a).1≤(iu b).1∧(iu a).2≤(iu b).2:=by
 have:=EN a.toNat (b - a).toNat (by omega)
 rw [show ((a.toNat+(b - a).toNat : Nat) : Int)=b by omega,show ((a.toNat : Nat) : Int)=a by omega] at this
 exact this
def sS (m : Int) : Iv:=if 0≤m then iu m else jm (iu (-m))
theorem A9 {r : Int} (h0 : 0≤r) (h : r≤16384) : jm (iu r)=(-(iu r).2,-(iu r).1):=by
 have h1:=qS h0 h
 have : am (iu r).1 (iu r).2=true:=eo.2 (by omega)
 simp only [jm,this,if_true]
theorem NV {m : Int} (h0 : -16384≤m) (h1 : m≤16384) : -65536≤(sS m).1∧(sS m).1≤(sS m).2∧(sS m).2≤65536:=by
 unfold sS
 split
 ·have:=qS (r:=m) (by omega) (by omega);omega
 ·have:=qS (r:=-m) (by omega) (by omega)
  rw [A9 (by omega) (by omega)]
  try simp only []
  omega
theorem MV {a b : Int} (h0 : -16384≤a) (h1 : a≤b) (h2 : b≤16384) : (sS a).1≤(sS b).1∧(sS a).2≤(sS b).2:=by
 unfold sS
 by_cases ha : 0≤a
 ·rw [if_pos ha,if_pos (by omega)]
  exact M5 ha h1 h2
 ·rw [if_neg ha]
  have r1:=qS (r:=-a) (by omega) (by omega)
  rw [A9 (r:=-a) (by omega) (by omega)]
  by_cases hb : 0≤b
  ·rw [if_pos hb]
   have r2:=qS (r:=b) (by omega) (by omega)
   try simp only []
   omega
  ·rw [if_neg hb,A9 (r:=-b) (by omega) (by omega)]
   have:=M5 (a:=-b) (b:=-a) (by omega) (by omega) (by omega)
   try simp only []
   omega
theorem BI {x k : Int} (h0 : -16384≤x - 65536 * k) (h1 : x - 65536 * k≤16384) : oH x=sS (x - 65536 * k):=by
 unfold oH sS
 by_cases hp : 0≤x - 65536 * k
 ·rw [if_pos hp,show x % 65536=x - 65536 * k by omega]
  generalize x - 65536 * k=d at *
  unfold CR
  by_cases he : d=16384
  ·subst he;rfl
  ·rw [if_pos (by omega),show d % 16384=d by omega]
 ·rw [if_neg hp,show x % 65536=x - 65536 * k+65536 by omega]
  generalize x - 65536 * k=d at *
  unfold CR
  rw [if_neg (by omega),if_neg (by omega),if_neg (by omega),show 16384 - (d+65536) % 16384=-d by omega]
theorem Ch {x k : Int} (h0 : 16384≤x - 65536 * k) (h1 : x - 65536 * k≤49152) : oH x=sS (32768 - (x - 65536 * k)):=by
 unfold oH sS
 rw [show x % 65536=x - 65536 * k by omega]
 generalize x - 65536 * k=d at *
 unfold CR
 by_cases h : d < 32768
 ·rw [if_pos (show 0≤32768 - d by omega),if_neg (by omega),if_pos (by omega),show 16384 - d % 16384=32768 - d by omega]
 ·by_cases he : d=32768
  ·subst he
   show jm (iu 0)=iu 0
   rw [NA];rfl
  ·rw [if_neg (show ¬ 0≤32768 - d by omega),show -(32768 - d)=d - 32768 by omega]
   by_cases hf : d=49152
   ·subst hf;rfl
   ·rw [if_neg (by omega),if_neg (by omega),if_pos (by omega),show d % 16384=d - 32768 by omega]
theorem Nn (x : Int) : -65536≤(oH x).1∧(oH x).1≤(oH x).2∧(oH x).2≤65536:=by
 by_cases h : x - 65536 * ((x+16384) / 65536)≤16384
 ·rw [BI (k:=(x+16384) / 65536) (by omega) h]
  exact NV (by omega) (by omega)
 ·rw [Ch (k:=(x+16384) / 65536) (by omega) (by omega)]
  exact NV (by omega) (by omega)
theorem OU {lo x hi : Int} (h1 : lo≤x) (h2 : x≤hi) (hn : ∀ n,lo≤n→n≤hi→n % 65536≠16384) : (oH x).2≤max (oH lo).2 (oH hi).2:=by
 by_cases h : x - 65536 * ((x+16384) / 65536)≤16384
 ·have hp:=hn (65536 * ((x+16384) / 65536)+16384) (by omega)
  have hh : hi < 65536 * ((x+16384) / 65536)+16384:=by
   have : (65536 * ((x+16384) / 65536)+16384) % 65536=16384:=by omega
   by_cases hc : 65536 * ((x+16384) / 65536)+16384≤hi
   ·exact absurd this (hp hc)
   ·omega
  rw [BI (x:=x) (k:=(x+16384) / 65536) (by omega) h,BI (x:=hi) (k:=(x+16384) / 65536) (by omega) (by omega)]
  have:=MV (a:=x - 65536 * ((x+16384) / 65536)) (b:=hi - 65536 * ((x+16384) / 65536)) (by omega) (by omega) (by omega)
  omega
 ·have hp:=hn (65536 * ((x+16384) / 65536)+16384)
  have hh : 65536 * ((x+16384) / 65536)+16384 < lo:=by
   have : (65536 * ((x+16384) / 65536)+16384) % 65536=16384:=by omega
   by_cases hc : lo≤65536 * ((x+16384) / 65536)+16384
   ·exact absurd this (hp hc (by omega))
   ·omega
  rw [Ch (x:=x) (k:=(x+16384) / 65536) (by omega) (by omega),Ch (x:=lo) (k:=(x+16384) / 65536) (by omega) (by omega)]
  have:=MV (a:=32768 - (x - 65536 * ((x+16384) / 65536))) (b:=32768 - (lo - 65536 * ((x+16384) / 65536))) (by omega) (by omega) (by omega)
  omega
theorem OV {lo x hi : Int} (h1 : lo≤x) (h2 : x≤hi) (hn : ∀ n,lo≤n→n≤hi→n % 65536≠49152) : min (oH lo).1 (oH hi).1≤(oH x).1:=by
 by_cases h : x - 65536 * ((x+16384) / 65536)≤16384
 ·have hp:=hn (65536 * ((x+16384) / 65536) - 16384)
  have hh : 65536 * ((x+16384) / 65536) - 16384 < lo:=by
   have : (65536 * ((x+16384) / 65536) - 16384) % 65536=49152:=by omega
   by_cases hc : lo≤65536 * ((x+16384) / 65536) - 16384
   ·exact absurd this (hp hc (by omega))
   ·omega
  rw [BI (x:=x) (k:=(x+16384) / 65536) (by omega) h,BI (x:=lo) (k:=(x+16384) / 65536) (by omega) (by omega)]
  have:=MV (a:=lo - 65536 * ((x+16384) / 65536)) (b:=x - 65536 * ((x+16384) / 65536)) (by omega) (by omega) (by omega)
  omega
 ·have hp:=hn (65536 * ((x+16384) / 65536)+49152) (by omega)
  have hh : hi < 65536 * ((x+16384) / 65536)+49152:=by
   have : (65536 * ((x+16384) / 65536)+49152) % 65536=49152:=by omega
   by_cases hc : 65536 * ((x+16384) / 65536)+49152≤hi
   ·exact absurd this (hp hc)
   ·omega
  rw [Ch (x:=x) (k:=(x+16384) / 65536) (by omega) (by omega),Ch (x:=hi) (k:=(x+16384) / 65536) (by omega) (by omega)]
  have:=MV (a:=32768 - (hi - 65536 * ((x+16384) / 65536))) (b:=32768 - (x - 65536 * ((x+16384) / 65536))) (by omega) (by omega) (by omega)
  omega
theorem G1 {a : Iv} {t n : Int} (ha : am a.1 a.2=true) (h1 : a.1≤n) (h2 : n≤a.2) (h : (n - t) % 65536=0) : tr a t=true:=by
 simp only [tr,ha,Bool.true_and,Bool.and_eq_true,decide_eq_true_eq]
 omega
theorem EO {a b : Iv} {t : Int} (h : SubI a b) (hm : tr a t=true) : tr b t=true:=by
 have:=h.all
 simp only [tr,h.vx,Bool.true_and,Bool.and_eq_true,decide_eq_true_eq] at hm
 exact G1 (n:=a.1+(t - a.1) % 65536) h.vy (by omega) (by omega) (by omega)
theorem Pa : rB 65536=(65536,65536):=by decide
theorem OW : rB (-65536)=(-65536,-65536):=by decide
section over
variable {v : Int→Iv} {c t u : Int}
theorem uB {a : Iv} (ha : am a.1 a.2=true) (hw : a.2 - a.1 < 65536) : jM a v t u=(let h1:=if tr a t then fZ (fZ (v a.1) (v a.2)) (rB 65536) else fZ (v a.1) (v a.2);if tr a u then fZ h1 (rB (-65536)) else h1):=by
 unfold jM
 rw [if_neg (by simp [ha]),if_neg (by omega)]
theorem DE {a : Iv} (ha : am a.1 a.2=true) (hw : 65536≤a.2 - a.1) : jM a v t u=(-65536,65536):=by
 unfold jM
 rw [if_neg (by simp [ha]),if_pos hw]
theorem Np (hv : ∀ x,v x=oH (x+c)) (ht : (t+c - 16384) % 65536=0) (hu : (u+c - 49152) % 65536=0) {a : Iv} (ha : am a.1 a.2=true) {x : Int} (h1 : a.1≤x) (h2 : x≤a.2) : SubI (v x) (jM a v t u):=by
 have r0 : ∀ x,-65536≤(v x).1∧(v x).1≤(v x).2∧(v x).2≤65536:=fun x=>by rw [hv];exact Nn _
 have rx:=r0 x
 have ra:=r0 a.1
 have rb:=r0 a.2
 by_cases hw : 65536≤a.2 - a.1
 ·rw [DE ha hw]
  apply f0<;>(try simp only [])<;>omega
 ·have va : am (v a.1).1 (v a.1).2=true:=eo.2 (by omega)
  have vb : am (v a.2).1 (v a.2).2=true:=eo.2 (by omega)
  have hH : tr a t=false→(v x).2≤max (v a.1).2 (v a.2).2:=fun hm=>by
   rw [hv,hv,hv]
   refine OU (by omega) (by omega) fun n n1 n2 hn=>?_
   rw [G1 (n:=n - c) ha (by omega) (by omega) (by omega)] at hm
   cases hm
  have hL : tr a u=false→min (v a.1).1 (v a.2).1≤(v x).1:=fun hm=>by
   rw [hv,hv,hv]
   refine OV (by omega) (by omega) fun n n1 n2 hn=>?_
   rw [G1 (n:=n - c) ha (by omega) (by omega) (by omega)] at hm
   cases hm
  have hh : fZ (v a.1) (v a.2)=(min (v a.1).1 (v a.2).1,max (v a.1).2 (v a.2).2):=by simp only [fZ,va,vb,Bool.and_self,if_true]
  have vh : am (fZ (v a.1) (v a.2)).1 (fZ (v a.1) (v a.2)).2=true:=by rw [hh,eo];simp only [];omega
  have hP : fZ (fZ (v a.1) (v a.2)) (rB 65536)=(min (v a.1).1 (v a.2).1,65536):=by
   rw [Pa]
   unfold fZ at *
   simp only [va,vb,Bool.and_self,if_true] at vh ⊢
   rw [vh]
   simp only [show am 65536 65536=true from rfl,Bool.and_self,if_true]
   ext<;>(try simp only [])<;>omega
  rw [uB ha (by omega)]
  try simp only []
  cases hm : tr a t with
  |true=>
   simp only [if_true]
   rw [hP]
   cases hk : tr a u with
   |true=>
    simp only [if_true]
    have : fZ (min (v a.1).1 (v a.2).1,65536) (rB (-65536))=(-65536,65536):=by
     rw [OW]
     have : am (min (v a.1).1 (v a.2).1) 65536=true:=eo.2 (by omega)
     simp only [fZ,this,show am (-65536) (-65536)=true from rfl,Bool.and_self,if_true]
     ext<;>(try simp only [])<;>omega
    rw [this]
    apply f0<;>(try simp only [])<;>omega
   |false=>
    have:=hL hk
    simp only [Bool.false_eq_true,if_false]
    apply f0<;>(try simp only [])<;>omega
  |false=>
   have h3:=hH hm
   simp only [Bool.false_eq_true,if_false]
   cases hk : tr a u with
   |true=>
    simp only [if_true]
    have : fZ (fZ (v a.1) (v a.2)) (rB (-65536))=(-65536,max (v a.1).2 (v a.2).2):=by
     rw [OW,hh]
     have : am (min (v a.1).1 (v a.2).1) (max (v a.1).2 (v a.2).2)=true:=eo.2 (by omega)
     simp only [fZ,this,show am (-65536) (-65536)=true from rfl,Bool.and_self,if_true]
     ext<;>(try simp only [])<;>omega
    rw [this]
    apply f0<;>(try simp only [])<;>omega
   |false=>
    have:=hL hk
    simp only [Bool.false_eq_true,if_false]
    rw [hh]
    apply f0<;>(try simp only [])<;>omega
theorem M6 (hv : ∀ x,v x=oH (x+c)) (ht : (t+c - 16384) % 65536=0) (hu : (u+c - 49152) % 65536=0) {a b : Iv} (h : SubI a b) : SubI (jM a v t u) (jM b v t u):=by
 have r0 : ∀ x,-65536≤(v x).1∧(v x).1≤(v x).2∧(v x).2≤65536:=fun x=>by rw [hv];exact Nn _
 have hab:=h.all
 have vA : ∀ x,am (v x).1 (v x).2=true:=fun x=>eo.2 (by have:=r0 x;omega)
 have sF : ∀ x,SubI (v x) (-65536,65536):=fun x=>by have:=r0 x;apply f0<;>(try simp only [])<;>omega
 have sO : SubI (rB 65536) (-65536,65536):=by rw [Pa];apply f0<;>(try simp only [])<;>omega
 have sN : SubI (rB (-65536)) (-65536,65536):=by rw [OW];apply f0<;>(try simp only [])<;>omega
 by_cases hw : 65536≤b.2 - b.1
 ·rw [DE h.vy hw]
  by_cases hw' : 65536≤a.2 - a.1
  ·rw [DE h.vx hw'];exact SubI.refl rfl
  ·rw [uB h.vx (by omega)]
   try simp only []
   have s1:=iI (sF a.1) (sF a.2)
   have s2:=iI s1 sO
   split
   ·split
    ·exact iI s2 sN
    ·exact iI s1 sN
   ·split
    ·exact s2
    ·exact s1
 ·have i1:=Np hv ht hu h.vy (x:=a.1) (by omega) (by omega)
  have i2:=Np hv ht hu h.vy (x:=a.2) (by omega) (by omega)
  have s1:=iI i1 i2
  have b1:=iI (sF b.1) (sF b.2)
  have b2:=iI b1 sO
  have sT : tr a t=true→SubI (rB 65536) (jM b v t u):=fun hm=>by
   rw [uB h.vy (by omega)]
   simp only [EO h hm,if_true]
   have g:=GH b1.vx sO.vx
   split
   ·exact g.trans (OE b2.vx sN.vx)
   ·exact g
  have sU : tr a u=true→SubI (rB (-65536)) (jM b v t u):=fun hm=>by
   rw [uB h.vy (by omega)]
   simp only [EO h hm,if_true]
   split
   ·exact GH b2.vx sN.vx
   ·exact GH b1.vx sN.vx
  rw [uB h.vx (by omega)]
  try simp only []
  cases hm : tr a t with
  |true=>
   have s2:=iI s1 (sT hm)
   simp only [if_true]
   split
   ·rename_i hk;exact iI s2 (sU hk)
   ·exact s2
  |false=>
   simp only [Bool.false_eq_true,if_false]
   split
   ·rename_i hk;exact iI s1 (sU hk)
   ·exact s1
end over
theorem Oi {x y : Int} (h : (x - y) % 65536=0) : oH x=oH y:=by
 unfold oH
 rw [show x % 65536=y % 65536 by omega]
theorem Oj {a b : Iv} (h : SubI a b) : SubI (oI a) (oI b):=M6 (v:=oH) (c:=0) (fun x=>by rw [Int.add_zero]) (by decide) (by decide) h
theorem Ok {a b : Iv} (h : SubI a b) : SubI (oJ a) (oJ b):=M6 (v:=r5) (c:=16384) (fun x=>by unfold r5;exact Oi (by omega)) (by decide) (by decide) h
end Go.Ab
namespace Go.Ab
theorem qk {m n : Nat} (_ : m=n) (a : Array Value) : ∀ k,k < n→k < a.size+(n - a.size):=by intro k h;omega
theorem E2 {P : Program} {g : FuncId} (h : er P g:=by
 refine ⟨by kernel_rfl,fun args w=>?_⟩
 refine callsD_of_wpS hf rfl fun c₀ cs hu=>?_
 apply wpS_seq
 apply wpS_region
 have hk:=qk nt args
 have h0:=hk 0 (by decide)
 have h1:=hk 1 (by decide)
 have h2:=hk 2 (by decide)
 simp [wpOpsS,go_sem,recoverD,hu,nt,Exit.thenS,h0,h1,h2]
 refine wpS_cond (t:=false) (by simp [Act.eval,h0,h1,h2]) ?_
 simp only [Bool.false_eq_true,if_false]
 refine wpS_of_wp (wp_skip ?_)
 cases c₀
 simp_all [bodyPostS,results,rs]) : er P g:=h
theorem E3 {P : Program} {g : FuncId} (h : er P g:=by
 refine ⟨by kernel_rfl,fun args w=>?_⟩
 refine callsD_of_wpS hf rfl fun c₀ cs hu=>?_
 apply wpS_seq
 apply wpS_region
 have hk:=qk nt args
 have h0:=hk 0 (by decide)
 have h1:=hk 1 (by decide)
 have h2:=hk 2 (by decide)
 have h3:=hk 3 (by decide)
 simp [wpOpsS,go_sem,recoverD,hu,nt,Exit.thenS,h0,h1,h2,h3]
 refine wpS_cond (t:=false) (by simp [Act.eval,h0,h1,h2,h3]) ?_
 simp only [Bool.false_eq_true,if_false]
 refine wpS_of_wp (wp_skip ?_)
 cases c₀
 simp_all [bodyPostS,results,rs]) : er P g:=h
end Go.Ab
namespace Go.Ab
open Go.Proofs
structure Verd where
 kind : Int
 nor : List (Int × Int × Int)
 pair : Int
 left : List Int
 right : List Int
structure Cel where
 joint : Int
 low : Int
 high : Int
 v : Verd
structure Tr where
 root : List (Int × Int)
 cells : List Cel
abbrev aH (v : Int × Int × Int) : PV:=.val (.agg #[.int .i64 v.1,.int .i64 v.2.1,.int .i64 v.2.2])
abbrev aR (l : List (Int × Int × Int)) : PV:=.sl (l.map aH)
abbrev Gb (p : Int) (l r : List Int) : PV:=.agg [Z p,zs l,zs r]
abbrev rc (v : Verd) : PV:=.agg [Z v.kind,aR v.nor,Z v.pair,zs v.left,zs v.right]
abbrev cT (c : Cel) : PV:=.agg [Z c.joint,Z c.low,Z c.high,Z c.v.kind,aR c.v.nor,Z c.v.pair,zs c.v.left,zs c.v.right]
abbrev dc (t : Tr) : PV:=.agg [iv t.root,.sl (t.cells.map cT)]
def bM (c : Cel) : Bool:=c.joint==-1 && c.low==-1 && c.high==-1
def gk (p : Int) (l r : List Int) : Bool:=p==0 && (l.length : Int)==0 && (r.length : Int)==0
def bX (v : Verd) : Bool:=if v.kind=0∨v.kind=1 then gk v.pair v.left v.right else if v.kind=2 then ((v.nor.length : Int)==0) else false
def jT (v : Verd) : Bool:=v.kind==0 && ((v.nor.length : Int)==0) && gk v.pair v.left v.right
theorem xv {α : Type} (l : List α) : ((l.length : Int)==0)=decide (l.length=0):=by
 by_cases h : l.length=0
 ·simp [h]
 ·have : ((l.length : Int)==0)=false:=by simp;intro h';exact h (by rw [h'];rfl)
  rw [this];simp [h]
theorem ID (c : Cel) : ab Tryz.prog 157 [.pv (cT c)] [] [] (.pv (B (bM c))):=by
 refine Dp Tryz.func157 ?_
 intro C hP hN
 simp only [Tryz.f157] at hN ⊢
 with_reducible repeat' (first|refine Sp.h ?_|((first|refine Ss.h ?_|(refine Sb.h ?_ ?_ ?_<;>(try intro hgd)<;>try exact Xy))<;>simp -implicitDefEqProofs (maxSteps:=2000000) [hP,hN])|refine X2 ?_ ?_|(refine Xd ?_ ?_<;>intro hcd<;>try exact Xx))
 all_goals (simp_all [bM])
theorem BL (c : Cel) : ab Tryz.prog 48 [.pv (cT c)] [] [] (.pv (B (bM c))):=by
 refine Dp Tryz.func48 ?_
 intro C hP hN
 simp only [Tryz.f48] at hN ⊢
 with_reducible repeat' (first|refine Sp.h ?_|((first|refine Ss.h ?_|(refine Sb.h ?_ ?_ ?_<;>(try intro hgd)<;>try exact Xy))<;>simp -implicitDefEqProofs (maxSteps:=2000000) [hP,hN])|refine X2 ?_ ?_|(refine Xd ?_ ?_<;>intro hcd<;>try exact Xx))
 all_goals (simp_all [bM])
theorem Gc (p : Int) (l r : List Int) : ab Tryz.prog 183 [.pv (Gb p l r)] [] [] (.pv (B (gk p l r))):=by
 refine Dp Tryz.func183 ?_
 intro C hP hN
 simp only [Tryz.f183] at hN ⊢
 with_reducible repeat' (first|refine Sp.h ?_|((first|refine Ss.h ?_|(refine Sb.h ?_ ?_ ?_<;>(try intro hgd)<;>try exact Xy))<;>simp -implicitDefEqProofs (maxSteps:=2000000) [hP,hN])|refine X2 ?_ ?_|(refine Xd ?_ ?_<;>intro hcd<;>try exact Xx))
 all_goals (simp_all [gk])
theorem Gd (p : Int) (l r : List Int) : ab Tryz.prog 117 [.pv (Gb p l r)] [] [] (.pv (B (gk p l r))):=by
 refine Dp Tryz.func117 ?_
 intro C hP hN
 simp only [Tryz.f117] at hN ⊢
 with_reducible repeat' (first|refine Sp.h ?_|((first|refine Ss.h ?_|(refine Sb.h ?_ ?_ ?_<;>(try intro hgd)<;>try exact Xy))<;>simp -implicitDefEqProofs (maxSteps:=2000000) [hP,hN])|refine X2 ?_ ?_|(refine Xd ?_ ?_<;>intro hcd<;>try exact Xx))
 all_goals (simp_all [gk])
theorem IE (v : Verd) : ab Tryz.prog 158 [.pv (rc v)] [] [] (.pv (B (bX v))):=by
 have ce:=Gc v.pair v.left v.right
 have h0:=xv v.nor
 generalize hE : gk v.pair v.left v.right=E at ce
 refine Dp Tryz.func158 ?_
 intro C hP hN
 simp only [Tryz.f158] at hN ⊢
 with_reducible repeat' (first|refine Sp.h ?_|((first|refine Ss.h ?_|refine Sc.h (ce) ?_|(refine Sb.h ?_ ?_ ?_<;>(try intro hgd)<;>try exact Xy))<;>simp -implicitDefEqProofs (maxSteps:=2000000) [hP,hN])|refine X2 ?_ ?_|(refine Xd ?_ ?_<;>intro hcd<;>try exact Xx))
 all_goals (simp_all [bX])
theorem Hd (v : Verd) : ab Tryz.prog 82 [.pv (rc v)] [] [] (.pv (B (bX v))):=by
 have ce:=Gd v.pair v.left v.right
 have h0:=xv v.nor
 generalize hE : gk v.pair v.left v.right=E at ce
 refine Dp Tryz.func82 ?_
 intro C hP hN
 simp only [Tryz.f82] at hN ⊢
 with_reducible repeat' (first|refine Sp.h ?_|((first|refine Ss.h ?_|refine Sc.h (ce) ?_|(refine Sb.h ?_ ?_ ?_<;>(try intro hgd)<;>try exact Xy))<;>simp -implicitDefEqProofs (maxSteps:=2000000) [hP,hN])|refine X2 ?_ ?_|(refine Xd ?_ ?_<;>intro hcd<;>try exact Xx))
 all_goals (simp_all [bX])
theorem IF (v : Verd) : ab Tryz.prog 159 [.pv (rc v)] [] [] (.pv (B (jT v))):=by
 have ce:=Gc v.pair v.left v.right
 generalize hE : gk v.pair v.left v.right=E at ce
 refine Dp Tryz.func159 ?_
 intro C hP hN
 simp only [Tryz.f159] at hN ⊢
 with_reducible repeat' (first|refine Sp.h ?_|((first|refine Ss.h ?_|refine Sc.h (ce) ?_|(refine Sb.h ?_ ?_ ?_<;>(try intro hgd)<;>try exact Xy))<;>simp -implicitDefEqProofs (maxSteps:=2000000) [hP,hN])|refine X2 ?_ ?_|(refine Xd ?_ ?_<;>intro hcd<;>try exact Xx))
 all_goals (simp_all [jT])
theorem JZ (v : Verd) : ab Tryz.prog 83 [.pv (rc v)] [] [] (.pv (B (jT v))):=by
 have ce:=Gd v.pair v.left v.right
 generalize hE : gk v.pair v.left v.right=E at ce
 refine Dp Tryz.func83 ?_
 intro C hP hN
 simp only [Tryz.f83] at hN ⊢
 with_reducible repeat' (first|refine Sp.h ?_|((first|refine Ss.h ?_|refine Sc.h (ce) ?_|(refine Sb.h ?_ ?_ ?_<;>(try intro hgd)<;>try exact Xy))<;>simp -implicitDefEqProofs (maxSteps:=2000000) [hP,hN])|refine X2 ?_ ?_|(refine Xd ?_ ?_<;>intro hcd<;>try exact Xx))
 all_goals (simp_all [jT])
def cD (r : List (Int × Int)) : Bool:=decide (1≤r.length) && decide (r.length≤10) && aD vI r
theorem IG (r : List (Int × Int)) : ab Tryz.prog 156 [.pv (iv r)] [] [] (.pv (B (cD r))):=by
 by_cases h1 : r.length < 1
 ·have hr : cD r=false:=by simp [cD];omega
  have h1' : (r.length : Int) < 1:=by omega
  rw [hr]
  refine Dp Tryz.func156 ?_
  intro C hP hN
  simp only [Tryz.f156] at hN ⊢
  with_reducible repeat' (first|refine Sp.h ?_|((first|refine Ss.h ?_|(refine Sb.h ?_ ?_ ?_<;>(try intro hgd)<;>try exact Xy))<;>simp -implicitDefEqProofs (maxSteps:=2000000) [hP,hN,h1',h1])|refine X2 ?_ ?_|(refine Xd ?_ ?_<;>intro hcd<;>try exact Xx))
 have h1' : ¬ (r.length : Int) < 1:=by omega
 by_cases h2 : 10 < r.length
 ·have hr : cD r=false:=by simp [cD];omega
  have h2' : (10 : Int) < r.length:=by omega
  rw [hr]
  refine Dp Tryz.func156 ?_
  intro C hP hN
  simp only [Tryz.f156] at hN ⊢
  with_reducible repeat' (first|refine Sp.h ?_|((first|refine Ss.h ?_|(refine Sb.h ?_ ?_ ?_<;>(try intro hgd)<;>try exact Xy))<;>simp -implicitDefEqProofs (maxSteps:=2000000) [hP,hN,h1',h1,h2,h2'])|refine X2 ?_ ?_|(refine Xd ?_ ?_<;>intro hcd<;>try exact Xx))
 have h2' : ¬ (10 : Int) < r.length:=by omega
 have hr : cD r=aD vI r:=by
  unfold cD
  have a1 : decide (1≤r.length)=true:=by simp;omega
  have a2 : decide (r.length≤10)=true:=by simp;omega
  rw [a1,a2];simp
 rw [hr]
 refine Dp Tryz.func156 ?_
 intro C hP hN
 simp only [Tryz.f156] at hN ⊢
 with_reducible repeat' (first|refine Sp.h ?_|((first|refine Ss.h ?_|(refine Sb.h ?_ ?_ ?_<;>(try intro hgd)<;>try exact Xy))<;>simp -implicitDefEqProofs (maxSteps:=2000000) [hP,hN,h1',h1,h2,h2'])|refine X2 ?_ ?_|(refine Xd ?_ ?_<;>intro hcd<;>try exact Xx))
 refine WP.loopN [4] r.length (fun i st=>st.t 13=.pv (iv r)∧st.t 14=.pv (Z r.length)∧st.t 15=.pv (Z i)∧st.h 4=none∧aD vI (r.take i)=true) (by simp [aD]) ?_
 rintro i st hi ⟨g13,g14,g15,hb,hq⟩
 by_cases hlt : i < r.length
 ·have hw:=ak hlt (by omega)
  have hF : vI r[i]=false→aD vI r=false:=pM hlt
  have hS : vI r[i]=true→aD vI (r.take (i+1))=true:=oo hlt hq
  with_reducible repeat' (first|refine Sp.h ?_|((first|refine Ss.h ?_|refine Sc.h (tW _ _) ?_|(refine Sb.h ?_ ?_ ?_<;>(try intro hgd)<;>try exact Xy))<;>simp -implicitDefEqProofs (maxSteps:=2000000) [hP,hN,g13,g14,g15,hb,hlt,hw])|refine X2 ?_ ?_|(refine Xd ?_ ?_<;>intro hcd<;>try exact Xx))
  all_goals first|(rw [hF (by simpa using hcd)];done)|(simp [hF (by simpa using hcd)];done)|(simpa using hS (by simpa using hcd))
 ·skip
  with_reducible repeat' (first|refine Sp.h ?_|((first|refine Ss.h ?_|(refine Sb.h ?_ ?_ ?_<;>(try intro hgd)<;>try exact Xy))<;>simp -implicitDefEqProofs (maxSteps:=2000000) [hP,hN,g13,g14,g15,hb,hlt])|refine X2 ?_ ?_|(refine Xd ?_ ?_<;>intro hcd<;>try exact Xx))
  all_goals simp [oq hlt hq]
end Go.Ab
namespace Go.Ab
open Go.Proofs
theorem bO {α : Type} {p : α→Bool} {xs : List α} : aD p xs=true↔∀ x ∈ xs,p x=true:=List.all_eq_true
abbrev Bx:=List (Int × Int)
abbrev OL:=List (Option Bx)
def la : Option Bx→PV
 |none=>.val (.slice none 0 0)
 |some b=>iv b
def fS (n i : Nat) (c : Cel) : Bool:=decide ((i : Int) < c.low) && decide (c.low < n) && decide ((i : Int) < c.high) && decide (c.high < n) && decide (c.low≠c.high) && jT c.v
def dv (n i : Nat) (c : Cel) (L : OL) : Option OL:=
 match L[i]? with
 |some (some b)=>
  if bM c then (if bX c.v then some L else none)
  else if fS n i c then
   if aP b c.joint then
    match L[c.low.toNat]?,L[c.high.toNat]? with
    |some none,some none=>some ((L.set c.low.toNat (some (bo b c.joint))).set c.high.toNat (some (bp b c.joint)))
    |_,_=>none
   else none
  else none
 |_=>none
def iX (n : Nat) : List Cel→Nat→OL→Option OL
 |[],_,L=>some L
 |c :: cs,i,L=>match dv n i c L with
  |some L'=>iX n cs (i+1) L'
  |none=>none
def fT (t : Tr) : OL:=some t.root :: List.replicate (t.cells.length - 1) none
def dS (t : Tr) : Bool:=decide (1≤t.cells.length) && decide (t.cells.length≤2048) && cD t.root
def bq (t : Tr) : Option OL:=if dS t then iX t.cells.length t.cells 0 (fT t) else none
def aB (t : Tr) : Bool:=(bq t).isSome
def af (t : Tr) : List Bx:=match bq t with
 |some L=>L.map fun x=>x.getD []
 |none=>[]
theorem eO {n i : Nat} {c : Cel} {L L' : OL} (h : dv n i c L=some L') : ∃ b,L[i]?=some (some b)∧
 ((bM c=true∧bX c.v=true∧L'=L)∨
  (bM c=false∧fS n i c=true∧aP b c.joint=true∧L[c.low.toNat]?=some none∧L[c.high.toNat]?=some none∧
    L'=(L.set c.low.toNat (some (bo b c.joint))).set c.high.toNat (some (bp b c.joint)))):=by
 unfold dv at h
 split at h
 ·rename_i b hb
  refine ⟨b,hb,?_⟩
  split at h
  ·rename_i hl
   split at h
   ·rename_i hf
    injection h with h
    exact .inl ⟨hl,hf,h.symm⟩
   ·cases h
  ·rename_i hl
   split at h
   ·rename_i hi
    split at h
    ·rename_i hh
     split at h
     ·rename_i h1 h2
      injection h with h
      exact .inr ⟨by simpa using hl,hi,hh,h1,h2,h.symm⟩
     ·cases h
    ·cases h
   ·cases h
 ·cases h
theorem eP {n i : Nat} {c : Cel} : fS n i c=true↔(i : Int) < c.low∧c.low < n∧(i : Int) < c.high∧c.high < n∧c.low≠c.high∧jT c.v=true:=by
 simp [fS,and_assoc]
theorem xx {n : Nat} {P : Nat→OL→Prop} : ∀ (cs : List Cel) (i : Nat) (L L' : OL),iX n cs i L=some L'→P i L→
 (∀ k c L L',cs[k]?=some c→P (i+k) L→dv n (i+k) c L=some L'→P (i+k+1) L')→P (i+cs.length) L'
 |[],i,L,L',h,h0,_=>by simp [iX] at h;subst h;exact h0
 |c :: cs,i,L,L',h,h0,hs=>by
  simp only [iX] at h
  split at h
  ·rename_i L1 h1
   have h2:=hs 0 c L L1 rfl h0 h1
   have:=xx cs (i+1) L1 L' h h2 (fun k d M M' hk hp hm=>by
    have e : i+1+k=i+(k+1):=by omega
    rw [e] at hp hm ⊢
    exact hs (k+1) d M M' (by simpa using hk) hp hm)
   have e : i+(c :: cs).length=i+1+cs.length:=by simp;omega
   rw [e];exact this
  ·cases h
theorem ju {t : Tr} {L : OL} {P : Nat→OL→Prop} (h : bq t=some L) (h0 : P 0 (fT t))
 (hs : ∀ i c L L',t.cells[i]?=some c→P i L→dv t.cells.length i c L=some L'→P (i+1) L') : P t.cells.length L:=by
 unfold bq at h
 split at h
 ·have:=xx t.cells 0 _ _ h h0 (fun k c M M' hk hp hm=>by
   rw [Nat.zero_add] at hp hm ⊢;exact hs k c M M' hk hp hm)
  simpa using this
 ·cases h
theorem jb {t : Tr} {L : OL} (h : bq t=some L) : dS t=true:=by
 unfold bq at h
 split at h
 ·assumption
 ·cases h
theorem aY {t : Tr} : dS t=true↔1≤t.cells.length∧t.cells.length≤2048∧1≤t.root.length∧t.root.length≤10∧aD vI t.root=true:=by
 simp [dS,cD,and_assoc]
structure BOk (t : Tr) (i : Nat) (L : OL) : Prop where
 len : L.length=t.cells.length
 pre : ∀ j,j < i→∃ b,L[j]?=some (some b)
 ok : ∀ (j : Nat) b,L[j]?=some (some b)→b.length=t.root.length∧aD vI b=true
theorem vn {b : Bx} {j : Int} (h : aP b j=true) : (bo b j).length=b.length∧(bp b j).length=b.length:=by
 unfold bo bp
 rw [h]
 simp only [if_true]
 unfold aP at h
 split<;>simp_all
theorem bN {lo hi : Int} : am lo hi=true↔-2147483648≤lo∧lo≤hi∧hi≤2147483648:=by
 simp [am,and_assoc]
theorem za {x : Int × Int} (h : am x.1 x.2=true) : fw x=(x.1+x.2) / 2:=by
 unfold fw
 have h':=bN.1 h
 rw [h,if_pos rfl,show wr (x.1+x.2)=x.1+x.2 from aa (by omega) (by omega),Int.fdiv_eq_ediv]
 simp
theorem mg {b : Bx} {j : Int} : aP b j=true↔0≤j∧aD vI b=true∧∃ x,b[j.toNat]?=some x∧2≤x.2 - x.1:=by
 unfold aP
 constructor
 ·intro h
  simp only [Bool.and_eq_true,decide_eq_true_eq] at h
  obtain ⟨⟨h1,h2⟩,h3⟩:=h
  refine ⟨h1,h2,?_⟩
  split at h3
  ·rename_i x hx
   refine ⟨x,hx,?_⟩
   have hv:=bN.1 (bO.1 h2 _ (List.mem_of_getElem? hx))
   rw [decide_eq_true_eq,bR,if_pos (bO.1 h2 _ (List.mem_of_getElem? hx)),show wr (x.2 - x.1)=x.2 - x.1 from aa (by omega) (by omega)] at h3
   exact h3
  ·cases h3
 ·rintro ⟨h1,h2,x,hx,h3⟩
  have hv:=bN.1 (bO.1 h2 _ (List.mem_of_getElem? hx))
  have hw : bR x=x.2 - x.1:=by
   rw [bR,if_pos (bO.1 h2 _ (List.mem_of_getElem? hx))]
   exact aa (by omega) (by omega)
  simp [h1,h2,hx,hw,h3]
theorem xy {b : Bx} {j : Int} (h : aP b j=true) : ∃ x,b[j.toNat]?=some x∧am x.1 x.2=true∧2≤x.2 - x.1∧bo b j=b.set j.toNat (x.1,(x.1+x.2) / 2)∧bp b j=b.set j.toNat ((x.1+x.2) / 2,x.2):=by
 obtain ⟨_,h2,x,hx,h3⟩:=mg.1 h
 have hv : am x.1 x.2=true:=bO.1 h2 _ (List.mem_of_getElem? hx)
 refine ⟨x,hx,hv,h3,?_,?_⟩
 ·simp [bo,h,hx,za hv]
 ·simp [bp,h,hx,za hv]
theorem rI {b : Bx} {j : Int} (h : aP b j=true) : aD vI (bo b j)=true∧aD vI (bp b j)=true:=by
 obtain ⟨x,hx,hv,h3,ea,ez⟩:=xy h
 have h2:=(mg.1 h).2.1
 have hv':=bN.1 hv
 rw [ea,ez]
 constructor<;>refine bO.2 fun y hy=>?_
 ·rcases List.mem_or_eq_of_mem_set hy with h|rfl
  ·exact bO.1 h2 _ h
  ·exact bN.2 ⟨by omega,by simp only;omega,by simp only;omega⟩
 ·rcases List.mem_or_eq_of_mem_set hy with h|rfl
  ·exact bO.1 h2 _ h
  ·exact bN.2 ⟨by simp only;omega,by simp only;omega,by omega⟩
theorem oR {t : Tr} (h : dS t=true) : BOk t 0 (fT t):=by
 obtain ⟨h1,h2,h3,h4,h5⟩:=aY.1 h
 refine ⟨by simp [fT];omega,fun j hj=>by omega,fun j b hb=>?_⟩
 cases j with
 |zero=>simp [fT] at hb;subst hb;exact ⟨rfl,h5⟩
 |succ j=>simp [fT,List.getElem?_replicate] at hb
theorem Dl {L : OL} {a z : Nat} {x y : Option Bx} {j : Nat} (hne : a≠z) (ha : a < L.length) (hz : z < L.length) : ((L.set a x).set z y)[j]?=if j=z then some y else if j=a then some x else L[j]?:=by
 rw [List.getElem?_set]
 by_cases h1 : z=j
 ·subst h1;simp [hz]
 ·rw [if_neg h1,if_neg (fun h=>h1 h.symm),List.getElem?_set]
  by_cases h2 : a=j
  ·subst h2;simp [ha]
  ·rw [if_neg h2,if_neg (fun h=>h2 h.symm)]
theorem se {t : Tr} {i : Nat} {c : Cel} {L : OL} {x y : Option Bx} {j : Nat} (hl : L.length=t.cells.length) (hi : fS t.cells.length i c=true) : ((L.set c.low.toNat x).set c.high.toNat y)[j]?=if j=c.high.toNat then some y else if j=c.low.toNat then some x else L[j]?:=by
 obtain ⟨h1,h2,h3,h4,h5,_⟩:=eP.1 hi
 exact Dl (by omega) (by omega) (by omega)
theorem oS {t : Tr} {i : Nat} {c : Cel} {L L' : OL} (h : BOk t i L) (hs : dv t.cells.length i c L=some L') : BOk t (i+1) L':=by
 obtain ⟨b,hb,⟨_,_,rfl⟩|⟨_,hi,hh,hlo,hhi,rfl⟩⟩:=eO hs
 ·refine ⟨h.len,fun j hj=>?_,h.ok⟩
  by_cases e : j=i
  ·subst e;exact ⟨b,hb⟩
  ·exact h.pre j (by omega)
 ·have hbo:=h.ok i b hb
  refine ⟨by simpa using h.len,fun j hj=>?_,fun j d hd=>?_⟩
  ·rw [se h.len hi]
   split
   ·exact ⟨_,rfl⟩
   ·split
    ·exact ⟨_,rfl⟩
    ·by_cases e : j=i
     ·subst e;exact ⟨b,hb⟩
     ·exact h.pre j (by omega)
  ·rw [se h.len hi] at hd
   split at hd
   ·injection hd with hd;injection hd with hd;subst hd
    exact ⟨by rw [(vn hh).2];exact hbo.1,(rI hh).2⟩
   ·split at hd
    ·injection hd with hd;injection hd with hd;subst hd
     exact ⟨by rw [(vn hh).1];exact hbo.1,(rI hh).1⟩
    ·exact h.ok j d hd
structure BInv (t : Tr) (i : Nat) (L : OL) : Prop where
 bok : BOk t i L
 run : iX t.cells.length (t.cells.drop i) i L=bq t
theorem qn {t : Tr} (h : dS t=true) : BInv t 0 (fT t):=⟨oR h,by simp [bq,h]⟩
theorem kQ {t : Tr} {i : Nat} {L L' : OL} (h : BInv t i L) (hlt : i < t.cells.length) (hs : dv t.cells.length i t.cells[i] L=some L') : BInv t (i+1) L':=by
 refine ⟨oS h.bok hs,?_⟩
 rw [← h.run,List.drop_eq_getElem_cons hlt]
 simp only [iX,hs]
theorem qo {t : Tr} {i : Nat} {L : OL} (h : BInv t i L) (hlt : i < t.cells.length) (hs : dv t.cells.length i t.cells[i] L=none) : bq t=none:=by
 rw [← h.run,List.drop_eq_getElem_cons hlt]
 simp only [iX,hs]
theorem qp {t : Tr} {i : Nat} {L : OL} (h : BInv t i L) (hlt : ¬ i < t.cells.length) : bq t=some L:=by
 rw [← h.run,List.drop_eq_nil_of_le (by omega)]
 rfl
theorem mL {t : Tr} {L : OL} (h : bq t=some L) : BOk t t.cells.length L:=
 ju h (oR (jb h)) (fun _ _ _ _ _ hp hm=>oS hp hm)
theorem jU {t : Tr} {L : OL} (h : bq t=some L) : L=(af t).map some:=by
 have ok:=mL h
 rw [af,h]
 simp only [List.map_map]
 apply List.ext_getElem?;intro j
 by_cases hj : j < L.length
 ·obtain ⟨b,hb⟩:=ok.pre j (by rw [← ok.len];exact hj)
  simp [hb]
 ·simp [List.getElem?_eq_none (by omega : L.length≤j)]
theorem sf {t : Tr} {L : OL} (h : bq t=some L) : L.map la=(af t).map iv:=by
 rw [jU h]
 simp [la,Function.comp_def]
theorem bS {t : Tr} (h : aB t=true) : (af t).length=t.cells.length:=by
 obtain ⟨L,hL⟩:=Option.isSome_iff_exists.1 h
 have:=(mL hL).len
 rw [jU hL] at this
 simpa using this
theorem dC {t : Tr} {j : Nat} {b : Bx} (hb : (af t)[j]?=some b) : b.length=t.root.length∧aD vI b=true:=by
 cases hL : bq t with
 |none=>simp [af,hL] at hb
 |some L=>
  have:=(mL hL).ok j b
  rw [jU hL] at this
  exact this (by simp [hb])
theorem cG {t : Tr} (h : aB t=true) : dS t=true:=by
 obtain ⟨L,hL⟩:=Option.isSome_iff_exists.1 h
 exact jb hL
theorem mM {t : Tr} (h : bq t=none) : aB t=false∧af t=[]:=by simp [aB,af,h]
theorem gt {t : Tr} {i : Nat} {L : OL} {b : Bx} {c : Cel} {n : Nat} (hb : L[i]?=some (some b)) (hl : bM c=true) : dv n i c L=if bX c.v then some L else none:=by
 simp [dv,hb,hl]
theorem lu {i : Nat} {L : OL} {b : Bx} {c : Cel} {n : Nat} (hb : L[i]?=some (some b)) (hl : bM c=false) (hi : fS n i c=true) (hh : aP b c.joint=true) (h1 : L[c.low.toNat]?=some none) (h2 : L[c.high.toNat]?=some none) : dv n i c L=some ((L.set c.low.toNat (some (bo b c.joint))).set c.high.toNat (some (bp b c.joint))):=by
 simp [dv,hb,hl,hi,hh,h1,h2]
theorem iA {i : Nat} {L : OL} {b : Bx} {c : Cel} {n : Nat} (hb : L[i]?=some (some b)) (hl : bM c=false) (h : fS n i c=false∨aP b c.joint=false∨(∃ d,L[c.low.toNat]?=some (some d))∨(∃ d,L[c.high.toNat]?=some (some d))) : dv n i c L=none:=by
 unfold dv
 rw [hb]
 simp only [hl,Bool.false_eq_true,if_false]
 split
 ·rename_i hi
  split
  ·rename_i hh
   rcases h with h|h|⟨d,h⟩|⟨d,h⟩
   ·rw [hi] at h;cases h
   ·rw [hh] at h;cases h
   ·rw [h]
   ·rw [h];split
    ·rename_i e1 e2;cases e2
    ·rfl
  ·rfl
 ·rfl
end Go.Ab
namespace Go.Ab
open Go.Proofs
def bz : Verd:=⟨0,[],0,[],[]⟩
def bh (v : Verd) : Cel:=⟨-1,-1,-1,v⟩
theorem xA {c : Cel} (h : bM c=true) : c=bh c.v:=by
 cases c;simp [bM] at h;simp [bh,h]
theorem iP (v : Verd) : bM (bh v)=true:=by simp [bM,bh]
theorem As : jT bz=true:=by simp [jT,bz,gk]
theorem At : bX bz=true:=by simp [bX,bz,gk]
theorem Au {n i : Nat} {c : Cel} {L L' : OL} (h : dv n i c L=some L') {j : Nat} {b : Bx} (hb : L[j]?=some (some b)) : L'[j]?=some (some b):=by
 obtain ⟨d,hd,⟨_,_,rfl⟩|⟨_,hi,hh,hlo,hhi,rfl⟩⟩:=eO h
 ·exact hb
 ·have h1 : c.low.toNat≠j:=by intro e;rw [e,hb] at hlo;cases hlo
  have h2 : c.high.toNat≠j:=by intro e;rw [e,hb] at hhi;cases hhi
  rw [List.getElem?_set,if_neg h2,List.getElem?_set,if_neg h1];exact hb
theorem vo {n i k : Nat} {c : Cel} {L L' S : OL} (hl : L.length=n) (hk : S.length=k) (h : dv n i c L=some L') : dv (n+k) i c (L++S)=some (L'++S):=by
 obtain ⟨d,hd,⟨h1,h2,rfl⟩|⟨h1,hi,hh,hlo,hhi,rfl⟩⟩:=eO h
 ·have hlt : i < L'.length:=(List.getElem?_eq_some_iff.1 hd).1
  have : (L'++S)[i]?=some (some d):=by rw [List.getElem?_append_left hlt];exact hd
  simp [dv,this,h1,h2]
 ·have hlt : i < L.length:=(List.getElem?_eq_some_iff.1 hd).1
  have l1 : c.low.toNat < L.length:=(List.getElem?_eq_some_iff.1 hlo).1
  have l2 : c.high.toNat < L.length:=(List.getElem?_eq_some_iff.1 hhi).1
  have e1 : (L++S)[i]?=some (some d):=by rw [List.getElem?_append_left hlt];exact hd
  have e2 : (L++S)[c.low.toNat]?=some none:=by rw [List.getElem?_append_left l1];exact hlo
  have e3 : (L++S)[c.high.toNat]?=some none:=by rw [List.getElem?_append_left l2];exact hhi
  have hi' : fS (n+k) i c=true:=by
   obtain ⟨a1,a2,a3,a4,a5,a6⟩:=eP.1 hi
   exact eP.2 ⟨a1,by omega,a3,by omega,a5,a6⟩
  rw [lu e1 h1 hi' hh e2 e3,List.set_append_left _ _ l1,List.set_append_left _ _ (by simpa using l2)]
def fW (t : Tr) (i : Nat) (j : Int) (v : Verd) : Tr:=⟨t.root,t.cells.set i ⟨j,t.cells.length,t.cells.length+1,bz⟩++[bh v,bh v]⟩
theorem jV (t : Tr) (i : Nat) (j : Int) (v : Verd) : (fW t i j v).cells.length=t.cells.length+2:=by simp [fW]
theorem kR {n i : Nat} {cs : List Cel} {c : Cel} {L L' : OL} (hc : cs[i]?=some c) (h : dv n i c L=some L') : iX n (cs.drop i) i L=iX n (cs.drop (i+1)) (i+1) L':=by
 obtain ⟨hlt,hc⟩:=List.getElem?_eq_some_iff.1 hc
 rw [List.drop_eq_getElem_cons hlt,hc]
 simp only [iX,h]
theorem BM {t : Tr} {L : OL} (h : bq t=some L) {i : Nat} {c : Cel} (hc : t.cells[i]?=some c) (hl : bM c=true) : bX c.v=true:=by
 have hp:=ju (P:=fun k _=>i < k→bX c.v=true) h (by intro h;omega) (fun k d M M' hk hp hm hi=>by
  by_cases e : k=i
  ·subst e
   rw [hc] at hk;injection hk with hk;subst hk
   obtain ⟨b,hb,⟨_,h2,_⟩|⟨h1,_⟩⟩:=eO hm
   ·exact h2
   ·rw [hl] at h1;cases h1
  ·exact hp (by omega))
 exact hp (List.getElem?_eq_some_iff.1 hc).1
theorem ym {t : Tr} {L : OL} (h : bq t=some L) {i : Nat} {j : Int} {c : Cel} {b : Bx} (hc : t.cells[i]?=some c) (hl : bM c=true) (hn : t.cells.length+2≤2048) (hb : L[i]?=some (some b)) (hh : aP b j=true) :
 bq (fW t i j c.v)=some (L++[some (bo b j),some (bp b j)]):=by
 have hsz:=jb h
 obtain ⟨z1,z2,z3,z4,z5⟩:=aY.1 hsz
 have hilt : i < t.cells.length:=(List.getElem?_eq_some_iff.1 hc).1
 have hlen:=jV t i j c.v
 have hf:=BM h hc hl
 generalize hT : fW t i j c.v=T at *
 have hTr : T.root=t.root:=by rw [← hT];rfl
 have hTc : ∀ k,k≠i→k < t.cells.length→T.cells[k]?=t.cells[k]?:=by
  intro k hk hlt
  rw [← hT];simp only [fW]
  rw [List.getElem?_append_left (by simpa using hlt),List.getElem?_set,if_neg (fun e=>hk e.symm)]
 have hTi : T.cells[i]?=some ⟨j,t.cells.length,t.cells.length+1,bz⟩:=by
  rw [← hT];simp only [fW]
  rw [List.getElem?_append_left (by simpa using hilt),List.getElem?_set,if_pos rfl,if_pos hilt]
 have hTs : dS T=true:=aY.2 ⟨by omega,by omega,by rw [hTr];omega,by rw [hTr];omega,by rw [hTr];exact z5⟩
 have hP:=ju (P:=fun k M=>BOk t k M∧if k≤i then iX (t.cells.length+2) (T.cells.drop k) k (M++[none,none])=bq T
  else ∃ d,M[i]?=some (some d)∧(aP d j=true→iX (t.cells.length+2) (T.cells.drop k) k (M++[some (bo d j),some (bp d j)])=bq T)) h (by
  refine ⟨oR hsz,?_⟩
  simp only [Nat.zero_le,if_true]
  rw [bq,if_pos hTs,hlen,List.drop_zero]
  congr 1
  simp only [fT,hTr,hlen,List.cons_append]
  rw [show t.cells.length+2 - 1=(t.cells.length - 1)+2 by omega,← List.replicate_append_replicate];rfl) (by
  intro k e M M' hk hp hm
  obtain ⟨hbo,hp⟩:=hp
  refine ⟨oS hbo hm,?_⟩
  have hklt : k < t.cells.length:=(List.getElem?_eq_some_iff.1 hk).1
  rcases Nat.lt_trichotomy k i with hki|hki|hki
  ·rw [if_pos (by omega)] at hp ⊢
   rw [← hp]
   exact (kR (by rw [hTc k (by omega) hklt];exact hk) (vo (k:=2) (S:=[none,none]) hbo.len rfl hm)).symm
  ·subst hki
   rw [hc] at hk;injection hk with hk;subst hk
   rw [if_pos (Nat.le_refl _)] at hp
   rw [if_neg (by omega)]
   obtain ⟨d,hd,⟨_,_,rfl⟩|⟨h1,_⟩⟩:=eO hm
   ·refine ⟨d,hd,fun hok=>?_⟩
    rw [← hp]
    refine (kR hTi ?_).symm
    have e1 : (M'++[none,none])[k]?=some (some d):=by rw [List.getElem?_append_left (by rw [hbo.len];exact hilt)];exact hd
    have hi' : fS (t.cells.length+2) k ⟨j,t.cells.length,t.cells.length+1,bz⟩=true:=eP.2 ⟨by simp only;omega,by simp only;omega,by simp only;omega,by simp only;omega,by simp only;omega,As⟩
    have t1 : ((t.cells.length : Int)).toNat=M'.length:=by rw [hbo.len];omega
    have t2 : ((t.cells.length : Int)+1).toNat=M'.length+1:=by rw [hbo.len];omega
    rw [lu e1 (by simp [bM]) hi' hok (by simp only;rw [t1];simp) (by simp only;rw [t2];simp)]
    simp only [t1,t2]
    congr 1
    rw [List.set_append_right _ _ (by omega),List.set_append_right _ _ (by omega)]
    simp
   ·rw [hl] at h1;cases h1
  ·rw [if_neg (by omega)] at hp ⊢
   obtain ⟨d,hd,hp⟩:=hp
   refine ⟨d,Au hm hd,fun hok=>?_⟩
   rw [← hp hok]
   exact (kR (by rw [hTc k (by omega) hklt];exact hk) (vo (k:=2) (S:=[some (bo d j),some (bp d j)]) hbo.len rfl hm)).symm)
 obtain ⟨hbo,hP⟩:=hP
 rw [if_neg (by omega)] at hP
 obtain ⟨d,hd,hP⟩:=hP
 rw [hb] at hd;injection hd with hd;injection hd with hd;subst hd
 rw [← hP hh]
 have hdrop : T.cells.drop t.cells.length=[bh c.v,bh c.v]:=by
  rw [← hT];simp only [fW]
  rw [List.drop_append_of_le_length (by simp),List.drop_eq_nil_of_le (by simp)];rfl
 rw [hdrop]
 have e1 : (L++[some (bo b j),some (bp b j)])[t.cells.length]?=some (some (bo b j)):=by rw [← hbo.len];simp
 have e2 : (L++[some (bo b j),some (bp b j)])[t.cells.length+1]?=some (some (bp b j)):=by rw [← hbo.len];simp
 simp only [iX]
 rw [gt (t:=t) e1 (iP _),if_pos (show bX (bh c.v).v=true from hf)]
 simp only
 rw [gt (t:=t) e2 (iP _),if_pos (show bX (bh c.v).v=true from hf)]
def dD (t : Tr) (i : Nat) (v : Verd) : Tr:=⟨t.root,t.cells.set i (bh v)⟩
theorem xD {t : Tr} {L : OL} (h : bq t=some L) {i : Nat} {c : Cel} {v : Verd} (hc : t.cells[i]?=some c) (hl : bM c=true) (hf : bX v=true) : bq (dD t i v)=some L:=by
 have hsz:=jb h
 have hilt : i < t.cells.length:=(List.getElem?_eq_some_iff.1 hc).1
 have hlen : (dD t i v).cells.length=t.cells.length:=by simp [dD]
 generalize hT : dD t i v=T at *
 have hTr : T.root=t.root:=by rw [← hT];rfl
 have hTs : dS T=true:=by
  obtain ⟨z1,z2,z3,z4,z5⟩:=aY.1 hsz
  exact aY.2 ⟨by omega,by omega,by rw [hTr];omega,by rw [hTr];omega,by rw [hTr];exact z5⟩
 have hP:=ju (P:=fun k M=>iX t.cells.length (T.cells.drop k) k M=bq T) h (by
  rw [bq,if_pos hTs,hlen,List.drop_zero]
  congr 1
  simp only [fT,hTr,hlen]) (by
  intro k e M M' hk hp hm
  rw [← hp]
  by_cases hki : k=i
  ·subst hki
   rw [hc] at hk;injection hk with hk;subst hk
   obtain ⟨d,hd,⟨_,_,rfl⟩|⟨h1,_⟩⟩:=eO hm
   ·refine (kR (c:=bh v) (by rw [← hT];simp [dD,hilt]) ?_).symm
    rw [gt (t:=t) hd (iP _),if_pos (show bX (bh v).v=true from hf)]
   ·rw [hl] at h1;cases h1
  ·refine (kR ?_ hm).symm
   rw [← hT];simp only [dD]
   rw [List.getElem?_set,if_neg (fun e=>hki e.symm)];exact hk)
 rw [← hP,List.drop_eq_nil_of_le (by omega)]
 rfl
def cZ (t : Tr) (i : Nat) : Bool:=match t.cells[i]? with
 |some c=>bM c
 |none=>false
def bF (t : Tr) (i j : Int) : Bool:=aB t && decide (0≤i) && decide (i < t.cells.length) && cZ t i.toNat && decide (t.cells.length+2≤2048) && aP ((af t)[i.toNat]?.getD []) j
def ed (t : Tr) (i : Nat) : Verd:=match t.cells[i]? with
 |some c=>c.v
 |none=>bz
def br (t : Tr) (i j : Int) : Tr:=if bF t i j then fW t i.toNat j (ed t i.toNat) else t
def bv (t : Tr) (i : Int) (v : Verd) : Bool:=aB t && decide (0≤i) && decide (i < t.cells.length) && cZ t i.toNat && decide ((ed t i.toNat).kind=0) && bX v
def dh (t : Tr) (i : Int) (v : Verd) : Tr:=if bv t i v then dD t i.toNat v else t
theorem vp {t : Tr} {i : Nat} (h : cZ t i=true) : ∃ c,t.cells[i]?=some c∧bM c=true∧ed t i=c.v:=by
 unfold cZ at h
 split at h
 ·rename_i c hc
  exact ⟨c,hc,h,by simp [ed,hc]⟩
 ·cases h
theorem yn {t : Tr} (h : aB t=true) (i j : Int) : aB (br t i j)=true∧(br t i j).root=t.root∧(br t i j).cells.length≤t.cells.length+2:=by
 unfold br
 split
 ·rename_i hs
  simp only [bF,Bool.and_eq_true,decide_eq_true_eq] at hs
  obtain ⟨⟨⟨⟨⟨h1,h2⟩,h3⟩,h4⟩,h5⟩,h6⟩:=hs
  obtain ⟨L,hL⟩:=Option.isSome_iff_exists.1 h
  obtain ⟨c,hc,hl,hv⟩:=vp h4
  have hlt : i.toNat < t.cells.length:=by omega
  obtain ⟨b,hb⟩:=(mL hL).pre i.toNat hlt
  have hb' : (af t)[i.toNat]?=some b:=by
   have:=jU hL
   rw [this] at hb
   simpa using hb
  rw [hb'] at h6
  have:=ym hL hc hl h5 hb h6
  rw [hv]
  exact ⟨by rw [aB,this];rfl,rfl,by rw [jV];exact Nat.le_refl _⟩
 ·exact ⟨h,rfl,by omega⟩
theorem xE {t : Tr} (h : aB t=true) (i : Int) (v : Verd) : aB (dh t i v)=true∧(dh t i v).root=t.root∧(dh t i v).cells.length=t.cells.length∧af (dh t i v)=af t:=by
 unfold dh
 split
 ·rename_i hs
  simp only [bv,Bool.and_eq_true,decide_eq_true_eq] at hs
  obtain ⟨⟨⟨⟨⟨h1,h2⟩,h3⟩,h4⟩,h5⟩,h6⟩:=hs
  obtain ⟨L,hL⟩:=Option.isSome_iff_exists.1 h
  obtain ⟨c,hc,hl,hv⟩:=vp h4
  have:=xD hL hc hl h6
  exact ⟨by rw [aB,this];rfl,rfl,by simp [dD],by simp [af,this,hL]⟩
 ·exact ⟨h,rfl,rfl,rfl⟩
end Go.Ab
namespace Go.Ab
open Go.Proofs
def fo (r : List (Int × Int)) : Tr:=if cD r then ⟨r,[bh bz]⟩ else ⟨[],[]⟩
theorem BN {r : List (Int × Int)} (h : cD r=true) : bq ⟨r,[bh bz]⟩=some [some r]:=by
 have hs : dS ⟨r,[bh bz]⟩=true:=by simp [dS,h]
 rw [bq,if_pos hs]
 simp only [fT,List.length_singleton,Nat.sub_self,List.replicate,iX]
 rw [gt (t:=⟨r,[]⟩) (b:=r) rfl (iP _),if_pos (show bX (bh bz).v=true from At)]
theorem EP {r : List (Int × Int)} (h : cD r=false) : bq ⟨r,[bh bz]⟩=none:=by
 have hs : dS ⟨r,[bh bz]⟩=false:=by simp [dS,h]
 rw [bq,if_neg (by simp [hs])]
theorem vq (r : List (Int × Int)) : aB ⟨r,[bh bz]⟩=cD r:=by
 cases h : cD r with
 |true=>rw [aB,BN h];rfl
 |false=>rw [aB,EP h];rfl
end Go.Ab
namespace Go.Ab
open Go.Proofs
theorem sg {α β : Type} {f : α→β→Bool} {xs : List α} {ys : List β} : bZ f xs ys=true↔∀ (i : Nat) x y,xs[i]?=some x→ys[i]?=some y→f x y=true:=by
 unfold bZ
 rw [List.all_eq_true]
 constructor
 ·intro h i x y hx hy
  have : (List.zipWith f xs ys)[i]?=some (f x y):=by simp [List.getElem?_zipWith,hx,hy]
  exact h _ (List.mem_of_getElem? this)
 ·intro h z hz
  obtain ⟨i,hi⟩:=List.getElem?_of_mem hz
  rw [List.getElem?_zipWith] at hi
  cases hx : xs[i]? with
  |none=>simp [hx] at hi
  |some x=>
   cases hy : ys[i]? with
   |none=>simp [hx,hy] at hi
   |some y=>
    simp [hx,hy] at hi
    rw [← hi];exact h i x y hx hy
theorem s7 {b : Bx} {c : List Int} (hv : aD vI b=true) : cI b c=true↔b.length=c.length∧∀ (i : Nat) x y,b[i]?=some x→c[i]?=some y→x.1≤y∧y≤x.2:=by
 simp only [cI,Bool.and_eq_true,decide_eq_true_eq,sg]
 constructor
 ·rintro ⟨h1,h2⟩
  refine ⟨h1,fun i x y hx hy=>?_⟩
  have:=h2 i x y hx hy
  simp only [j9,Bool.and_eq_true,decide_eq_true_eq] at this
  exact ⟨this.1.2,this.2⟩
 ·rintro ⟨h1,h2⟩
  refine ⟨h1,fun i x y hx hy=>?_⟩
  simp only [j9,Bool.and_eq_true,decide_eq_true_eq]
  exact ⟨⟨bO.1 hv _ (List.mem_of_getElem? hx),(h2 i x y hx hy).1⟩,(h2 i x y hx hy).2⟩
theorem kS {a b : Bx} (ha : aD vI a=true) (hb : aD vI b=true) : bj a b=true↔a.length=b.length∧∀ (i : Nat) x y,a[i]?=some x→b[i]?=some y→x.1≤y.2∧y.1≤x.2:=by
 simp only [bj,Bool.and_eq_true,decide_eq_true_eq,sg]
 constructor
 ·rintro ⟨h1,h2⟩
  refine ⟨h1,fun i x y hx hy=>?_⟩
  have:=h2 i x y hx hy
  simp only [dG,Bool.and_eq_true,decide_eq_true_eq] at this
  omega
 ·rintro ⟨h1,h2⟩
  refine ⟨h1,fun i x y hx hy=>?_⟩
  have vx : am x.1 x.2=true:=bO.1 ha _ (List.mem_of_getElem? hx)
  have vy : am y.1 y.2=true:=bO.1 hb _ (List.mem_of_getElem? hy)
  simp only [dG,vx,vy,Bool.and_eq_true,decide_eq_true_eq,true_and]
  have:=h2 i x y hx hy
  have:=bN.1 vx
  have:=bN.1 vy
  omega
theorem iB {a b : Bx} (h : bj a b=true) : a.length=b.length∧aD vI a=true∧aD vI b=true:=by
 simp only [bj,Bool.and_eq_true,decide_eq_true_eq,sg] at h
 obtain ⟨h1,h2⟩:=h
 refine ⟨h1,bO.2 fun x hx=>?_,bO.2 fun y hy=>?_⟩
 ·obtain ⟨i,hi⟩:=List.getElem?_of_mem hx
  have hlt:=(List.getElem?_eq_some_iff.1 hi).1
  have:=h2 i x (b[i]'(by omega)) hi (List.getElem?_eq_getElem _)
  simp only [dG,Bool.and_eq_true] at this
  exact this.1.1
 ·obtain ⟨i,hi⟩:=List.getElem?_of_mem hy
  have hlt:=(List.getElem?_eq_some_iff.1 hi).1
  have:=h2 i (a[i]'(by omega)) y (List.getElem?_eq_getElem _) hi
  simp only [dG,Bool.and_eq_true] at this
  exact this.1.2
def qq (x y : Int × Int) : Int × Int:=(max x.1 y.1,min x.2 y.2)
def cL (a b : Bx) : Bx:=List.zipWith qq a b
def cH (a b : Bx) (q : List Int) : Bool:=bj a b && decide (q.length=a.length)
def eX (a b : Bx) (q : List Int) : List Int:=if cH a b q then fc (cL a b) q else []
theorem lw {a b : Bx} (h : a.length=b.length) : (cL a b).length=a.length:=by simp [cL];omega
theorem Av {a b : Bx} {i : Nat} {z : Int × Int} (h : (cL a b)[i]?=some z) : ∃ x y,a[i]?=some x∧b[i]?=some y∧z=qq x y:=by
 rw [cL,List.getElem?_zipWith] at h
 cases hx : a[i]? with
 |none=>simp [hx] at h
 |some x=>
  cases hy : b[i]? with
  |none=>simp [hx,hy] at h
  |some y=>simp [hx,hy] at h;exact ⟨x,y,rfl,rfl,h.symm⟩
theorem xF {a b : Bx} (h : bj a b=true) : aD vI (cL a b)=true:=by
 obtain ⟨h1,ha,hb⟩:=iB h
 have ht:=(kS ha hb).1 h
 refine bO.2 fun z hz=>?_
 obtain ⟨i,hi⟩:=List.getElem?_of_mem hz
 obtain ⟨x,y,hx,hy,rfl⟩:=Av hi
 have vx:=bN.1 (bO.1 ha _ (List.mem_of_getElem? hx))
 have vy:=bN.1 (bO.1 hb _ (List.mem_of_getElem? hy))
 have:=ht.2 i x y hx hy
 exact bN.2 ⟨by simp only [qq];omega,by simp only [qq];omega,by simp only [qq];omega⟩
theorem BO {a b : Bx} {q : List Int} (h : bj a b=true) (hq : q.length=a.length) : eX a b q=List.zipWith i7 (cL a b) q:=by
 obtain ⟨h1,ha,hb⟩:=iB h
 simp [eX,cH,h,hq,fc,xF h,lw h1]
theorem Aw {a b : Bx} {q : List Int} (h : bj a b=true) (hq : q.length=a.length) : (eX a b q).length=a.length:=by
 rw [BO h hq];simp [lw (iB h).1,hq]
theorem Fr {a b : Bx} {q : List Int} (h : bj a b=true) (hq : q.length=a.length) {i : Nat} {p : Int} (hp : (eX a b q)[i]?=some p) : ∃ x y c,a[i]?=some x∧b[i]?=some y∧q[i]?=some c∧p=i7 (qq x y) c∧x.1≤y.2∧y.1≤x.2∧x.1≤x.2∧y.1≤y.2:=by
 obtain ⟨h1,ha,hb⟩:=iB h
 have ht:=(kS ha hb).1 h
 rw [BO h hq,List.getElem?_zipWith] at hp
 cases hz : (cL a b)[i]? with
 |none=>simp [hz] at hp
 |some z=>
  cases hc : q[i]? with
  |none=>simp [hz,hc] at hp
  |some c=>
   simp [hz,hc] at hp
   obtain ⟨x,y,hx,hy,rfl⟩:=Av hz
   have vx:=bN.1 (bO.1 ha _ (List.mem_of_getElem? hx))
   have vy:=bN.1 (bO.1 hb _ (List.mem_of_getElem? hy))
   have:=ht.2 i x y hx hy
   exact ⟨x,y,c,hx,hy,rfl,hp.symm,this.1,this.2,vx.2.1,vy.2.1⟩
theorem N5 {a b : Bx} {q : List Int} (h : bj a b=true) (hq : q.length=a.length) : cI a (eX a b q)=true∧cI b (eX a b q)=true:=by
 obtain ⟨h1,ha,hb⟩:=iB h
 have hl:=Aw h hq
 constructor
 ·refine (s7 ha).2 ⟨hl.symm,fun i x p hx hp=>?_⟩
  obtain ⟨x',y,c,hx',hy,hc,rfl,e1,e2,e3,e4⟩:=Fr h hq hp
  rw [hx] at hx';injection hx' with hx';subst hx'
  simp only [i7,qq];omega
 ·refine (s7 hb).2 ⟨by omega,fun i y p hy hp=>?_⟩
  obtain ⟨x,y',c,hx,hy',hc,rfl,e1,e2,e3,e4⟩:=Fr h hq hp
  rw [hy] at hy';injection hy' with hy';subst hy'
  simp only [i7,qq];omega
end Go.Ab
namespace Go.Ab
open Go.Proofs
theorem Dm {t : Tr} (hv : aB t=true) {i : Nat} {c : Cel} (hc : t.cells[i]?=some c) : (c.low==-1)=bM c∧(bM c=false→fS t.cells.length i c=true):=by
 obtain ⟨L,hL⟩:=Option.isSome_iff_exists.1 hv
 have hp:=ju (P:=fun k _=>i < k→(c.low==-1)=bM c∧(bM c=false→fS t.cells.length i c=true)) hL (by intro h;omega) (fun k d M M' hk hp hm hi=>by
  by_cases e : k=i
  ·subst e
   rw [hc] at hk;injection hk with hk;subst hk
   obtain ⟨b,hb,⟨h1,_,_⟩|⟨h1,h2,_⟩⟩:=eO hm
   ·refine ⟨?_,fun h=>by rw [h1] at h;cases h⟩
    rw [h1];simp [bM] at h1;simp [h1]
   ·refine ⟨?_,fun _=>h2⟩
    rw [h1]
    have:=eP.1 h2
    simp;omega
  ·exact hp (by omega))
 exact hp (List.getElem?_eq_some_iff.1 hc).1
def aq (t : Tr) (c : Int) : Bx:=(af t)[c.toNat]?.getD []
theorem dy {t : Tr} (hv : aB t=true) {c : Int} (h : c.toNat < t.cells.length) : (af t)[c.toNat]?=some (aq t c)∧(aq t c).length=t.root.length∧aD vI (aq t c)=true:=by
 have hl : c.toNat < (af t).length:=by rw [bS hv];exact h
 have e : (af t)[c.toNat]?=some (aq t c):=by simp [aq,List.getElem?_eq_getElem hl]
 exact ⟨e,dC e⟩
def iC (t : Tr) (chain : List Int) (j : Nat) : Bool:=match chain[j]? with
 |some c=>decide (0≤c) && decide (c < t.cells.length) && cZ t c.toNat && !((chain.take j).contains c) && (decide (j=0) || bj (aq t (chain[j - 1]?.getD 0)) (aq t c))
 |none=>false
def nM (t : Tr) (chain : List Int) (n : Nat) : Bool:=(List.range n).all (iC t chain)
theorem xH (t : Tr) (chain : List Int) : nM t chain 0=true:=by simp [nM]
theorem kn {t : Tr} {chain : List Int} {n : Nat} : nM t chain n=true↔∀ j,j < n→iC t chain j=true:=by
 simp [nM,List.all_eq_true]
theorem oT {t : Tr} {chain : List Int} {n : Nat} (h : nM t chain n=true) (hs : iC t chain n=true) : nM t chain (n+1)=true:=by
 rw [kn] at h ⊢
 intro j hj
 by_cases e : j=n
 ·rw [e];exact hs
 ·exact h j (by omega)
theorem vr {t : Tr} {chain : List Int} {j : Nat} (hj : j < chain.length) (hs : iC t chain j=false) : nM t chain chain.length=false:=by
 cases h : nM t chain chain.length with
 |false=>rfl
 |true=>rw [kn.1 h j hj] at hs;cases hs
theorem ej {t : Tr} {chain : List Int} {j : Nat} {c : Int} (hc : chain[j]?=some c) : iC t chain j=true↔0≤c∧c < t.cells.length∧cZ t c.toNat=true∧c ∉ chain.take j∧(j=0∨bj (aq t (chain[j - 1]?.getD 0)) (aq t c)=true):=by
 simp [iC,hc,and_assoc]
def fU (t : Tr) (chain p q : List Int) : Bool:=aB t && cI t.root p && cI t.root q && decide (chain≠[]) && nM t chain chain.length
def qu (t : Tr) (chain p q : List Int) : Bool:=cI (aq t (chain[0]?.getD 0)) p && cI (aq t (chain[chain.length - 1]?.getD 0)) q
def bk (t : Tr) (chain p q : List Int) : Bool:=fU t chain p q && qu t chain p q
def nN (t : Tr) (chain p : List Int) : Nat→List Int
 |0=>p
 |k+1=>eX (aq t (chain[k]?.getD 0)) (aq t (chain[k+1]?.getD 0)) (nN t chain p k)
def dM (t : Tr) (chain p q : List Int) : List (List Int):=if bk t chain p q then (List.range chain.length).map (nN t chain p)++[q] else []
structure ChOk (t : Tr) (chain p q : List Int) : Prop where
 valid : aB t=true
 hp : cI t.root p=true
 hq : cI t.root q=true
 ne : chain≠[]
 all : ∀ j,j < chain.length→iC t chain j=true
theorem iD {t : Tr} {chain p q : List Int} : fU t chain p q=true↔ChOk t chain p q:=by
 simp only [fU,Bool.and_eq_true,decide_eq_true_eq,kn]
 exact ⟨fun ⟨⟨⟨⟨a,b⟩,c⟩,d⟩,e⟩=>⟨a,b,c,d,e⟩,fun ⟨a,b,c,d,e⟩=>⟨⟨⟨⟨a,b⟩,c⟩,d⟩,e⟩⟩
namespace ChOk
variable {t : Tr} {chain p q : List Int}
theorem get (h : ChOk t chain p q) {j : Nat} (hj : j < chain.length) : 0≤chain[j]∧chain[j] < t.cells.length∧cZ t chain[j].toNat=true∧chain[j] ∉ chain.take j∧(j=0∨bj (aq t (chain[j - 1]?.getD 0)) (aq t chain[j])=true):=
 (ej (List.getElem?_eq_getElem hj)).1 (h.all j hj)
theorem box (h : ChOk t chain p q) {j : Nat} (hj : j < chain.length) : (af t)[chain[j].toNat]?=some (aq t chain[j])∧(aq t chain[j]).length=t.root.length∧aD vI (aq t chain[j])=true:=by
 have:=h.get hj
 exact dy h.valid (by omega)
theorem touch (h : ChOk t chain p q) {j : Nat} (hj : j+1 < chain.length) : bj (aq t chain[j]) (aq t chain[j+1])=true:=by
 have:=(h.get hj).2.2.2.2
 rcases this with e|e
 ·omega
 ·rw [Nat.add_sub_cancel,List.getElem?_eq_getElem (by omega)] at e;exact e
theorem plen (h : ChOk t chain p q) : p.length=t.root.length:=by
 have:=h.hp
 simp only [cI,Bool.and_eq_true,decide_eq_true_eq] at this
 exact this.1.symm
theorem pt_len (h : ChOk t chain p q) : ∀ {k : Nat},k < chain.length→(nN t chain p k).length=t.root.length
 |0,_=>h.plen
 |k+1,hk=>by
  have ih:=pt_len h (k:=k) (by omega)
  simp only [nN]
  rw [List.getElem?_eq_getElem (by omega : k < chain.length),List.getElem?_eq_getElem hk]
  simp only [Option.getD_some]
  rw [Aw (h.touch hk) (by rw [ih,(h.box (by omega)).2.1])]
  exact (h.box (by omega)).2.1
theorem pt_ok (h : ChOk t chain p q) {k : Nat} (hk : k+1 < chain.length) : cH (aq t chain[k]) (aq t chain[k+1]) (nN t chain p k)=true:=by
 simp [cH,h.touch hk,h.pt_len (by omega : k < chain.length),(h.box (by omega : k < chain.length)).2.1]
theorem pt_succ (h : ChOk t chain p q) {k : Nat} (hk : k+1 < chain.length) : nN t chain p (k+1)=eX (aq t chain[k]) (aq t chain[k+1]) (nN t chain p k):=by
 simp only [nN]
 rw [List.getElem?_eq_getElem (by omega : k < chain.length),List.getElem?_eq_getElem hk]
 rfl
end ChOk
end Go.Ab
namespace Go.Ab
open Go.Proofs
structure BS where
 far : List Int
 q : List Nat
section
variable (n : Nat) (may has hasF : Nat→Bool) (tch : Nat→Nat→Bool)
def bf (far : List Int) (i : Nat) : Int:=far[i]?.getD 0
def bI : Nat→BS
 |0=>⟨List.replicate n 0,[]⟩
 |i+1=>if may i && has i then ⟨(bI i).far.set i 1,(bI i).q++[i]⟩ else bI i
def jv (s : BS) (k : Nat) : Nat:=s.q[k]?.getD 0
def DZ (s : BS) (k i : Nat) : Bool:=(bf s.far i==0) && may i && tch i (jv s k)
def BP (s : BS) (k i : Nat) : BS:=⟨s.far.set i (bf s.far (jv s k)+1),s.q++[i]⟩
def bJ (s : BS) (k : Nat) : Nat→BS
 |0=>s
 |i+1=>if DZ may tch (bJ s k i) k i then BP (bJ s k i) k i else bJ s k i
def bK : Nat→BS
 |0=>bI n may has n
 |k+1=>if k < (bK k).q.length then bJ may tch (bK k) k n else bK k
structure BInv2 (s : BS) : Prop where
 len : s.far.length=n
 cnt : s.far.countP (fun x=>x !=0)=s.q.length
 mem : ∀ j ∈ s.q,j < n∧1≤bf s.far j
 nn : ∀ i,0≤bf s.far i
 top : ∀ i,bf s.far i≤s.q.length
 may' : ∀ i,1≤bf s.far i→may i=true
 back : ∀ i,1≤bf s.far i→(bf s.far i=1∧has i=true)∨∃ p,p < n∧bf s.far p=bf s.far i - 1∧1≤bf s.far p∧tch i p=true
variable {n may has hasF tch}
theorem lF {far : List Int} {i j : Nat} {v : Int} (hi : i < far.length) : bf (far.set i v) j=if j=i then v else bf far j:=by
 unfold bf
 rw [List.getElem?_set]
 by_cases h : i=j
 ·subst h;simp [hi]
 ·rw [if_neg h,if_neg (fun e=>h e.symm)]
theorem BInv2.le {s : BS} (h : BInv2 n may has tch s) : s.q.length≤n:=by
 rw [← h.cnt,← h.len];exact List.countP_le_length
theorem EQ {far : List Int} {i : Nat} {v : Int} (hi : i < far.length) (h0 : bf far i=0) (hv : v≠0) : (far.set i v).countP (fun x=>x !=0)=far.countP (fun x=>x !=0)+1:=by
 have h0' : far[i]=0:=by simpa [bf,List.getElem?_eq_getElem hi] using h0
 rw [List.countP_set hi]
 simp [h0',hv]
theorem BInv2.put {s : BS} (h : BInv2 n may has tch s) {i : Nat} {v : Int} (hi : i < n) (h0 : bf s.far i=0) (hv : 1≤v) (hm : may i=true) (ht : v≤s.q.length+1)
 (hb : (v=1∧has i=true)∨∃ p,p < n∧bf s.far p=v - 1∧1≤bf s.far p∧tch i p=true) : BInv2 n may has tch ⟨s.far.set i v,s.q++[i]⟩:=by
 have hil : i < s.far.length:=by rw [h.len];exact hi
 refine ⟨by simpa using h.len,?_,?_,?_,?_,?_,?_⟩
 ·simp only [List.length_append,List.length_singleton];rw [EQ hil h0 (by omega),h.cnt]
 ·intro j hj
  simp only [List.mem_append,List.mem_singleton] at hj
  simp only [lF hil]
  rcases hj with hj|rfl
  ·refine ⟨(h.mem j hj).1,?_⟩
   split
   ·exact hv
   ·exact (h.mem j hj).2
  ·exact ⟨hi,by simp [hv]⟩
 ·intro j;simp only [lF hil];split
  ·omega
  ·exact h.nn j
 ·intro j;simp only [lF hil,List.length_append,List.length_singleton]
  have:=h.top j
  split<;>omega
 ·intro j;simp only [lF hil];split
  ·rename_i e;rw [e];exact fun _=>hm
  ·exact h.may' j
 ·have hpn : ∀ p,1≤bf s.far p→p≠i:=fun p hp e=>by rw [e,h0] at hp;omega
  intro j;simp only [lF hil];split
  ·rename_i e;rw [e];intro _
   rcases hb with hb|⟨p,p1,p2,p3,p4⟩
   ·exact .inl hb
   ·exact .inr ⟨p,p1,by rw [if_neg (hpn p p3)];exact p2,by rw [if_neg (hpn p p3)];exact p3,p4⟩
  ·intro hj
   rcases h.back j hj with hb|⟨p,p1,p2,p3,p4⟩
   ·exact .inl hb
   ·exact .inr ⟨p,p1,by rw [if_neg (hpn p p3)];exact p2,by rw [if_neg (hpn p p3)];exact p3,p4⟩
theorem xI : ∀ i,i≤n→BInv2 n may has tch (bI n may has i)∧∀ j,i≤j→bf (bI n may has i).far j=0
 |0,_=>by
  have hz : ∀ j,bf (List.replicate n (0 : Int)) j=0:=fun j=>by simp only [bf,List.getElem?_replicate];split<;>rfl
  refine ⟨⟨by simp [bI],by simp [bI,List.countP_replicate],by simp [bI],fun j=>by simp only [bI,hz];omega,fun j=>by simp only [bI,hz];simp,fun j hj=>by simp only [bI,hz] at hj;omega,fun j hj=>by simp only [bI,hz] at hj;omega⟩,fun j _=>by simp only [bI,hz]⟩
 |i+1,hi=>by
  obtain ⟨ih,iz⟩:=xI i (by omega)
  simp only [bI]
  split
  ·rename_i hc
   simp only [Bool.and_eq_true] at hc
   refine ⟨ih.put (by omega) (iz i (Nat.le_refl _)) (by omega) hc.1 (by omega) (.inl ⟨rfl,hc.2⟩),fun j hj=>?_⟩
   simp only [lF (show i < (bI n may has i).far.length by rw [ih.len];omega)]
   rw [if_neg (by omega)];exact iz j (by omega)
  ·exact ⟨ih,fun j hj=>iz j (by omega)⟩
theorem xJ {s : BS} {k : Nat} (hs : BInv2 n may has tch s) (hk : k < s.q.length) : ∀ i,i≤n→BInv2 n may has tch (bJ may tch s k i)∧s.q.length≤(bJ may tch s k i).q.length∧jv (bJ may tch s k i) k=jv s k
 |0,_=>⟨hs,Nat.le_refl _,rfl⟩
 |i+1,hi=>by
  obtain ⟨ih,il,iq⟩:=xJ hs hk i (by omega)
  simp only [bJ]
  split
  ·rename_i hc
   simp only [DZ,Bool.and_eq_true,beq_iff_eq] at hc
   have hmem : jv (bJ may tch s k i) k ∈ (bJ may tch s k i).q:=by
    unfold jv
    rw [List.getElem?_eq_getElem (by omega : k < (bJ may tch s k i).q.length)]
    exact List.getElem_mem _
   have hq:=ih.mem _ hmem
   refine ⟨ih.put (by omega) hc.1.1 (by omega) hc.1.2 (by have:=ih.top (jv (bJ may tch s k i) k);omega) (.inr ⟨_,hq.1,by omega,hq.2,hc.2⟩),by simp only [BP,List.length_append,List.length_singleton];omega,?_⟩
   rw [← iq]
   simp only [BP,jv]
   rw [List.getElem?_append_left (by omega)]
  ·exact ⟨ih,il,iq⟩
theorem xL : ∀ k,BInv2 n may has tch (bK n may has tch k)
 |0=>(xI n (Nat.le_refl _)).1
 |k+1=>by
  have ih:=xL k
  simp only [bK]
  split
  ·rename_i hk
   exact (xJ ih hk n (Nat.le_refl _)).1
  ·exact ih
theorem zb {k : Nat} (h : ¬ k < (bK n may has tch k).q.length) : ∀ m,bK n may has tch (k+m)=bK n may has tch k
 |0=>rfl
 |m+1=>by
  have ih:=zb h m
  rw [← Nat.add_assoc]
  simp only [bK]
  rw [ih,if_neg (by omega)]
def aS (far : List Int) (hasF : Nat→Bool) : Nat→Int
 |0=>-1
 |i+1=>if decide (0 < bf far i) && hasF i && (decide (aS far hasF i < 0) || decide (bf far i < bf far (aS far hasF i).toNat)) then (i : Int) else aS far hasF i
theorem xM {far : List Int} : ∀ i,-1≤aS far hasF i∧aS far hasF i < i∧(0≤aS far hasF i→0 < bf far (aS far hasF i).toNat∧hasF (aS far hasF i).toNat=true)
 |0=>by simp [aS]
 |i+1=>by
  have ih:=xM (far:=far) i
  simp only [aS]
  split
  ·rename_i hc
   simp only [Bool.and_eq_true,decide_eq_true_eq] at hc
   refine ⟨by omega,by omega,fun _=>?_⟩
   rw [Int.toNat_natCast];exact ⟨hc.1.1,hc.1.2⟩
  ·exact ⟨ih.1,by omega,ih.2.2⟩
def nC (far : List Int) (tch : Nat→Nat→Bool) (at_ i : Nat) : Bool:=(bf far i==bf far at_ - 1) && tch i at_
def nS (n : Nat) (far : List Int) (tch : Nat→Nat→Bool) (at_ : Nat) : Nat→Int
 |0=>-1
 |m+1=>if nC far tch at_ (n - 1 - m) then ((n - 1 - m : Nat) : Int) else nS n far tch at_ m
theorem BQ {far : List Int} {at_ : Nat} : ∀ m,m≤n→(0≤nS n far tch at_ m→(nS n far tch at_ m).toNat < n∧nC far tch at_ (nS n far tch at_ m).toNat=true)∧(∀ i,i < n→n - m≤i→nC far tch at_ i=true→0≤nS n far tch at_ m)∧-1≤nS n far tch at_ m
 |0,_=>by simp [nS];omega
 |m+1,hm=>by
  have ih:=BQ (far:=far) (at_:=at_) m (by omega)
  simp only [nS]
  split
  ·rename_i hc
   refine ⟨fun _=>?_,fun _ _ _ _=>by omega,by omega⟩
   rw [Int.toNat_natCast];exact ⟨by omega,hc⟩
  ·rename_i hc
   refine ⟨ih.1,fun i h1 h2 h3=>?_,ih.2.2⟩
   by_cases e : i=n - 1 - m
   ·rw [e] at h3;exact absurd h3 hc
   ·exact ih.2.1 i h1 (by omega) h3
def xP (n : Nat) (far : List Int) (tch : Nat→Nat→Bool) (at_ : Nat) : Nat:=(nS n far tch at_ n).toNat
theorem xQ {s : BS} (h : BInv2 n may has tch s) (hsym : ∀ i j,i < n→j < n→tch i j=tch j i) {a : Nat} (hl : a < n) (ha : 1 < bf s.far a) : nS n s.far tch a n=(xP n s.far tch a : Int)∧xP n s.far tch a < n∧bf s.far (xP n s.far tch a)=bf s.far a - 1∧tch (xP n s.far tch a) a=true:=by
 have hr:=BQ (n:=n) (tch:=tch) (far:=s.far) (at_:=a) n (Nat.le_refl _)
 rcases h.back a (by omega) with ⟨e,_⟩|⟨p,p1,p2,p3,p4⟩
 ·omega
 ·have hp : nC s.far tch a p=true:=by
   simp only [nC,p2,beq_self_eq_true,Bool.true_and];rw [hsym p a p1 hl];exact p4
  have h0:=hr.2.1 p p1 (by omega) hp
  obtain ⟨h1,h2⟩:=hr.1 h0
  simp only [nC,Bool.and_eq_true,beq_iff_eq] at h2
  exact ⟨by unfold xP;omega,h1,h2.1,h2.2⟩
def pS (n : Nat) (far : List Int) (tch : Nat→Nat→Bool) (a : Nat) : Nat→Nat
 |0=>a
 |r+1=>xP n far tch (pS n far tch a r)
theorem vS {s : BS} (h : BInv2 n may has tch s) (hsym : ∀ i j,i < n→j < n→tch i j=tch j i) {a : Nat} (hl : a < n) (ha : 0 < bf s.far a) : ∀ r : Nat,(r : Int) < bf s.far a→pS n s.far tch a r < n∧bf s.far (pS n s.far tch a r)=bf s.far a - r
 |0,_=>⟨hl,by simp [pS]⟩
 |r+1,hr=>by
  obtain ⟨i1,i2⟩:=vS h hsym hl ha r (by omega)
  have:=xQ h hsym i1 (by omega)
  simp only [pS]
  exact ⟨this.2.1,by rw [this.2.2.1,i2];omega⟩
theorem Dn {s : BS} (h : BInv2 n may has tch s) (hsym : ∀ i j,i < n→j < n→tch i j=tch j i) {a : Nat} (hl : a < n) (ha : 0 < bf s.far a) {r : Nat} (hr : (r : Int)+1 < bf s.far a) : tch (pS n s.far tch a (r+1)) (pS n s.far tch a r)=true:=by
 obtain ⟨i1,i2⟩:=vS h hsym hl ha r (by omega)
 exact (xQ h hsym i1 (by omega)).2.2.2
end
def lx (n : Nat) (may has hasF : Nat→Bool) (tch : Nat→Nat→Bool) : Int:=aS (bK n may has tch n).far hasF n
def gl (n : Nat) (may has hasF : Nat→Bool) (tch : Nat→Nat→Bool) : Bool:=decide (0≤lx n may has hasF tch)
def gT (n : Nat) (may has hasF : Nat→Bool) (tch : Nat→Nat→Bool) : List Nat:=if gl n may has hasF tch then (List.range (bf (bK n may has tch n).far (lx n may has hasF tch).toNat).toNat).map (pS n (bK n may has tch n).far tch (lx n may has hasF tch).toNat) else []
theorem oU {n : Nat} {may has hasF : Nat→Bool} {tch : Nat→Nat→Bool} (hsym : ∀ i j,i < n→j < n→tch i j=tch j i) (h : gl n may has hasF tch=true) :
 let l:=gT n may has hasF tch
 0 < l.length∧l.length≤n∧(∀ (r : Nat) x,l[r]?=some x→x < n∧may x=true∧x ∉ l.take r)∧(∀ (r : Nat) x y,l[r]?=some x→l[r+1]?=some y→tch x y=true)∧
  (∀ x,l[0]?=some x→hasF x=true)∧(∀ x,l[l.length - 1]?=some x→has x=true):=by
 simp only [gl,decide_eq_true_eq] at h
 have hI:=xL (n:=n) (may:=may) (has:=has) (tch:=tch) n
 have ha:=xM (hasF:=hasF) (far:=(bK n may has tch n).far) n
 have h' : decide (0≤lx n may has hasF tch)=true:=by simpa using h
 simp only [gT,gl,h',if_true]
 unfold lx at h ⊢
 obtain ⟨a1,a2,a3⟩:=ha
 obtain ⟨a4,a5⟩:=a3 h
 generalize hA : (aS (bK n may has tch n).far hasF n).toNat=a at *
 have hl : a < n:=by omega
 have htop:=hI.top a
 have hle:=hI.le
 generalize bK n may has tch n=s at *
 have hp:=vS hI hsym hl a4
 have ht:=fun {r : Nat}=>Dn (r:=r) hI hsym hl a4
 have hget : ∀ (r : Nat) x,((List.range (bf s.far a).toNat).map (pS n s.far tch a))[r]?=some x→(r : Int) < bf s.far a∧x=pS n s.far tch a r:=by
  intro r x hx
  rw [List.getElem?_map,Option.map_eq_some_iff] at hx
  obtain ⟨y,hy,rfl⟩:=hx
  obtain ⟨h1,h2⟩:=List.getElem?_eq_some_iff.1 hy
  simp at h1 h2
  exact ⟨by omega,by rw [h2]⟩
 refine ⟨by simp;omega,by simp;omega,?_,?_,?_,?_⟩
 ·intro r x hx
  obtain ⟨h1,rfl⟩:=hget r x hx
  obtain ⟨h2,h3⟩:=hp r h1
  refine ⟨h2,hI.may' _ (by omega),fun hm=>?_⟩
  obtain ⟨q,hq⟩:=List.getElem?_of_mem hm
  rw [List.getElem?_take] at hq
  split at hq
  ·rename_i hqr
   obtain ⟨h4,h5⟩:=hget q _ hq
   have:=(hp q h4).2
   rw [← h5,h3] at this
   omega
  ·cases hq
 ·intro r x y hx hy
  obtain ⟨h1,rfl⟩:=hget r x hx
  obtain ⟨h2,rfl⟩:=hget (r+1) y hy
  rw [hsym _ _ (hp r h1).1 (hp (r+1) h2).1]
  exact ht (by omega)
 ·intro x hx
  obtain ⟨h1,rfl⟩:=hget 0 x hx
  exact a5
 ·intro x hx
  obtain ⟨h1,rfl⟩:=hget _ x hx
  simp only [List.length_map,List.length_range] at h1 hx ⊢
  obtain ⟨h2,h3⟩:=hp _ h1
  rcases hI.back _ (show 1≤bf s.far (pS n s.far tch a ((bf s.far a).toNat - 1)) by omega) with hb|⟨p,p1,p2,p3,p4⟩
  ·exact hb.2
  ·omega
end Go.Ab
namespace Go.Ab
open Go.Proofs
set_option maxRecDepth 100000 in
@[simp] theorem IH : er Tryz.prog 118:=by
 have hf:=Tryz.func118;have nt:=Tryz.ntmps118;have rs:=Tryz.results118;exact E2
set_option maxRecDepth 100000 in
@[simp] theorem I7 : er Tryz.prog 54:=by
 have hf:=Tryz.func54;have nt:=Tryz.ntmps54;have rs:=Tryz.results54;exact E2
set_option maxRecDepth 100000 in
@[simp] theorem I8 : er Tryz.prog 89:=by
 have hf:=Tryz.func89;have nt:=Tryz.ntmps89;have rs:=Tryz.results89;exact E3
set_option maxRecDepth 100000 in
@[simp] theorem I9 : er Tryz.prog 50:=by
 have hf:=Tryz.func50;have nt:=Tryz.ntmps50;have rs:=Tryz.results50;exact E3
end Go.Ab
namespace Go.Ab
open Go.Proofs
theorem EG {P : Program} (D : Nat) {t e : TypeId} (ht : P.underlying t=some (.array 3 e)) (hs : ag P (sizeOf e)=some 1) (e0 : ∀ x y : Int,ag P (Op.equalIn D e (.int .i64 x) (.int .i64 y))=some (x==y)) {xs ys : Array Value} {a b c a' b' c' : Int}
 (p0 : ag P (part e xs (0 * 1))=some (.int .i64 a)) (p1 : ag P (part e xs (1 * 1))=some (.int .i64 b)) (p2 : ag P (part e xs (2 * 1))=some (.int .i64 c))
 (q0 : ag P (part e ys (0 * 1))=some (.int .i64 a')) (q1 : ag P (part e ys (1 * 1))=some (.int .i64 b')) (q2 : ag P (part e ys (2 * 1))=some (.int .i64 c')) :
 ag P (Op.equalIn (D+1) t (.agg xs) (.agg ys))=some (a==a' && b==b' && c==c'):=by
 simp only [Op.equalIn,ae,fK ht,Option.bind_some]
 simp only [hs,Option.bind_some,Std.Legacy.Range.forIn_eq_forIn_range',Std.Legacy.Range.size]
 have hr : List.range' 0 ((3 - 0+1 - 1) / 1) 1=[0,1,2]:=by decide
 rw [hr]
 simp only [List.forIn_cons,List.forIn_nil,ae,p0,q0,e0,Option.bind_some]
 cases h1 : (a==a')
 ·simp [bu]
 simp only [Bool.not_true,Bool.false_eq_true,if_false,bu,Option.bind_some,ae,p1,q1,e0]
 cases h2 : (b==b')
 ·simp [bu]
 simp only [Bool.not_true,Bool.false_eq_true,if_false,bu,Option.bind_some,ae,p2,q2,e0]
 cases h3 : (c==c')
 ·simp [bu]
 ·simp [bu]
theorem Ao (a b e c d f : Int) : ag Tryz.prog (Op.equal 77 (.agg #[.int .i64 a,.int .i64 b,.int .i64 e]) (.agg #[.int .i64 c,.int .i64 d,.int .i64 f]))=some (a==c && b==d && e==f):=
 EG 9999 Tryz.underlying77 (by kernel_rfl) (fun x y=>pI (P:=Tryz.prog) 9998 2 .i64 .i64 x y Tryz.underlying2) (by kernel_rfl) (by kernel_rfl) (by kernel_rfl) (by kernel_rfl) (by kernel_rfl) (by kernel_rfl)
def mJ (x : AV) : Option (Int × Int × Int):=match x with
 |.pv (.val (.agg vs))=>match vs.toList with
  |[.int .i64 a,.int .i64 b,.int .i64 c]=>some (a,b,c)
  |_=>none
 |_=>none
theorem iN {x : AV} {a b c : Int} (h : mJ x=some (a,b,c)) : x=.pv (aH (a,b,c)):=by
 unfold mJ at h
 split at h
 ·split at h
  ·rename_i vs _ a' b' c' hv
   injection h with h;injection h with h1 h2;injection h2 with h2 h3;subst h1;subst h2;subst h3
   rw [← Array.toArray_toList (xs:=vs),hv]
  ·cases h
 ·cases h
def Dd (x y : AV) (fb : Option aT) : Option aT:=match mJ x,mJ y with
 |some (a,b,e),some (c,d,f)=>some (.pv (.val (.bool !(a==c && b==d && e==f))),[])
 |_,_=>fb
@[simp] theorem G8 (a b e c d f : Int) (fb : Option aT) : Dd (.pv (.val (.agg #[.int .i64 a,.int .i64 b,.int .i64 e]))) (.pv (.val (.agg #[.int .i64 c,.int .i64 d,.int .i64 f]))) fb=some (.pv (.val (.bool !(a==c && b==d && e==f))),[]):=rfl
@[simp] theorem JV {dst : Option Nat} {ty : TypeId} {pos : String} {aft : Array Edge} {g : Option (Nat × Bool)} {ρ : Operand→AV} (x y : Operand) :
 aG Tryz.prog ⟨dst,.binOp .neq 77 x y 77,ty,pos,aft,g⟩ ρ=Dd (ρ x) (ρ y) (dU Tryz.prog ⟨dst,.binOp .neq 77 x y 77,ty,pos,aft,g⟩ ρ):=by
 unfold Dd
 split
 ·rename_i a b e c d f hx hy
  exact sW rfl (iN hx) (iN hy) (by kernel_rfl) (Ao a b e c d f)
 ·rfl
def Ap (x y : AV) (fb : Option aT) : Option aT:=match mJ x,mJ y with
 |some (a,b,e),some (c,d,f)=>some (.pv (.val (.bool (a==c && b==d && e==f))),[])
 |_,_=>fb
end Go.Ab
