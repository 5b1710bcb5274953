/- The contracts and facts that the laws of this seat need, in one text (K6, K7, K8, K9, K11, K10, Ab26, Ab29, K11b, K11c, K11d, K11e, K12). -/
import Derived.Test.YtcalbhjelehlgaaGreatS6
set_option linter.all false
namespace Go.Ab
open Go.Proofs
def lenN (n : Nat) : Nat:=if n=0 then 0 else Nat.log2 n+1
theorem lenN_div {n k : Nat} (h : 2 ^ k≤n) : lenN n=k+lenN (n / 2 ^ k):=by
 have hk : 0 < 2 ^ k:=Nat.two_pow_pos k
 have hn : n≠0:=by omega
 have hd : n / 2 ^ k≠0:=by
  have : 1≤n / 2 ^ k:=(Nat.le_div_iff_mul_le hk).2 (by omega)
  omega
 unfold lenN
 rw [if_neg hn,if_neg hd]
 have h1:=(Nat.log2_eq_iff hd (k:=Nat.log2 (n / 2 ^ k))).1 rfl
 have h2 : Nat.log2 n=Nat.log2 (n / 2 ^ k)+k:=by
  rw [Nat.log2_eq_iff hn]
  refine ⟨?_,?_⟩
  ·rw [Nat.pow_add];exact (Nat.le_div_iff_mul_le hk).1 h1.1
  ·have:=(Nat.div_lt_iff_lt_mul hk).1 h1.2
   rw [show Nat.log2 (n / 2 ^ k)+k+1=(Nat.log2 (n / 2 ^ k)+1)+k from by omega,Nat.pow_add];exact this
 omega
theorem lenN_lt (n : Nat) : n < 2 ^ lenN n:=by
 unfold lenN
 split
 ·rename_i h;subst h;decide
 ·rename_i h;exact ((Nat.log2_eq_iff h (k:=Nat.log2 n)).1 rfl).2
theorem lenN_le {n k : Nat} (h : n < 2 ^ k) : lenN n≤k:=by
 unfold lenN
 split
 ·omega
 ·rename_i h0
  have:=((Nat.log2_eq_iff h0 (k:=Nat.log2 n)).1 rfl).1
  have h2 : 2 ^ Nat.log2 n < 2 ^ k:=Nat.lt_of_le_of_lt this h
  have:=(Nat.pow_lt_pow_iff_right (by decide : 1 < 2)).1 h2
  omega
abbrev U (n : Int) : PV:=.val (.int .u64 n)
def tab8 : ByteArray:=⟨((List.range 256).map fun i=>(lenN i).toUInt8).toArray⟩
theorem tab8_all : ∀ i,i < 256→tab8[i]?=some (lenN i).toUInt8∧(lenN i).toUInt8.toNat=lenN i:=by decide +kernel
theorem tab8_at {i : Nat} (h : i < 256) : tab8[i]?=some (lenN i).toUInt8:=(tab8_all i h).1
theorem tab8_nat {i : Nat} (h : i < 256) : (lenN i).toUInt8.toNat=lenN i:=(tab8_all i h).2
@[simp] theorem wlit16 : IntKind.i64.wrap 16=16:=by decide
@[simp] theorem wlit24 : IntKind.i64.wrap 24=24:=by decide
@[simp] theorem wlit32 : IntKind.i64.wrap 32=32:=by decide
@[simp] theorem wlit40 : IntKind.i64.wrap 40=40:=by decide
@[simp] theorem wlit48 : IntKind.i64.wrap 48=48:=by decide
@[simp] theorem wlit8b : IntKind.i64.wrap 8=8:=by decide
@[simp] theorem wlit56 : IntKind.i64.wrap 56=56:=by decide
@[simp] theorem ubits : IntKind.u64.bits=64:=rfl
theorem shrU {n m : Nat} (B : Nat) (h : n / B=m) : (n : Int).fdiv (B : Int)=(m : Int):=by
 rw [fd_,← h];exact (Int.natCast_ediv n B).symm
theorem wu8 {n : Nat} (h : n < 256) : IntKind.u8.wrap (n : Int)=n:=by
 have e : (n : Int) % 256=n:=by omega
 unfold IntKind.wrap
 simp [IntKind.signed,IntKind.bits,e]
set_option maxHeartbeats 8000000 in
set_option maxRecDepth 100000 in
theorem d186 (n : Nat) (hn : n < 18446744073709551616) : DetH Tryz.prog 186 [.pv (U n)] [] [] (.pv (Z (lenN n))):=by
 refine detP_of Tryz.func186 rfl (by kernel_rfl) (by simp [Tryz.f186]) rfl ?_
 intro C hP hN
 simp only [Tryz.f186] at hN ⊢
 conv in (ByteArray.mk _)=>change tab8
 by_cases hn32 : 4294967296≤n
 ·have en32 : lenN n=32+lenN (n / 4294967296):=lenN_div (n:=n) (k:=32) (by omega)
  have hyn32 : n / 4294967296 < 4294967296:=by omega
  have fn32 : (n : Int).fdiv 4294967296=((n / 4294967296 : Nat) : Int):=shrU 4294967296 rfl
  generalize hmn32 : n / 4294967296=n32 at *
  have gn32 : (4294967296 : Int)≤(n : Int):=by omega
  by_cases hn3216 : 65536≤n32
  ·have en3216 : lenN n32=16+lenN (n32 / 65536):=lenN_div (n:=n32) (k:=16) (by omega)
   have hyn3216 : n32 / 65536 < 65536:=by omega
   have fn3216 : (n32 : Int).fdiv 65536=((n32 / 65536 : Nat) : Int):=shrU 65536 rfl
   generalize hmn3216 : n32 / 65536=n3216 at *
   have gn3216 : (65536 : Int)≤(n32 : Int):=by omega
   by_cases hn32168 : 256≤n3216
   ·have en32168 : lenN n3216=8+lenN (n3216 / 256):=lenN_div (n:=n3216) (k:=8) (by omega)
    have hyn32168 : n3216 / 256 < 256:=by omega
    have fn32168 : (n3216 : Int).fdiv 256=((n3216 / 256 : Nat) : Int):=shrU 256 rfl
    generalize hmn32168 : n3216 / 256=n32168 at *
    have gn32168 : (256 : Int)≤(n3216 : Int):=by omega
    have ht:=tab8_at (i:=n32168) (by omega)
    have w8:=wu8 (n:=n32168) (by omega)
    have hn8:=tab8_nat (i:=n32168) (by omega)
    have hl8 : lenN n32168≤8:=lenN_le (by omega)
    have wz : IntKind.i64.wrap ((56 : Int)+(lenN n32168 : Int))=56+(lenN n32168 : Int):=wr_id (by omega) (by omega)
    have wz2 : IntKind.i64.wrap (lenN n32168 : Int)=(lenN n32168 : Int):=wr_id (by omega) (by omega)
    with_reducible repeat' (first|refine Sp.h ?_|((first|refine Ss.h ?_|(refine Sb.h ?_ ?_ ?_<;>(try intro hgd)<;>try exact Xy))<;>simp -implicitDefEqProofs (maxSteps:=2000000) [hP,hN,hn32,fn32,gn32,hn3216,fn3216,gn3216,hn32168,fn32168,gn32168,ht,hn8,wz,wz2,w8])|refine X2 ?_ ?_|(refine Xd ?_ ?_<;>intro hcd<;>try exact Xx))
    all_goals (first|omega|(simp;done)|(simp;omega)|trace_state)
   ·have gn32168 : ¬ (256 : Int)≤(n3216 : Int):=by omega
    have ht:=tab8_at (i:=n3216) (by omega)
    have w8:=wu8 (n:=n3216) (by omega)
    have hn8:=tab8_nat (i:=n3216) (by omega)
    have hl8 : lenN n3216≤8:=lenN_le (by omega)
    have wz : IntKind.i64.wrap ((48 : Int)+(lenN n3216 : Int))=48+(lenN n3216 : Int):=wr_id (by omega) (by omega)
    have wz2 : IntKind.i64.wrap (lenN n3216 : Int)=(lenN n3216 : Int):=wr_id (by omega) (by omega)
    with_reducible repeat' (first|refine Sp.h ?_|((first|refine Ss.h ?_|(refine Sb.h ?_ ?_ ?_<;>(try intro hgd)<;>try exact Xy))<;>simp -implicitDefEqProofs (maxSteps:=2000000) [hP,hN,hn32,fn32,gn32,hn3216,fn3216,gn3216,hn32168,gn32168,ht,hn8,wz,wz2,w8])|refine X2 ?_ ?_|(refine Xd ?_ ?_<;>intro hcd<;>try exact Xx))
    all_goals (first|omega|(simp;done)|(simp;omega)|trace_state)
  ·have gn3216 : ¬ (65536 : Int)≤(n32 : Int):=by omega
   by_cases hn328 : 256≤n32
   ·have en328 : lenN n32=8+lenN (n32 / 256):=lenN_div (n:=n32) (k:=8) (by omega)
    have hyn328 : n32 / 256 < 256:=by omega
    have fn328 : (n32 : Int).fdiv 256=((n32 / 256 : Nat) : Int):=shrU 256 rfl
    generalize hmn328 : n32 / 256=n328 at *
    have gn328 : (256 : Int)≤(n32 : Int):=by omega
    have ht:=tab8_at (i:=n328) (by omega)
    have w8:=wu8 (n:=n328) (by omega)
    have hn8:=tab8_nat (i:=n328) (by omega)
    have hl8 : lenN n328≤8:=lenN_le (by omega)
    have wz : IntKind.i64.wrap ((40 : Int)+(lenN n328 : Int))=40+(lenN n328 : Int):=wr_id (by omega) (by omega)
    have wz2 : IntKind.i64.wrap (lenN n328 : Int)=(lenN n328 : Int):=wr_id (by omega) (by omega)
    with_reducible repeat' (first|refine Sp.h ?_|((first|refine Ss.h ?_|(refine Sb.h ?_ ?_ ?_<;>(try intro hgd)<;>try exact Xy))<;>simp -implicitDefEqProofs (maxSteps:=2000000) [hP,hN,hn32,fn32,gn32,hn3216,gn3216,hn328,fn328,gn328,ht,hn8,wz,wz2,w8])|refine X2 ?_ ?_|(refine Xd ?_ ?_<;>intro hcd<;>try exact Xx))
    all_goals (first|omega|(simp;done)|(simp;omega)|trace_state)
   ·have gn328 : ¬ (256 : Int)≤(n32 : Int):=by omega
    have ht:=tab8_at (i:=n32) (by omega)
    have w8:=wu8 (n:=n32) (by omega)
    have hn8:=tab8_nat (i:=n32) (by omega)
    have hl8 : lenN n32≤8:=lenN_le (by omega)
    have wz : IntKind.i64.wrap ((32 : Int)+(lenN n32 : Int))=32+(lenN n32 : Int):=wr_id (by omega) (by omega)
    have wz2 : IntKind.i64.wrap (lenN n32 : Int)=(lenN n32 : Int):=wr_id (by omega) (by omega)
    with_reducible repeat' (first|refine Sp.h ?_|((first|refine Ss.h ?_|(refine Sb.h ?_ ?_ ?_<;>(try intro hgd)<;>try exact Xy))<;>simp -implicitDefEqProofs (maxSteps:=2000000) [hP,hN,hn32,fn32,gn32,hn3216,gn3216,hn328,gn328,ht,hn8,wz,wz2,w8])|refine X2 ?_ ?_|(refine Xd ?_ ?_<;>intro hcd<;>try exact Xx))
    all_goals (first|omega|(simp;done)|(simp;omega)|trace_state)
 ·have gn32 : ¬ (4294967296 : Int)≤(n : Int):=by omega
  by_cases hn16 : 65536≤n
  ·have en16 : lenN n=16+lenN (n / 65536):=lenN_div (n:=n) (k:=16) (by omega)
   have hyn16 : n / 65536 < 65536:=by omega
   have fn16 : (n : Int).fdiv 65536=((n / 65536 : Nat) : Int):=shrU 65536 rfl
   generalize hmn16 : n / 65536=n16 at *
   have gn16 : (65536 : Int)≤(n : Int):=by omega
   by_cases hn168 : 256≤n16
   ·have en168 : lenN n16=8+lenN (n16 / 256):=lenN_div (n:=n16) (k:=8) (by omega)
    have hyn168 : n16 / 256 < 256:=by omega
    have fn168 : (n16 : Int).fdiv 256=((n16 / 256 : Nat) : Int):=shrU 256 rfl
    generalize hmn168 : n16 / 256=n168 at *
    have gn168 : (256 : Int)≤(n16 : Int):=by omega
    have ht:=tab8_at (i:=n168) (by omega)
    have w8:=wu8 (n:=n168) (by omega)
    have hn8:=tab8_nat (i:=n168) (by omega)
    have hl8 : lenN n168≤8:=lenN_le (by omega)
    have wz : IntKind.i64.wrap ((24 : Int)+(lenN n168 : Int))=24+(lenN n168 : Int):=wr_id (by omega) (by omega)
    have wz2 : IntKind.i64.wrap (lenN n168 : Int)=(lenN n168 : Int):=wr_id (by omega) (by omega)
    with_reducible repeat' (first|refine Sp.h ?_|((first|refine Ss.h ?_|(refine Sb.h ?_ ?_ ?_<;>(try intro hgd)<;>try exact Xy))<;>simp -implicitDefEqProofs (maxSteps:=2000000) [hP,hN,hn32,gn32,hn16,fn16,gn16,hn168,fn168,gn168,ht,hn8,wz,wz2,w8])|refine X2 ?_ ?_|(refine Xd ?_ ?_<;>intro hcd<;>try exact Xx))
    all_goals (first|omega|(simp;done)|(simp;omega)|trace_state)
   ·have gn168 : ¬ (256 : Int)≤(n16 : Int):=by omega
    have ht:=tab8_at (i:=n16) (by omega)
    have w8:=wu8 (n:=n16) (by omega)
    have hn8:=tab8_nat (i:=n16) (by omega)
    have hl8 : lenN n16≤8:=lenN_le (by omega)
    have wz : IntKind.i64.wrap ((16 : Int)+(lenN n16 : Int))=16+(lenN n16 : Int):=wr_id (by omega) (by omega)
    have wz2 : IntKind.i64.wrap (lenN n16 : Int)=(lenN n16 : Int):=wr_id (by omega) (by omega)
    with_reducible repeat' (first|refine Sp.h ?_|((first|refine Ss.h ?_|(refine Sb.h ?_ ?_ ?_<;>(try intro hgd)<;>try exact Xy))<;>simp -implicitDefEqProofs (maxSteps:=2000000) [hP,hN,hn32,gn32,hn16,fn16,gn16,hn168,gn168,ht,hn8,wz,wz2,w8])|refine X2 ?_ ?_|(refine Xd ?_ ?_<;>intro hcd<;>try exact Xx))
    all_goals (first|omega|(simp;done)|(simp;omega)|trace_state)
  ·have gn16 : ¬ (65536 : Int)≤(n : Int):=by omega
   by_cases hn8 : 256≤n
   ·have en8 : lenN n=8+lenN (n / 256):=lenN_div (n:=n) (k:=8) (by omega)
    have hyn8 : n / 256 < 256:=by omega
    have fn8 : (n : Int).fdiv 256=((n / 256 : Nat) : Int):=shrU 256 rfl
    generalize hmn8 : n / 256=n8 at *
    have gn8 : (256 : Int)≤(n : Int):=by omega
    have ht:=tab8_at (i:=n8) (by omega)
    have w8:=wu8 (n:=n8) (by omega)
    have hn8:=tab8_nat (i:=n8) (by omega)
    have hl8 : lenN n8≤8:=lenN_le (by omega)
    have wz : IntKind.i64.wrap ((8 : Int)+(lenN n8 : Int))=8+(lenN n8 : Int):=wr_id (by omega) (by omega)
    have wz2 : IntKind.i64.wrap (lenN n8 : Int)=(lenN n8 : Int):=wr_id (by omega) (by omega)
    with_reducible repeat' (first|refine Sp.h ?_|((first|refine Ss.h ?_|(refine Sb.h ?_ ?_ ?_<;>(try intro hgd)<;>try exact Xy))<;>simp -implicitDefEqProofs (maxSteps:=2000000) [hP,hN,hn32,gn32,hn16,gn16,hn8,fn8,gn8,ht,hn8,wz,wz2,w8])|refine X2 ?_ ?_|(refine Xd ?_ ?_<;>intro hcd<;>try exact Xx))
    all_goals (first|omega|(simp;done)|(simp;omega)|trace_state)
   ·have gn8 : ¬ (256 : Int)≤(n : Int):=by omega
    have ht:=tab8_at (i:=n) (by omega)
    have w8:=wu8 (n:=n) (by omega)
    have hn8:=tab8_nat (i:=n) (by omega)
    have hl8 : lenN n≤8:=lenN_le (by omega)
    have wz : IntKind.i64.wrap ((0 : Int)+(lenN n : Int))=0+(lenN n : Int):=wr_id (by omega) (by omega)
    have wz2 : IntKind.i64.wrap (lenN n : Int)=(lenN n : Int):=wr_id (by omega) (by omega)
    with_reducible repeat' (first|refine Sp.h ?_|((first|refine Ss.h ?_|(refine Sb.h ?_ ?_ ?_<;>(try intro hgd)<;>try exact Xy))<;>simp -implicitDefEqProofs (maxSteps:=2000000) [hP,hN,hn32,gn32,hn16,gn16,hn8,gn8,ht,hn8,wz,wz2,w8])|refine X2 ?_ ?_|(refine Xd ?_ ?_<;>intro hcd<;>try exact Xx))
    all_goals (first|omega|(simp;done)|(simp;omega)|trace_state)
def sqrtF (n : Nat) : Nat→Nat→Nat
 |0,r=>r
 |k+1,r=>sqrtF n k (if (r+2 ^ k) * (r+2 ^ k)≤n then r+2 ^ k else r)
theorem sqrtF_sq {n : Nat} : ∀ (k r : Nat),r * r≤n→n < (r+2 ^ k) * (r+2 ^ k)→sqrtF n k r * sqrtF n k r≤n∧n < (sqrtF n k r+1) * (sqrtF n k r+1)
 |0,r,h1,h2=>⟨h1,by simpa [sqrtF] using h2⟩
 |k+1,r,h1,h2=>by
  simp only [sqrtF]
  split
  ·rename_i h
   refine sqrtF_sq k _ h ?_
   rw [Nat.add_assoc,← Nat.two_mul,← Nat.pow_succ'];exact h2
  ·rename_i h
   exact sqrtF_sq k r h1 (by omega)
def sqrtN (n : Nat) : Nat:=sqrtF n 32 0
theorem sqrtN_sq {n : Nat} (h : n < 18446744073709551616) : sqrtN n * sqrtN n≤n∧n < (sqrtN n+1) * (sqrtN n+1):=sqrtF_sq 32 0 (Nat.zero_le _) (by simpa using h)
theorem sq_unique {n a b : Nat} (h1 : a * a≤n) (h2 : n < (a+1) * (a+1)) (h3 : b * b≤n) (h4 : n < (b+1) * (b+1)) : a=b:=by
 rcases Nat.lt_trichotomy a b with h|h|h
 ·have:=Nat.mul_le_mul (show a+1≤b from h) (show a+1≤b from h);omega
 ·exact h
 ·have:=Nat.mul_le_mul (show b+1≤a from h) (show b+1≤a from h);omega
theorem sqrt_eq {n k : Nat} (h : n < 18446744073709551616) (hk : n < 2 ^ k * 2 ^ k) : sqrtF n k 0=sqrtN n:=by
 have a:=sqrtF_sq (n:=n) k 0 (Nat.zero_le _) (by simpa using hk)
 have b:=sqrtN_sq h
 exact sq_unique a.1 a.2 b.1 b.2
theorem sqrtN_small {n : Nat} (hn : n < 4611686018427387904) : sqrtN n < 2147483648:=by
 have h:=(sqrtN_sq (n:=n) (by omega)).1
 rcases Nat.lt_or_ge (sqrtN n) 2147483648 with h2|h2
 ·exact h2
 ·have:=Nat.mul_le_mul h2 h2;omega
def sqrtR (n w : Nat) : Nat→Nat
 |0=>0
 |i+1=>if (sqrtR n w i+2 ^ (w - i - 1)) * (sqrtR n w i+2 ^ (w - i - 1))≤n then sqrtR n w i+2 ^ (w - i - 1) else sqrtR n w i
theorem sqrtR_F {n w : Nat} : ∀ i,i≤w→sqrtF n (w - i) (sqrtR n w i)=sqrtF n w 0
 |0,_=>rfl
 |i+1,h=>by
  rw [← sqrtR_F i (by omega)]
  obtain ⟨m,hm⟩ : ∃ m,w - i=m+1:=⟨w - i - 1,by omega⟩
  have h2 : w - (i+1)=m:=by omega
  have h3 : w - i - 1=m:=by omega
  rw [hm,h2]
  simp only [sqrtR,sqrtF,h3]
theorem sqrtR_le {n w : Nat} : ∀ i,i≤w→sqrtR n w i+2 ^ (w - i)≤2 ^ w
 |0,_=>by simp [sqrtR]
 |i+1,h=>by
  have ih:=sqrtR_le (n:=n) (w:=w) i (by omega)
  obtain ⟨m,hm⟩ : ∃ m,w - i=m+1:=⟨w - i - 1,by omega⟩
  have h2 : w - (i+1)=m:=by omega
  have h3 : w - i - 1=m:=by omega
  rw [hm,Nat.pow_succ] at ih
  simp only [sqrtR,h2,h3]
  split<;>omega
theorem wru {n : Nat} (h : n < 18446744073709551616) : IntKind.u64.wrap (n : Int)=n:=by
 have e : (n : Int) % 18446744073709551616=n:=by omega
 unfold IntKind.wrap
 simp [IntKind.signed,IntKind.bits,e]
set_option maxHeartbeats 8000000 in
theorem d155 (n : Nat) (hn : n < 4611686018427387904) : DetH Tryz.prog 155 [.pv (Z n)] [] [] (.pv (Z (sqrtN n))):=by
 by_cases h0 : n=0
 ·subst h0
  have hf : sqrtN 0=0:=by decide +kernel
  rw [hf]
  refine detP_of Tryz.func155 rfl (by kernel_rfl) (by simp [Tryz.f155]) rfl ?_
  intro C hP hN
  simp only [Tryz.f155] at hN ⊢
  with_reducible repeat' (first|refine Sp.h ?_|((first|refine Wd ?_|refine Ss.h ?_|(refine Sb.h ?_ ?_ ?_<;>(try intro hgd)<;>try exact Xy))<;>simp -implicitDefEqProofs (maxSteps:=2000000) [hP,hN]<;>try refine Ya ?_)|refine X2 ?_ ?_|(refine Xd ?_ ?_<;>intro hcd<;>try exact Xx))
 have cl:=d186 n (by omega)
 have hl1:=lenN_lt n
 have hl2 : lenN n≤62:=lenN_le hn
 have hpos : ¬ (n : Int)≤0:=by omega
 have wn : IntKind.u64.wrap (n : Int)=n:=wru (by omega)
 obtain ⟨w,hw⟩ : ∃ w,w=(lenN n+1) / 2:=⟨_,rfl⟩
 have hw31 : w≤31:=by omega
 have hww : lenN n≤2 * w:=by omega
 have hnw : n < 2 ^ w * 2 ^ w:=by
  rw [← Nat.pow_add]
  exact Nat.lt_of_lt_of_le hl1 (Nat.pow_le_pow_right (by decide) (by omega))
 have hre:=sqrt_eq (n:=n) (k:=w) (by omega) hnw
 have hwi : ((lenN n : Int)+1).tdiv 2=(w : Int):=by
  rw [Int.tdiv_eq_ediv_of_nonneg (by omega)];omega
 have w1 : IntKind.i64.wrap ((lenN n : Int)+1)=(lenN n : Int)+1:=wr_id (by omega) (by omega)
 have w2 : IntKind.i64.wrap (w : Int)=w:=wr_id (by omega) (by omega)
 have hp31 : 2 ^ w≤2 ^ 31:=Nat.pow_le_pow_right (by decide) hw31
 have w3 : IntKind.u64.wrap (2 ^ min w 64)=((2 ^ w : Nat) : Int):=by
  rw [Nat.min_eq_left (by omega)]
  have e : ((2 ^ w : Nat) : Int)=(2 : Int) ^ w:=Int.natCast_pow 2 w
  rw [← e];exact wru (by omega)
 refine detP_of Tryz.func155 rfl (by kernel_rfl) (by simp [Tryz.f155]) rfl ?_
 intro C hP hN
 simp only [Tryz.f155] at hN ⊢
 with_reducible repeat' (first|refine Sp.h ?_|((first|refine Wd ?_|refine Ss.h ?_|refine Sc.h (cl) ?_|(refine Sb.h ?_ ?_ ?_<;>(try intro hgd)<;>try exact Xy))<;>simp -implicitDefEqProofs (maxSteps:=2000000) [hP,hN,hpos,wn,w1,w2,hwi,w3]<;>try refine Ya ?_)|refine X2 ?_ ?_|(refine Xd ?_ ?_<;>intro hcd<;>try exact Xx))
 refine WP.loopN [] w (fun i st=>st.t 0=.pv (Z n)∧st.t 16=.pv (Z w)∧st.t 17=.pv (Z i)∧st.t 4=.pv (U (sqrtR n w i))∧st.t 5=.pv (U ((2 ^ (w - i) : Nat) : Int))) (by simp [sqrtR]) ?_
 rintro i st hi ⟨g0,g16,g17,g4,g5⟩
 by_cases hlt : i < w
 ·have hlt' : (i : Int) < (w : Int):=by omega
  have hwi2 : IntKind.i64.wrap ((i : Int)+1)=(i : Int)+1:=wr_id (by omega) (by omega)
  obtain ⟨m,hm⟩ : ∃ m,w - i=m+1:=⟨w - i - 1,by omega⟩
  have h2 : w - (i+1)=m:=by omega
  have h3 : w - i - 1=m:=by omega
  have hle:=sqrtR_le (n:=n) (w:=w) i hi
  rw [hm] at g5 hle
  rw [Nat.pow_succ] at hle
  have d1 : ((2 ^ (m+1) : Nat) : Int).tdiv 2=((2 ^ m : Nat) : Int):=by
   rw [Int.tdiv_eq_ediv_of_nonneg (by omega),Nat.pow_succ];omega
  have hR : sqrtR n w (i+1)=if (sqrtR n w i+2 ^ m) * (sqrtR n w i+2 ^ m)≤n then sqrtR n w i+2 ^ m else sqrtR n w i:=by simp only [sqrtR,h3]
  generalize sqrtR n w i=r at *
  generalize hq : 2 ^ m=q at *
  generalize 2 ^ (m+1)=q2 at *
  have hrq : r+q≤2 ^ 31:=by omega
  have hsq : (r+q) * (r+q)≤2 ^ 31 * 2 ^ 31:=Nat.mul_le_mul hrq hrq
  have w4 : IntKind.u64.wrap (q : Int)=q:=wru (by omega)
  have w5 : IntKind.u64.wrap ((r : Int)+(q : Int))=(r : Int)+(q : Int):=by have:=wru (n:=r+q) (by omega);simpa using this
  have w6 : IntKind.u64.wrap (((r : Int)+(q : Int)) * ((r : Int)+(q : Int)))=((r : Int)+(q : Int)) * ((r : Int)+(q : Int)):=by
   have:=wru (n:=(r+q) * (r+q)) (by omega)
   simpa using this
  have hc : (((r : Int)+(q : Int)) * ((r : Int)+(q : Int))≤(n : Int))↔(r+q) * (r+q)≤n:=by
   have e : ((r : Int)+(q : Int)) * ((r : Int)+(q : Int))=(((r+q) * (r+q) : Nat) : Int):=by simp
   rw [e];omega
  by_cases hcc : (r+q) * (r+q)≤n
  ·have hcI:=hc.2 hcc
   rw [if_pos hcc] at hR
   with_reducible repeat' (first|refine Sp.h ?_|((first|refine Wd ?_|refine Ss.h ?_|(refine Sb.h ?_ ?_ ?_<;>(try intro hgd)<;>try exact Xy))<;>simp -implicitDefEqProofs (maxSteps:=2000000) [hP,hN,g0,g16,g17,g4,g5,hlt',hwi2,d1,w4,w5,w6,hcI,wn,hlt]<;>try refine Ya ?_)|refine X2 ?_ ?_|(refine Xd ?_ ?_<;>intro hcd<;>try exact Xx))
   all_goals (simp [hR,h2,hq];rw [← hq];exact Int.natCast_pow 2 m)
  ·have hcI : ¬ ((r : Int)+(q : Int)) * ((r : Int)+(q : Int))≤(n : Int):=fun h=>hcc (hc.1 h)
   rw [if_neg hcc] at hR
   with_reducible repeat' (first|refine Sp.h ?_|((first|refine Wd ?_|refine Ss.h ?_|(refine Sb.h ?_ ?_ ?_<;>(try intro hgd)<;>try exact Xy))<;>simp -implicitDefEqProofs (maxSteps:=2000000) [hP,hN,g0,g16,g17,g4,g5,hlt',hwi2,d1,w4,w5,w6,hcI,wn,hlt]<;>try refine Ya ?_)|refine X2 ?_ ?_|(refine Xd ?_ ?_<;>intro hcd<;>try exact Xx))
   all_goals (simp [hR,h2,hq];rw [← hq];exact Int.natCast_pow 2 m)
 ·have hin : i=w:=by omega
  subst hin
  have hf : sqrtR n i i=sqrtN n:=by
   have:=sqrtR_F (n:=n) (w:=i) i (Nat.le_refl _)
   rw [Nat.sub_self] at this
   rw [← hre,← this];rfl
  have hle:=sqrtR_le (n:=n) (w:=i) i (Nat.le_refl _)
  rw [hf] at g4 hle
  have hsm:=sqrtN_small hn
  have wz : IntKind.i64.wrap (sqrtN n : Int)=sqrtN n:=wr_id (by omega) (by omega)
  with_reducible repeat' (first|refine Sp.h ?_|((first|refine Wd ?_|refine Ss.h ?_|(refine Sb.h ?_ ?_ ?_<;>(try intro hgd)<;>try exact Xy))<;>simp -implicitDefEqProofs (maxSteps:=2000000) [hP,hN,g0,g16,g17,g4,g5,wz]<;>try refine Ya ?_)|refine X2 ?_ ?_|(refine Xd ?_ ?_<;>intro hcd<;>try exact Xx))
def sqrtU (n : Nat) : Nat:=if sqrtN n * sqrtN n < n then sqrtN n+1 else sqrtN n
theorem d107 (n : Nat) (hn : n < 4611686018427387904) : DetH Tryz.prog 107 [.pv (Z n)] [] [] (.pv (Z (sqrtU n))):=by
 have cr:=d155 n hn
 have hs:=sqrtN_small hn
 have hU : sqrtU n=if sqrtN n * sqrtN n < n then sqrtN n+1 else sqrtN n:=rfl
 rw [hU]
 generalize sqrtN n=r at *
 have hsq : r * r≤2147483648 * 2147483648:=Nat.mul_le_mul (by omega) (by omega)
 have w1 : IntKind.i64.wrap ((r : Int) * (r : Int))=((r * r : Nat) : Int):=by
  have e : ((r : Int) * (r : Int))=((r * r : Nat) : Int):=by simp
  rw [e];exact wr_id (by omega) (by omega)
 have w2 : IntKind.i64.wrap ((r : Int)+1)=(r : Int)+1:=wr_id (by omega) (by omega)
 by_cases h : r * r < n
 ·have h' : ((r * r : Nat) : Int) < (n : Int):=by omega
  rw [if_pos h]
  refine detP_of Tryz.func107 rfl (by kernel_rfl) (by simp [Tryz.f107]) rfl ?_
  intro C hP hN
  simp only [Tryz.f107] at hN ⊢
  with_reducible repeat' (first|refine Sp.h ?_|((first|refine Ss.h ?_|refine Sc.h (cr) ?_|(refine Sb.h ?_ ?_ ?_<;>(try intro hgd)<;>try exact Xy))<;>simp -implicitDefEqProofs (maxSteps:=2000000) [hP,hN,w1,w2,h'])|refine X2 ?_ ?_|(refine Xd ?_ ?_<;>intro hcd<;>try exact Xx))
  all_goals (first|done|(simp [w1,w2,h'] at *;done)|(exfalso;simp at *;omega))
 ·have h' : ¬ ((r * r : Nat) : Int) < (n : Int):=by omega
  rw [if_neg h]
  refine detP_of Tryz.func107 rfl (by kernel_rfl) (by simp [Tryz.f107]) rfl ?_
  intro C hP hN
  simp only [Tryz.f107] at hN ⊢
  with_reducible repeat' (first|refine Sp.h ?_|((first|refine Ss.h ?_|refine Sc.h (cr) ?_|(refine Sb.h ?_ ?_ ?_<;>(try intro hgd)<;>try exact Xy))<;>simp -implicitDefEqProofs (maxSteps:=2000000) [hP,hN,w1,w2,h'])|refine X2 ?_ ?_|(refine Xd ?_ ?_<;>intro hcd<;>try exact Xx))
  all_goals (first|done|(simp [w1,w2,h'] at *;done)|(exfalso;simp at *;omega))
end Go.Ab
namespace Go.Ab
open Go.Proofs
set_option maxHeartbeats 4000000 in
theorem d154 (v : Vc) : DetH Tryz.prog 154 [.pv (encVec v)] [] [] (.pv (B (nearV 16384 v))):=by
 cases hall : nearV 16384 v with
 |true=>
  have hv:=nearV_iff.1 hall
  obtain ⟨hv1,hv2,hv3⟩:=hv
  rw [inB_iff] at hv1 hv2 hv3
  refine detP_of Tryz.func154 rfl (by kernel_rfl) (by simp [Tryz.f154]) rfl ?_
  intro C hP hN
  simp only [Tryz.f154] at hN ⊢
  with_reducible repeat' (first|refine Sp.h ?_|((first|refine Ss.h ?_|(refine Sb.h ?_ ?_ ?_<;>(try intro hgd)<;>try exact Xy))<;>simp -implicitDefEqProofs (maxSteps:=2000000) [hP,hN])|refine X2 ?_ ?_|(refine Xd ?_ ?_<;>intro hcd<;>try exact Xx))
  refine WP.loopN [] 3 (fun k st=>st.t 5=.pv (encVec v)∧st.t 6=.pv (Z k)) (by simp) ?_
  rintro k st hk ⟨g5,g6⟩
  rcases fin3' hk with rfl|rfl|rfl|rfl
  ·skip
   with_reducible repeat' (first|refine Sp.h ?_|((first|refine Ss.h ?_|(refine Sb.h ?_ ?_ ?_<;>(try intro hgd)<;>try exact Xy))<;>simp -implicitDefEqProofs (maxSteps:=2000000) [hP,hN,g5,g6,hv1,hv2,hv3])|refine X2 ?_ ?_|(refine Xd ?_ ?_<;>intro hcd<;>try exact Xx))
  ·skip
   with_reducible repeat' (first|refine Sp.h ?_|((first|refine Ss.h ?_|(refine Sb.h ?_ ?_ ?_<;>(try intro hgd)<;>try exact Xy))<;>simp -implicitDefEqProofs (maxSteps:=2000000) [hP,hN,g5,g6,hv1,hv2,hv3])|refine X2 ?_ ?_|(refine Xd ?_ ?_<;>intro hcd<;>try exact Xx))
  ·skip
   with_reducible repeat' (first|refine Sp.h ?_|((first|refine Ss.h ?_|(refine Sb.h ?_ ?_ ?_<;>(try intro hgd)<;>try exact Xy))<;>simp -implicitDefEqProofs (maxSteps:=2000000) [hP,hN,g5,g6,hv1,hv2,hv3])|refine X2 ?_ ?_|(refine Xd ?_ ?_<;>intro hcd<;>try exact Xx))
  ·skip
   with_reducible repeat' (first|refine Sp.h ?_|((first|refine Ss.h ?_|(refine Sb.h ?_ ?_ ?_<;>(try intro hgd)<;>try exact Xy))<;>simp -implicitDefEqProofs (maxSteps:=2000000) [hP,hN,g5,g6])|refine X2 ?_ ?_|(refine Xd ?_ ?_<;>intro hcd<;>try exact Xx))
 |false=>
  refine detP_of Tryz.func154 rfl (by kernel_rfl) (by simp [Tryz.f154]) rfl ?_
  intro C hP hN
  simp only [Tryz.f154] at hN ⊢
  with_reducible repeat' (first|refine Sp.h ?_|((first|refine Ss.h ?_|(refine Sb.h ?_ ?_ ?_<;>(try intro hgd)<;>try exact Xy))<;>simp -implicitDefEqProofs (maxSteps:=2000000) [hP,hN])|refine X2 ?_ ?_|(refine Xd ?_ ?_<;>intro hcd<;>try exact Xx))
  refine WP.loopN [] 3 (fun k st=>st.t 5=.pv (encVec v)∧st.t 6=.pv (Z k)∧(0 < k→inB v.1 16384=true)∧(1 < k→inB v.2.1 16384=true)∧(2 < k→inB v.2.2 16384=true)) (by simp) ?_
  rintro k st hk ⟨g5,g6,q0,q1,q2⟩
  rcases fin3' hk with rfl|rfl|rfl|rfl
  ·skip
   with_reducible repeat' (first|refine Sp.h ?_|((first|refine Ss.h ?_|(refine Sb.h ?_ ?_ ?_<;>(try intro hgd)<;>try exact Xy))<;>simp -implicitDefEqProofs (maxSteps:=2000000) [hP,hN,g5,g6])|refine X2 ?_ ?_|(refine Xd ?_ ?_<;>intro hcd<;>try exact Xx))
   all_goals (try (rw [inB_iff];simp only [decide_eq_false_iff_not,decide_eq_true_eq] at hgd hcd;omega))
  ·skip
   with_reducible repeat' (first|refine Sp.h ?_|((first|refine Ss.h ?_|(refine Sb.h ?_ ?_ ?_<;>(try intro hgd)<;>try exact Xy))<;>simp -implicitDefEqProofs (maxSteps:=2000000) [hP,hN,g5,g6])|refine X2 ?_ ?_|(refine Xd ?_ ?_<;>intro hcd<;>try exact Xx))
   all_goals (try (exact ⟨q0 (by omega),by rw [inB_iff];simp only [decide_eq_false_iff_not,decide_eq_true_eq] at hgd hcd;omega⟩))
  ·skip
   with_reducible repeat' (first|refine Sp.h ?_|((first|refine Ss.h ?_|(refine Sb.h ?_ ?_ ?_<;>(try intro hgd)<;>try exact Xy))<;>simp -implicitDefEqProofs (maxSteps:=2000000) [hP,hN,g5,g6])|refine X2 ?_ ?_|(refine Xd ?_ ?_<;>intro hcd<;>try exact Xx))
   all_goals (try (exact ⟨q0 (by omega),q1 (by omega),by rw [inB_iff];simp only [decide_eq_false_iff_not,decide_eq_true_eq] at hgd hcd;omega⟩))
  ·have hn : nearV 16384 v=true:=nearV_iff.2 ⟨q0 (by omega),q1 (by omega),q2 (by omega)⟩
   rw [hn] at hall;cases hall
def nz (v : Vc) : Bool:=!(v.1==0 && v.2.1==0 && v.2.2==0)
def usableV (v : Vc) : Bool:=nearV 16384 v && nz v
theorem d106 (v : Vc) : DetH Tryz.prog 106 [.pv (encVec v)] [] [] (.pv (B (usableV v))):=by
 have ci:=d154 v
 have hu : usableV v=(nearV 16384 v && !(v.1==0 && v.2.1==0 && v.2.2==0)):=rfl
 rw [hu]
 generalize nearV 16384 v=b at *
 refine detP_of Tryz.func106 rfl (by kernel_rfl) (by simp [Tryz.f106]) rfl ?_
 intro C hP hN
 simp only [Tryz.f106] at hN ⊢
 cases b
 ·skip
  with_reducible repeat' (first|refine Sp.h ?_|((first|refine Ss.h ?_|refine Sc.h (ci) ?_|(refine Sb.h ?_ ?_ ?_<;>(try intro hgd)<;>try exact Xy))<;>simp -implicitDefEqProofs (maxSteps:=2000000) [hP,hN])|refine X2 ?_ ?_|(refine Xd ?_ ?_<;>intro hcd<;>try exact Xx))
 ·skip
  with_reducible repeat' (first|refine Sp.h ?_|((first|refine Ss.h ?_|refine Sc.h (ci) ?_|(refine Sb.h ?_ ?_ ?_<;>(try intro hgd)<;>try exact Xy))<;>simp -implicitDefEqProofs (maxSteps:=2000000) [hP,hN])|refine X2 ?_ ?_|(refine Xd ?_ ?_<;>intro hcd<;>try exact Xx))
def halfV (v : Vc) : Vc:=(v.1.tdiv 2,v.2.1.tdiv 2,v.2.2.tdiv 2)
def normV : Nat→Vc→Vc
 |0,v=>v
 |n+1,v=>if nearV 16384 v then v else normV n (halfV v)
def normalV (v : Vc) : Vc:=normV 64 v
def smV (b : Int) (v : Vc) : Prop:=(-b≤v.1∧v.1≤b)∧(-b≤v.2.1∧v.2.1≤b)∧(-b≤v.2.2∧v.2.2≤b)
theorem half1 {x b : Int} (h : -(2 * b)≤x∧x≤2 * b) : -b≤x.tdiv 2∧x.tdiv 2≤b:=by
 have hb : 0≤b:=by omega
 rcases Int.le_total 0 x with h0|h0
 ·rw [Int.tdiv_eq_ediv_of_nonneg h0];omega
 ·have e : x.tdiv 2=-((-x).tdiv 2):=by rw [Int.neg_tdiv,Int.neg_neg]
  rw [e,Int.tdiv_eq_ediv_of_nonneg (by omega)];omega
theorem smV_half {v : Vc} {b : Int} (h : smV (2 * b) v) : smV b (halfV v):=⟨half1 h.1,half1 h.2.1,half1 h.2.2⟩
set_option maxHeartbeats 4000000 in
theorem d126 (v : Vc) (h : smV 1099511627776 v) : DetH Tryz.prog 126 [.pv (encVec v)] [] [] (.pv (.tup [encVec (normalV v),B (nz (normalV v))])):=by
 have hnz : nz (normalV v)=!((normalV v).1==0 && (normalV v).2.1==0 && (normalV v).2.2==0):=rfl
 rw [hnz]
 refine detP_of Tryz.func126 rfl (by kernel_rfl) (by simp [Tryz.f126]) rfl ?_
 intro C hP hN
 simp only [Tryz.f126] at hN ⊢
 with_reducible repeat' (first|refine Sp.h ?_|((first|refine Wd ?_|refine Ss.h ?_|(refine Sb.h ?_ ?_ ?_<;>(try intro hgd)<;>try exact Xy))<;>simp -implicitDefEqProofs (maxSteps:=2000000) [hP,hN]<;>try refine Ya ?_)|refine X2 ?_ ?_|(refine Xd ?_ ?_<;>intro hcd<;>try exact Xx))
 refine WP.loopN [] 41 (fun i st=>∃ w : Vc,st.t 1=.ptr 1 0∧st.t 2=.ptr 2 0∧st.h 1=some (.box [.pv (Z w.1),.pv (Z w.2.1),.pv (Z w.2.2)] true false)∧st.h 2=some (.box [.pv (Z 0),.pv (Z 0),.pv (Z 0)] true false)∧normV (64 - i) w=normalV v∧smV ((2 ^ (40 - i) : Nat) : Int) w) (by simp;exact ⟨v.1,v.2.1,v.2.2,⟨rfl,rfl,rfl⟩,rfl,h⟩) ?_
 rintro i st hi ⟨w,g1,g2,hb1,hb2,hn,hs⟩
 have ci:=d154 w
 obtain ⟨m,hm⟩ : ∃ m,64 - i=m+1:=⟨64 - i - 1,by omega⟩
 rw [hm] at hn
 simp only [normV] at hn
 cases hr : nearV 16384 w with
 |true=>
  rw [hr] at ci
  rw [if_pos hr] at hn
  subst hn
  with_reducible repeat' (first|refine Sp.h ?_|((first|refine Wd ?_|refine Ss.h ?_|refine Sc.h (ci) ?_|(refine Sb.h ?_ ?_ ?_<;>(try intro hgd)<;>try exact Xy))<;>simp -implicitDefEqProofs (maxSteps:=2000000) [hP,hN,g1,g2,hb1,hb2]<;>try refine Ya ?_)|refine X2 ?_ ?_|(refine Xd ?_ ?_<;>intro hcd<;>try exact Xx))
 |false=>
  rw [hr] at ci
  rw [if_neg (by rw [hr];simp)] at hn
  have hi40 : i < 40:=by
   rcases Nat.lt_or_ge i 40 with h9|h9
   ·exact h9
   ·have e : 40 - i=0:=by omega
    rw [e] at hs
    have : nearV 16384 w=true:=by
     obtain ⟨⟨a1,a2⟩,⟨a3,a4⟩,a5,a6⟩:=hs
     rw [nearV_iff,inB_iff,inB_iff,inB_iff]
     omega
    rw [this] at hr;cases hr
  have hs2 : smV ((2 ^ (40 - (i+1)) : Nat) : Int) (halfV w):=by
   obtain ⟨q,hq⟩ : ∃ q,40 - i=q+1:=⟨40 - i - 1,by omega⟩
   have e2 : 40 - (i+1)=q:=by omega
   rw [hq,Nat.pow_succ] at hs
   rw [e2]
   refine smV_half ?_
   have e3 : ((2 ^ q * 2 : Nat) : Int)=2 * ((2 ^ q : Nat) : Int):=by omega
   rw [← e3];exact hs
  have hn' : normV (63 - i) (halfV w)=normalV v:=by rw [show 63 - i=m by omega];exact hn
  have hs2' : smV ((2 : Int) ^ (39 - i)) (halfV w):=by
   have e : ((2 ^ (40 - (i+1)) : Nat) : Int)=(2 : Int) ^ (39 - i):=by rw [show 40 - (i+1)=39 - i by omega];exact Int.natCast_pow 2 (39 - i)
   rw [← e];exact hs2
  have hle : ((2 ^ (40 - (i+1)) : Nat) : Int)≤1099511627776:=by
   have:=Nat.pow_le_pow_right (n:=2) (by decide) (show 40 - (i+1)≤40 by omega)
   omega
  have w1 : IntKind.i64.wrap (w.1.tdiv 2)=w.1.tdiv 2:=by have:=hs2.1;simp only [halfV] at this;exact wr_id (by omega) (by omega)
  have w2 : IntKind.i64.wrap (w.2.1.tdiv 2)=w.2.1.tdiv 2:=by have:=hs2.2.1;simp only [halfV] at this;exact wr_id (by omega) (by omega)
  have w3 : IntKind.i64.wrap (w.2.2.tdiv 2)=w.2.2.tdiv 2:=by have:=hs2.2.2;simp only [halfV] at this;exact wr_id (by omega) (by omega)
  with_reducible repeat' (first|refine Sp.h ?_|((first|refine Wd ?_|refine Ss.h ?_|refine Sc.h (ci) ?_|(refine Sb.h ?_ ?_ ?_<;>(try intro hgd)<;>try exact Xy))<;>simp -implicitDefEqProofs (maxSteps:=2000000) [hP,hN,g1,g2,hb1,hb2]<;>try refine Ya ?_)|refine X2 ?_ ?_|(refine Xd ?_ ?_<;>intro hcd<;>try exact Xx))
  refine WP.loopN [] 3 (fun k st=>st.t 1=.ptr 1 0∧st.t 2=.ptr 2 0∧st.h 2=some (.box [.pv (Z 0),.pv (Z 0),.pv (Z 0)] true false)∧st.t 8=.pv (Z k)∧st.h 1=some (.box [.pv (Z (if 0 < k then w.1.tdiv 2 else w.1)),.pv (Z (if 1 < k then w.2.1.tdiv 2 else w.2.1)),.pv (Z (if 2 < k then w.2.2.tdiv 2 else w.2.2))] true false)) (by simp [g1,g2,hb1,hb2]) ?_
  clear g1 g2 hb1 hb2
  rintro k st hk ⟨g1,g2,hb2,g8,hb1⟩
  rcases fin3' hk with rfl|rfl|rfl|rfl
  all_goals (simp at g8 hb1)
  ·skip
   with_reducible repeat' (first|refine Sp.h ?_|((first|refine Wd ?_|refine Ss.h ?_|(refine Sb.h ?_ ?_ ?_<;>(try intro hgd)<;>try exact Xy))<;>simp -implicitDefEqProofs (maxSteps:=2000000) [hP,hN,g1,g2,hb1,hb2,g8,w1,w2,w3]<;>try refine Ya ?_)|refine X2 ?_ ?_|(refine Xd ?_ ?_<;>intro hcd<;>try exact Xx))
  ·skip
   with_reducible repeat' (first|refine Sp.h ?_|((first|refine Wd ?_|refine Ss.h ?_|(refine Sb.h ?_ ?_ ?_<;>(try intro hgd)<;>try exact Xy))<;>simp -implicitDefEqProofs (maxSteps:=2000000) [hP,hN,g1,g2,hb1,hb2,g8,w1,w2,w3]<;>try refine Ya ?_)|refine X2 ?_ ?_|(refine Xd ?_ ?_<;>intro hcd<;>try exact Xx))
  ·skip
   with_reducible repeat' (first|refine Sp.h ?_|((first|refine Wd ?_|refine Ss.h ?_|(refine Sb.h ?_ ?_ ?_<;>(try intro hgd)<;>try exact Xy))<;>simp -implicitDefEqProofs (maxSteps:=2000000) [hP,hN,g1,g2,hb1,hb2,g8,w1,w2,w3]<;>try refine Ya ?_)|refine X2 ?_ ?_|(refine Xd ?_ ?_<;>intro hcd<;>try exact Xx))
  ·skip
   with_reducible repeat' (first|refine Sp.h ?_|((first|refine Wd ?_|refine Ss.h ?_|(refine Sb.h ?_ ?_ ?_<;>(try intro hgd)<;>try exact Xy))<;>simp -implicitDefEqProofs (maxSteps:=2000000) [hP,hN,g1,g2,hb1,hb2,g8,w1,w2,w3]<;>try refine Ya ?_)|refine X2 ?_ ?_|(refine Xd ?_ ?_<;>intro hcd<;>try exact Xx))
   all_goals (refine ⟨by omega,_,_,_,⟨rfl,rfl,rfl⟩,?_,?_⟩<;>first|exact hn'|exact hs2')
def sqN (v : Vc) : Nat:=(v.1 * v.1+v.2.1 * v.2.1+v.2.2 * v.2.2).toNat
def normI (v : Vc) : Int:=if usableV v then (sqrtU (sqN v) : Int) else 0
theorem d65 (v : Vc) : DetH Tryz.prog 65 [.pv (encVec v)] [] [] (.pv (Z (normI v))):=by
 have cu:=d106 v
 cases hu : usableV v with
 |false=>
  have hr : normI v=0:=by simp [normI,hu]
  rw [hr];rw [hu] at cu
  refine detP_of Tryz.func65 rfl (by kernel_rfl) (by simp [Tryz.f65]) rfl ?_
  intro C hP hN
  simp only [Tryz.f65] at hN ⊢
  with_reducible repeat' (first|refine Sp.h ?_|((first|refine Ss.h ?_|refine Sc.h (cu) ?_|(refine Sb.h ?_ ?_ ?_<;>(try intro hgd)<;>try exact Xy))<;>simp -implicitDefEqProofs (maxSteps:=2000000) [hP,hN])|refine X2 ?_ ?_|(refine Xd ?_ ?_<;>intro hcd<;>try exact Xx))
 |true=>
  have hr : normI v=(sqrtU (sqN v) : Int):=by simp [normI,hu]
  rw [hr];rw [hu] at cu
  have hv : nearV 16384 v=true:=by simp only [usableV,Bool.and_eq_true] at hu;exact hu.1
  rw [nearV_iff,inB_iff,inB_iff,inB_iff] at hv
  obtain ⟨v1,v2,v3⟩:=v
  simp only at hv
  have m1:=mul_rng (a:=v1) (b:=v1) 16384 16384 (by omega) (by omega) (by omega) (by omega)
  have m2:=mul_rng (a:=v2) (b:=v2) 16384 16384 (by omega) (by omega) (by omega) (by omega)
  have m3:=mul_rng (a:=v3) (b:=v3) 16384 16384 (by omega) (by omega) (by omega) (by omega)
  have p1 : 0≤v1 * v1:=by rcases Int.le_total 0 v1 with h|h;exact Int.mul_nonneg h h;exact Int.mul_nonneg_of_nonpos_of_nonpos h h
  have p2 : 0≤v2 * v2:=by rcases Int.le_total 0 v2 with h|h;exact Int.mul_nonneg h h;exact Int.mul_nonneg_of_nonpos_of_nonpos h h
  have p3 : 0≤v3 * v3:=by rcases Int.le_total 0 v3 with h|h;exact Int.mul_nonneg h h;exact Int.mul_nonneg_of_nonpos_of_nonpos h h
  have hsn : sqN (v1,v2,v3)=(v1 * v1+v2 * v2+v3 * v3).toNat:=rfl
  rw [hsn]
  have w1 : IntKind.i64.wrap (v1 * v1)=v1 * v1:=wr_id (by omega) (by omega)
  have w2 : IntKind.i64.wrap (v2 * v2)=v2 * v2:=wr_id (by omega) (by omega)
  have w3 : IntKind.i64.wrap (v3 * v3)=v3 * v3:=wr_id (by omega) (by omega)
  have w4 : IntKind.i64.wrap (v1 * v1+v2 * v2)=v1 * v1+v2 * v2:=wr_id (by omega) (by omega)
  have w5 : IntKind.i64.wrap (v1 * v1+v2 * v2+v3 * v3)=v1 * v1+v2 * v2+v3 * v3:=wr_id (by omega) (by omega)
  have cr:=d107 (v1 * v1+v2 * v2+v3 * v3).toNat (by omega)
  rw [Int.toNat_of_nonneg (by omega)] at cr
  generalize (v1 * v1+v2 * v2+v3 * v3).toNat=q at *
  refine detP_of Tryz.func65 rfl (by kernel_rfl) (by simp [Tryz.f65]) rfl ?_
  intro C hP hN
  simp only [Tryz.f65] at hN ⊢
  with_reducible repeat' (first|refine Sp.h ?_|((first|refine Ss.h ?_|refine Sc.h (cu) ?_|refine Sc.h (cr) ?_|(refine Sb.h ?_ ?_ ?_<;>(try intro hgd)<;>try exact Xy))<;>simp -implicitDefEqProofs (maxSteps:=2000000) [hP,hN,w1,w2,w3,w4,w5])|refine X2 ?_ ?_|(refine Xd ?_ ?_<;>intro hcd<;>try exact Xx))
end Go.Ab
namespace Go.Ab
open Go.Proofs
def mnP (n : Int) (x : Iv) : Int:=min (n * x.1) (n * x.2)
def mxP (n : Int) (x : Iv) : Int:=max (n * x.1) (n * x.2)
def dotLo (n : Vc) (v : IVc) : Int:=mnP n.1 v.1+mnP n.2.1 v.2.1+mnP n.2.2 v.2.2
def dotHi (n : Vc) (v : IVc) : Int:=mxP n.1 v.1+mxP n.2.1 v.2.1+mxP n.2.2 v.2.2
theorem placed_rng {x : Iv} (h : placedI x=true) : (-268435456≤x.1∧x.1≤268435456)∧(-268435456≤x.2∧x.2≤268435456):=by
 rw [placedI_iff] at h;omega
theorem inB_rng {x : Int} (h : inB x 16384=true) : -16384≤x∧x≤16384:=by rw [inB_iff] at h;omega
theorem mn_rng {n : Int} {x : Iv} (hn : inB n 16384=true) (hx : placedI x=true) : (-4398046511104≤n * x.1∧n * x.1≤4398046511104)∧(-4398046511104≤n * x.2∧n * x.2≤4398046511104)∧(-4398046511104≤mnP n x∧mnP n x≤4398046511104)∧(-4398046511104≤mxP n x∧mxP n x≤4398046511104):=by
 have h1:=inB_rng hn
 have h2:=placed_rng hx
 have m1:=mul_rng (a:=n) (b:=x.1) 16384 268435456 (by omega) (by omega) (by omega) (by omega)
 have m2:=mul_rng (a:=n) (b:=x.2) 16384 268435456 (by omega) (by omega) (by omega) (by omega)
 unfold mnP mxP
 omega
set_option maxHeartbeats 8000000 in
theorem d208 (n : Vc) (v : IVc) (hn : nearV 16384 n=true) (hv : placedV v=true) : DetH Tryz.prog 208 [.pv (encVec n),.pv (encIV v)] [] [] (.pv (.tup [Z (dotLo n v),Z (dotHi n v)])):=by
 rw [nearV_iff] at hn
 rw [placedV_iff] at hv
 obtain ⟨n1,n2,n3⟩:=hn
 obtain ⟨v1,v2,v3⟩:=hv
 have a1:=mn_rng n1 v1
 have a2:=mn_rng n2 v2
 have a3:=mn_rng n3 v3
 have e1 : dotLo n v=mnP n.1 v.1+mnP n.2.1 v.2.1+mnP n.2.2 v.2.2:=rfl
 have e2 : dotHi n v=mxP n.1 v.1+mxP n.2.1 v.2.1+mxP n.2.2 v.2.2:=rfl
 rw [e1,e2]
 have w1 : IntKind.i64.wrap (n.1 * v.1.1)=n.1 * v.1.1:=wr_id (by omega) (by omega)
 have w2 : IntKind.i64.wrap (n.1 * v.1.2)=n.1 * v.1.2:=wr_id (by omega) (by omega)
 have w3 : IntKind.i64.wrap (n.2.1 * v.2.1.1)=n.2.1 * v.2.1.1:=wr_id (by omega) (by omega)
 have w4 : IntKind.i64.wrap (n.2.1 * v.2.1.2)=n.2.1 * v.2.1.2:=wr_id (by omega) (by omega)
 have w5 : IntKind.i64.wrap (n.2.2 * v.2.2.1)=n.2.2 * v.2.2.1:=wr_id (by omega) (by omega)
 have w6 : IntKind.i64.wrap (n.2.2 * v.2.2.2)=n.2.2 * v.2.2.2:=wr_id (by omega) (by omega)
 have f1 : min (n.1 * v.1.1) (n.1 * v.1.2)=mnP n.1 v.1:=rfl
 have f2 : min (n.2.1 * v.2.1.1) (n.2.1 * v.2.1.2)=mnP n.2.1 v.2.1:=rfl
 have f3 : min (n.2.2 * v.2.2.1) (n.2.2 * v.2.2.2)=mnP n.2.2 v.2.2:=rfl
 have f4 : max (n.1 * v.1.1) (n.1 * v.1.2)=mxP n.1 v.1:=rfl
 have f5 : max (n.2.1 * v.2.1.1) (n.2.1 * v.2.1.2)=mxP n.2.1 v.2.1:=rfl
 have f6 : max (n.2.2 * v.2.2.1) (n.2.2 * v.2.2.2)=mxP n.2.2 v.2.2:=rfl
 generalize hp1 : mnP n.1 v.1=p1 at *
 generalize hp2 : mnP n.2.1 v.2.1=p2 at *
 generalize hp3 : mnP n.2.2 v.2.2=p3 at *
 generalize hq1 : mxP n.1 v.1=q1 at *
 generalize hq2 : mxP n.2.1 v.2.1=q2 at *
 generalize hq3 : mxP n.2.2 v.2.2=q3 at *
 have u1 : IntKind.i64.wrap p1=p1:=wr_id (by omega) (by omega)
 have u2 : IntKind.i64.wrap (p1+p2)=p1+p2:=wr_id (by omega) (by omega)
 have u3 : IntKind.i64.wrap (p1+p2+p3)=p1+p2+p3:=wr_id (by omega) (by omega)
 have u4 : IntKind.i64.wrap q1=q1:=wr_id (by omega) (by omega)
 have u5 : IntKind.i64.wrap (q1+q2)=q1+q2:=wr_id (by omega) (by omega)
 have u6 : IntKind.i64.wrap (q1+q2+q3)=q1+q2+q3:=wr_id (by omega) (by omega)
 refine detP_of Tryz.func208 rfl (by kernel_rfl) (by simp [Tryz.f208]) rfl ?_
 intro C hP hN
 simp only [Tryz.f208] at hN ⊢
 with_reducible repeat' (first|refine Sp.h ?_|((first|refine Wd ?_|refine Ss.h ?_|(refine Sb.h ?_ ?_ ?_<;>(try intro hgd)<;>try exact Xy))<;>simp -implicitDefEqProofs (maxSteps:=2000000) [hP,hN]<;>try refine Ya ?_)|refine X2 ?_ ?_|(refine Xd ?_ ?_<;>intro hcd<;>try exact Xx))
 refine WP.loopN [9] 3 (fun k st=>st.t 2=.ptr 2 0∧st.h 2=some (.box [.pv (Z n.1),.pv (Z n.2.1),.pv (Z n.2.2)] true false)∧st.t 12=.pv (encIV v)∧st.t 13=.pv (Z k)∧st.h 9=none∧st.t 6=.pv (Z (if k=0 then 0 else if k=1 then p1 else if k=2 then p1+p2 else p1+p2+p3))∧st.t 7=.pv (Z (if k=0 then 0 else if k=1 then q1 else if k=2 then q1+q2 else q1+q2+q3))) (by simp) ?_
 rintro k st hk ⟨g2,hb2,g12,g13,hb9,g6,g7⟩
 rcases fin3' hk with rfl|rfl|rfl|rfl
 all_goals (simp at g6 g7)
 ·skip
  with_reducible repeat' (first|refine Sp.h ?_|((first|refine Wd ?_|refine Ss.h ?_|(refine Sb.h ?_ ?_ ?_<;>(try intro hgd)<;>try exact Xy))<;>simp -implicitDefEqProofs (maxSteps:=2000000) [hP,hN,g2,hb2,g12,g13,hb9,g6,g7,w1,w2,f1,f4,u1,u4]<;>try refine Ya ?_)|refine X2 ?_ ?_|(refine Xd ?_ ?_<;>intro hcd<;>try exact Xx))
 ·skip
  with_reducible repeat' (first|refine Sp.h ?_|((first|refine Wd ?_|refine Ss.h ?_|(refine Sb.h ?_ ?_ ?_<;>(try intro hgd)<;>try exact Xy))<;>simp -implicitDefEqProofs (maxSteps:=2000000) [hP,hN,g2,hb2,g12,g13,hb9,g6,g7,w3,w4,f2,f5,u2,u5]<;>try refine Ya ?_)|refine X2 ?_ ?_|(refine Xd ?_ ?_<;>intro hcd<;>try exact Xx))
 ·skip
  with_reducible repeat' (first|refine Sp.h ?_|((first|refine Wd ?_|refine Ss.h ?_|(refine Sb.h ?_ ?_ ?_<;>(try intro hgd)<;>try exact Xy))<;>simp -implicitDefEqProofs (maxSteps:=2000000) [hP,hN,g2,hb2,g12,g13,hb9,g6,g7,w5,w6,f3,f6,u3,u6]<;>try refine Ya ?_)|refine X2 ?_ ?_|(refine Xd ?_ ?_<;>intro hcd<;>try exact Xx))
 ·skip
  with_reducible repeat' (first|refine Sp.h ?_|((first|refine Wd ?_|refine Ss.h ?_|(refine Sb.h ?_ ?_ ?_<;>(try intro hgd)<;>try exact Xy))<;>simp -implicitDefEqProofs (maxSteps:=2000000) [hP,hN,g2,hb2,g12,g13,hb9,g6,g7]<;>try refine Ya ?_)|refine X2 ?_ ?_|(refine Xd ?_ ?_<;>intro hcd<;>try exact Xx))
abbrev capV (n : Vc) : PV:=.rptr (encVec n) 0
abbrev dirD (n : Vc) : PV:=.agg [.fn (.func 207) [] [capV n],.val (.func (.func 209) #[] #[])]
abbrev dirU (n : Vc) : PV:=.agg [.fn (.func 210) [] [capV n],.val (.func (.func 211) #[] #[])]
theorem d183 (n : Vc) : DetH Tryz.prog 183 [.pv (encVec n)] [] [] (.pv (dirD n)):=by
 refine detP_of Tryz.func183 rfl (by kernel_rfl) (by simp [Tryz.f183]) rfl ?_
 intro C hP hN
 simp only [Tryz.f183] at hN ⊢
 with_reducible repeat' (first|refine Sp.h ?_|((first|refine Ss.h ?_|(refine Sb.h ?_ ?_ ?_<;>(try intro hgd)<;>try exact Xy))<;>simp -implicitDefEqProofs (maxSteps:=2000000) [hP,hN])|refine X2 ?_ ?_|(refine Xd ?_ ?_<;>intro hcd<;>try exact Xx))
theorem d185 (n : Vc) : DetH Tryz.prog 185 [.pv (encVec n)] [] [] (.pv (dirU n)):=by
 refine detP_of Tryz.func185 rfl (by kernel_rfl) (by simp [Tryz.f185]) rfl ?_
 intro C hP hN
 simp only [Tryz.f185] at hN ⊢
 with_reducible repeat' (first|refine Sp.h ?_|((first|refine Ss.h ?_|(refine Sb.h ?_ ?_ ?_<;>(try intro hgd)<;>try exact Xy))<;>simp -implicitDefEqProofs (maxSteps:=2000000) [hP,hN])|refine X2 ?_ ?_|(refine Xd ?_ ?_<;>intro hcd<;>try exact Xx))
theorem d209 (x y : Int) : DetH Tryz.prog 209 [.pv (Z x),.pv (Z y)] [] [] (.pv (B (decide (x < y)))):=by
 refine detP_of Tryz.func209 rfl (by kernel_rfl) (by simp [Tryz.f209]) rfl ?_
 intro C hP hN
 simp only [Tryz.f209] at hN ⊢
 with_reducible repeat' (first|refine Sp.h ?_|((first|refine Ss.h ?_|(refine Sb.h ?_ ?_ ?_<;>(try intro hgd)<;>try exact Xy))<;>simp -implicitDefEqProofs (maxSteps:=2000000) [hP,hN])|refine X2 ?_ ?_|(refine Xd ?_ ?_<;>intro hcd<;>try exact Xx))
theorem d211 (x y : Int) : DetH Tryz.prog 211 [.pv (Z x),.pv (Z y)] [] [] (.pv (B (decide (y < x)))):=by
 refine detP_of Tryz.func211 rfl (by kernel_rfl) (by simp [Tryz.f211]) rfl ?_
 intro C hP hN
 simp only [Tryz.f211] at hN ⊢
 with_reducible repeat' (first|refine Sp.h ?_|((first|refine Ss.h ?_|(refine Sb.h ?_ ?_ ?_<;>(try intro hgd)<;>try exact Xy))<;>simp -implicitDefEqProofs (maxSteps:=2000000) [hP,hN])|refine X2 ?_ ?_|(refine Xd ?_ ?_<;>intro hcd<;>try exact Xx))
theorem d207 (n : Vc) (v : IVc) (hn : nearV 16384 n=true) (hv : placedV v=true) : DetH Tryz.prog 207 [.pv (encIV v),.pv (capV n)] [] [] (.pv (Z (dotLo n v))):=by
 have cd:=d208 n v hn hv
 generalize dotLo n v=a at *
 generalize dotHi n v=b at *
 refine detP_of Tryz.func207 rfl (by kernel_rfl) (by simp [Tryz.f207]) rfl ?_
 intro C hP hN
 simp only [Tryz.f207] at hN ⊢
 with_reducible repeat' (first|refine Sp.h ?_|((first|refine Ss.h ?_|refine Sc.h (cd) ?_|(refine Sb.h ?_ ?_ ?_<;>(try intro hgd)<;>try exact Xy))<;>simp -implicitDefEqProofs (maxSteps:=2000000) [hP,hN])|refine X2 ?_ ?_|(refine Xd ?_ ?_<;>intro hcd<;>try exact Xx))
theorem d210 (n : Vc) (v : IVc) (hn : nearV 16384 n=true) (hv : placedV v=true) : DetH Tryz.prog 210 [.pv (encIV v),.pv (capV n)] [] [] (.pv (Z (dotHi n v))):=by
 have cd:=d208 n v hn hv
 generalize dotLo n v=a at *
 generalize dotHi n v=b at *
 refine detP_of Tryz.func210 rfl (by kernel_rfl) (by simp [Tryz.f210]) rfl ?_
 intro C hP hN
 simp only [Tryz.f210] at hN ⊢
 with_reducible repeat' (first|refine Sp.h ?_|((first|refine Ss.h ?_|refine Sc.h (cd) ?_|(refine Sb.h ?_ ?_ ?_<;>(try intro hgd)<;>try exact Xy))<;>simp -implicitDefEqProofs (maxSteps:=2000000) [hP,hN])|refine X2 ?_ ?_|(refine Xd ?_ ?_<;>intro hcd<;>try exact Xx))
def optS (val : IVc→Int) (bet : Int→Int→Bool) (xs : List IVc) : Nat→Int × Nat
 |0=>(0,0)
 |i+1=>match xs[i]? with
  |some v=>if i=0∨bet (val v) (optS val bet xs i).1=true then (val v,i) else optS val bet xs i
  |none=>optS val bet xs i
def optL (val : IVc→Int) (bet : Int→Int→Bool) (xs : List IVc) : Int × Nat:=optS val bet xs xs.length
theorem optS_succ {val : IVc→Int} {bet : Int→Int→Bool} {xs : List IVc} {i : Nat} {v : IVc} (h : xs[i]?=some v) : optS val bet xs (i+1)=if i=0∨bet (val v) (optS val bet xs i).1=true then (val v,i) else optS val bet xs i:=by simp only [optS,h]
set_option maxHeartbeats 4000000 in
theorem d184 (n : Vc) (f g : FuncId) (val : IVc→Int) (bet : Int→Int→Bool) (xs : List IVc) (hl : xs.length≤1000) (hf : ∀ v,placedV v=true→DetH Tryz.prog f [.pv (encIV v),.pv (capV n)] [] [] (.pv (Z (val v)))) (hg : ∀ x y,DetH Tryz.prog g [.pv (Z x),.pv (Z y)] [] [] (.pv (B (bet x y)))) (hp : xs.all placedV=true) : DetH Tryz.prog 184 [.pv (.agg [.fn (.func f) [] [capV n],.val (.func (.func g) #[] #[])]),.pv (ivcs xs)] [] [] (.pv (.tup [Z (optL val bet xs).1,Z (optL val bet xs).2])):=by
 refine detP_of Tryz.func184 rfl (by kernel_rfl) (by simp [Tryz.f184]) rfl ?_
 intro C hP hN
 simp only [Tryz.f184] at hN ⊢
 with_reducible repeat' (first|refine Sp.h ?_|((first|refine Ss.h ?_|(refine Sb.h ?_ ?_ ?_<;>(try intro hgd)<;>try exact Xy))<;>simp -implicitDefEqProofs (maxSteps:=2000000) [hP,hN])|refine X2 ?_ ?_|(refine Xd ?_ ?_<;>intro hcd<;>try exact Xx))
 refine WP.loopN [9] xs.length (fun i st=>st.t 2=.ptr 2 0∧st.h 2=some (.box [.pv (.fn (.func f) [] [capV n]),.pv (.val (.func (.func g) #[] #[]))] true false)∧st.t 11=.pv (ivcs xs)∧st.t 12=.pv (Z xs.length)∧st.t 13=.pv (Z i)∧st.h 9=none∧st.t 6=.pv (Z (optS val bet xs i).1)∧st.t 7=.pv (Z (optS val bet xs i).2)) (by simp [optS]) ?_
 rintro i st hi ⟨g2,hb2,g11,g12,g13,hb9,g6,g7⟩
 by_cases hlt : i < xs.length
 ·have hw:=wr_succ hlt (by omega)
  generalize hxe : xs[i]=v at *
  have hx : xs[i]?=some v:=by rw [List.getElem?_eq_getElem hlt,hxe]
  have cv:=hf v (List.all_eq_true.1 hp v (List.mem_of_getElem? hx))
  have hs:=optS_succ (val:=val) (bet:=bet) hx
  generalize optS val bet xs i=s at *
  generalize optS val bet xs (i+1)=s' at *
  have cb:=hg (val v) s.1
  generalize val v=y at *
  by_cases h0 : i=0
  ·subst h0
   rw [if_pos (.inl rfl)] at hs
   subst hs
   with_reducible repeat' (first|refine Sp.h ?_|((first|refine Ss.h ?_|refine Sc.h (cv) ?_|refine Sc.h (cb) ?_|(refine Sb.h ?_ ?_ ?_<;>(try intro hgd)<;>try exact Xy))<;>simp -implicitDefEqProofs (maxSteps:=2000000) [hP,hN,g2,hb2,g11,g12,g13,hb9,g6,g7,hlt,hx,hxe,hw])|refine X2 ?_ ?_|(refine Xd ?_ ?_<;>intro hcd<;>try exact Xx))
  ·have h0' : ((i : Int)==0)=false:=by simp;omega
   cases hbt : bet y s.1 with
   |true=>
    rw [hbt] at cb
    rw [if_pos (.inr hbt)] at hs
    subst hs
    with_reducible repeat' (first|refine Sp.h ?_|((first|refine Ss.h ?_|refine Sc.h (cv) ?_|refine Sc.h (cb) ?_|(refine Sb.h ?_ ?_ ?_<;>(try intro hgd)<;>try exact Xy))<;>simp -implicitDefEqProofs (maxSteps:=2000000) [hP,hN,g2,hb2,g11,g12,g13,hb9,g6,g7,hlt,hx,hxe,hw,h0,h0'])|refine X2 ?_ ?_|(refine Xd ?_ ?_<;>intro hcd<;>try exact Xx))
   |false=>
    rw [hbt] at cb
    rw [if_neg (by rintro (h|h);exact h0 h;rw [hbt] at h;cases h)] at hs
    subst hs
    with_reducible repeat' (first|refine Sp.h ?_|((first|refine Ss.h ?_|refine Sc.h (cv) ?_|refine Sc.h (cb) ?_|(refine Sb.h ?_ ?_ ?_<;>(try intro hgd)<;>try exact Xy))<;>simp -implicitDefEqProofs (maxSteps:=2000000) [hP,hN,g2,hb2,g11,g12,g13,hb9,g6,g7,hlt,hx,hxe,hw,h0,h0'])|refine X2 ?_ ?_|(refine Xd ?_ ?_<;>intro hcd<;>try exact Xx))
 ·have hin : i=xs.length:=by omega
  subst hin
  with_reducible repeat' (first|refine Sp.h ?_|((first|refine Ss.h ?_|(refine Sb.h ?_ ?_ ?_<;>(try intro hgd)<;>try exact Xy))<;>simp -implicitDefEqProofs (maxSteps:=2000000) [hP,hN,g2,hb2,g11,g12,g13,hb9,g6,g7])|refine X2 ?_ ?_|(refine Xd ?_ ?_<;>intro hcd<;>try exact Xx))
  all_goals exact ⟨rfl,rfl⟩
def ltB (x y : Int) : Bool:=decide (x < y)
def gtB (x y : Int) : Bool:=decide (y < x)
def leastL (n : Vc) (xs : List IVc) : Int × Nat:=optL (dotLo n) ltB xs
def greatL (n : Vc) (xs : List IVc) : Int × Nat:=optL (dotHi n) gtB xs
theorem placedB_all {xs : List IVc} (h : placedB xs=true) : xs.all placedV=true∧xs.length≤8∧1≤xs.length:=by
 simp only [placedB,Bool.and_eq_true,decide_eq_true_eq] at h
 exact ⟨h.2,h.1.2,h.1.1⟩
set_option maxHeartbeats 4000000 in
theorem d152 (n : Vc) (xs : List IVc) (hl : xs.length≤9223372036854775807) : DetH Tryz.prog 152 [.pv (encVec n),.pv (ivcs xs)] [] [] (.pv (.tup (if usableV n && placedB xs then [Z (leastL n xs).1,Z (leastL n xs).2,B true] else [Z 0,Z 0,B false]))):=by
 have cu:=d106 n
 have cp:=d78 xs hl
 cases hu : usableV n with
 |false=>
  rw [hu] at cu
  refine detP_of Tryz.func152 rfl (by kernel_rfl) (by simp [Tryz.f152]) rfl ?_
  intro C hP hN
  simp only [Tryz.f152] at hN ⊢
  with_reducible repeat' (first|refine Sp.h ?_|((first|refine Ss.h ?_|refine Sc.h (cu) ?_|refine Sc.h (cp) ?_|(refine Sb.h ?_ ?_ ?_<;>(try intro hgd)<;>try exact Xy))<;>simp -implicitDefEqProofs (maxSteps:=2000000) [hP,hN])|refine X2 ?_ ?_|(refine Xd ?_ ?_<;>intro hcd<;>try exact Xx))
 |true=>
  rw [hu] at cu
  cases hpl : placedB xs with
  |false=>
   rw [hpl] at cp
   refine detP_of Tryz.func152 rfl (by kernel_rfl) (by simp [Tryz.f152]) rfl ?_
   intro C hP hN
   simp only [Tryz.f152] at hN ⊢
   with_reducible repeat' (first|refine Sp.h ?_|((first|refine Ss.h ?_|refine Sc.h (cu) ?_|refine Sc.h (cp) ?_|(refine Sb.h ?_ ?_ ?_<;>(try intro hgd)<;>try exact Xy))<;>simp -implicitDefEqProofs (maxSteps:=2000000) [hP,hN])|refine X2 ?_ ?_|(refine Xd ?_ ?_<;>intro hcd<;>try exact Xx))
  |true=>
   rw [hpl] at cp
   have hn : nearV 16384 n=true:=by simp only [usableV,Bool.and_eq_true] at hu;exact hu.1
   obtain ⟨h1,h2,_⟩:=placedB_all hpl
   have cb:=d184 n 207 209 (dotLo n) ltB xs (by omega) (fun v hv=>d207 n v hn hv) d209 h1
   have hL : optL (dotLo n) ltB xs=leastL n xs:=rfl
   rw [hL] at cb
   generalize leastL n xs=r at *
   refine detP_of Tryz.func152 rfl (by kernel_rfl) (by simp [Tryz.f152]) rfl ?_
   intro C hP hN
   simp only [Tryz.f152] at hN ⊢
   with_reducible repeat' (first|refine Sp.h ?_|((first|refine Ss.h ?_|refine Sc.h (cu) ?_|refine Sc.h (cp) ?_|refine Sc.h (d183 n) ?_|refine Sc.h (cb) ?_|(refine Sb.h ?_ ?_ ?_<;>(try intro hgd)<;>try exact Xy))<;>simp -implicitDefEqProofs (maxSteps:=2000000) [hP,hN])|refine X2 ?_ ?_|(refine Xd ?_ ?_<;>intro hcd<;>try exact Xx))
set_option maxHeartbeats 4000000 in
theorem d153 (n : Vc) (xs : List IVc) (hl : xs.length≤9223372036854775807) : DetH Tryz.prog 153 [.pv (encVec n),.pv (ivcs xs)] [] [] (.pv (.tup (if usableV n && placedB xs then [Z (greatL n xs).1,Z (greatL n xs).2,B true] else [Z 0,Z 0,B false]))):=by
 have cu:=d106 n
 have cp:=d78 xs hl
 cases hu : usableV n with
 |false=>
  rw [hu] at cu
  refine detP_of Tryz.func153 rfl (by kernel_rfl) (by simp [Tryz.f153]) rfl ?_
  intro C hP hN
  simp only [Tryz.f153] at hN ⊢
  with_reducible repeat' (first|refine Sp.h ?_|((first|refine Ss.h ?_|refine Sc.h (cu) ?_|refine Sc.h (cp) ?_|(refine Sb.h ?_ ?_ ?_<;>(try intro hgd)<;>try exact Xy))<;>simp -implicitDefEqProofs (maxSteps:=2000000) [hP,hN])|refine X2 ?_ ?_|(refine Xd ?_ ?_<;>intro hcd<;>try exact Xx))
 |true=>
  rw [hu] at cu
  cases hpl : placedB xs with
  |false=>
   rw [hpl] at cp
   refine detP_of Tryz.func153 rfl (by kernel_rfl) (by simp [Tryz.f153]) rfl ?_
   intro C hP hN
   simp only [Tryz.f153] at hN ⊢
   with_reducible repeat' (first|refine Sp.h ?_|((first|refine Ss.h ?_|refine Sc.h (cu) ?_|refine Sc.h (cp) ?_|(refine Sb.h ?_ ?_ ?_<;>(try intro hgd)<;>try exact Xy))<;>simp -implicitDefEqProofs (maxSteps:=2000000) [hP,hN])|refine X2 ?_ ?_|(refine Xd ?_ ?_<;>intro hcd<;>try exact Xx))
  |true=>
   rw [hpl] at cp
   have hn : nearV 16384 n=true:=by simp only [usableV,Bool.and_eq_true] at hu;exact hu.1
   obtain ⟨h1,h2,_⟩:=placedB_all hpl
   have cb:=d184 n 210 211 (dotHi n) gtB xs (by omega) (fun v hv=>d210 n v hn hv) d211 h1
   have hL : optL (dotHi n) gtB xs=greatL n xs:=rfl
   rw [hL] at cb
   generalize greatL n xs=r at *
   refine detP_of Tryz.func153 rfl (by kernel_rfl) (by simp [Tryz.f153]) rfl ?_
   intro C hP hN
   simp only [Tryz.f153] at hN ⊢
   with_reducible repeat' (first|refine Sp.h ?_|((first|refine Ss.h ?_|refine Sc.h (cu) ?_|refine Sc.h (cp) ?_|refine Sc.h (d185 n) ?_|refine Sc.h (cb) ?_|(refine Sb.h ?_ ?_ ?_<;>(try intro hgd)<;>try exact Xy))<;>simp -implicitDefEqProofs (maxSteps:=2000000) [hP,hN])|refine X2 ?_ ?_|(refine Xd ?_ ?_<;>intro hcd<;>try exact Xx))
abbrev encSides (a : List IVc) (ra : Int) (b : List IVc) (rb : Int) : PV:=.agg [ivcs a,Z ra,ivcs b,Z rb]
def sideB (a : List IVc) (r : Int) : Bool:=placedB a && decide (0≤r) && decide (r≤1048576)
theorem d151 (a : List IVc) (r : Int) (hl : a.length≤9223372036854775807) : DetH Tryz.prog 151 [.pv (.agg [ivcs a,Z r])] [] [] (.pv (B (sideB a r))):=by
 have cp:=d78 a hl
 have hs : sideB a r=(placedB a && decide (0≤r) && decide (r≤1048576)):=rfl
 rw [hs]
 generalize placedB a=p at *
 cases p
 ·skip
  refine detP_of Tryz.func151 rfl (by kernel_rfl) (by simp [Tryz.f151]) rfl ?_
  intro C hP hN
  simp only [Tryz.f151] at hN ⊢
  with_reducible repeat' (first|refine Sp.h ?_|((first|refine Ss.h ?_|refine Sc.h (cp) ?_|(refine Sb.h ?_ ?_ ?_<;>(try intro hgd)<;>try exact Xy))<;>simp -implicitDefEqProofs (maxSteps:=2000000) [hP,hN])|refine X2 ?_ ?_|(refine Xd ?_ ?_<;>intro hcd<;>try exact Xx))
  all_goals (try (simp only [decide_eq_true_eq,decide_eq_false_iff_not] at hgd;intros;omega))
 ·skip
  refine detP_of Tryz.func151 rfl (by kernel_rfl) (by simp [Tryz.f151]) rfl ?_
  intro C hP hN
  simp only [Tryz.f151] at hN ⊢
  with_reducible repeat' (first|refine Sp.h ?_|((first|refine Ss.h ?_|refine Sc.h (cp) ?_|(refine Sb.h ?_ ?_ ?_<;>(try intro hgd)<;>try exact Xy))<;>simp -implicitDefEqProofs (maxSteps:=2000000) [hP,hN])|refine X2 ?_ ?_|(refine Xd ?_ ?_<;>intro hcd<;>try exact Xx))
  all_goals (try (simp only [decide_eq_true_eq,decide_eq_false_iff_not] at hgd;intros;omega))
theorem d105 (a : List IVc) (ra : Int) (b : List IVc) (rb : Int) : DetH Tryz.prog 105 [.pv (ivcs a),.pv (Z ra),.pv (ivcs b),.pv (Z rb)] [] [] (.pv (encSides a ra b rb)):=by
 refine detP_of Tryz.func105 rfl (by kernel_rfl) (by simp [Tryz.f105]) rfl ?_
 intro C hP hN
 simp only [Tryz.f105] at hN ⊢
 with_reducible repeat' (first|refine Sp.h ?_|((first|refine Ss.h ?_|(refine Sb.h ?_ ?_ ?_<;>(try intro hgd)<;>try exact Xy))<;>simp -implicitDefEqProofs (maxSteps:=2000000) [hP,hN])|refine X2 ?_ ?_|(refine Xd ?_ ?_<;>intro hcd<;>try exact Xx))
theorem best_rng {val : IVc→Int} {bet : Int→Int→Bool} {xs : List IVc} {m : Int} (h0 : 0≤m) (h : ∀ v ∈ xs,-m≤val v∧val v≤m) : ∀ i,-m≤(optS val bet xs i).1∧(optS val bet xs i).1≤m
 |0=>by simp [optS];omega
 |i+1=>by
  have ih:=best_rng (val:=val) (bet:=bet) h0 h i
  simp only [optS]
  split
  ·rename_i v hv
   split
   ·exact h v (List.mem_of_getElem? hv)
   ·exact ih
  ·exact ih
theorem dot_rng {n : Vc} {v : IVc} (hn : nearV 16384 n=true) (hv : placedV v=true) : (-13194139533312≤dotLo n v∧dotLo n v≤13194139533312)∧(-13194139533312≤dotHi n v∧dotHi n v≤13194139533312):=by
 rw [nearV_iff] at hn
 rw [placedV_iff] at hv
 obtain ⟨n1,n2,n3⟩:=hn
 obtain ⟨v1,v2,v3⟩:=hv
 have a1:=mn_rng n1 v1
 have a2:=mn_rng n2 v2
 have a3:=mn_rng n3 v3
 unfold dotLo dotHi
 omega
theorem least_rng {n : Vc} {xs : List IVc} (hn : nearV 16384 n=true) (hx : xs.all placedV=true) : -13194139533312≤(leastL n xs).1∧(leastL n xs).1≤13194139533312:=
 best_rng (by decide) (fun v hv=>(dot_rng hn (List.all_eq_true.1 hx v hv)).1) _
theorem great_rng {n : Vc} {xs : List IVc} (hn : nearV 16384 n=true) (hx : xs.all placedV=true) : -13194139533312≤(greatL n xs).1∧(greatL n xs).1≤13194139533312:=
 best_rng (by decide) (fun v hv=>(dot_rng hn (List.all_eq_true.1 hx v hv)).2) _
theorem sqN_le {v : Vc} (hv : nearV 16384 v=true) : sqN v≤805306368:=by
 rw [nearV_iff,inB_iff,inB_iff,inB_iff] at hv
 obtain ⟨v1,v2,v3⟩:=v
 simp only at hv
 have m1:=mul_rng (a:=v1) (b:=v1) 16384 16384 (by omega) (by omega) (by omega) (by omega)
 have m2:=mul_rng (a:=v2) (b:=v2) 16384 16384 (by omega) (by omega) (by omega) (by omega)
 have m3:=mul_rng (a:=v3) (b:=v3) 16384 16384 (by omega) (by omega) (by omega) (by omega)
 show (v1 * v1+v2 * v2+v3 * v3).toNat≤_
 omega
theorem norm_rng (v : Vc) : 0≤normI v∧normI v≤32768:=by
 unfold normI
 split
 ·rename_i hu
  have hv : nearV 16384 v=true:=by simp only [usableV,Bool.and_eq_true] at hu;exact hu.1
  have h1:=sqN_le hv
  have h2:=(sqrtN_sq (n:=sqN v) (by omega)).1
  have h3 : sqrtN (sqN v) < 32768:=by
   rcases Nat.lt_or_ge (sqrtN (sqN v)) 32768 with h|h
   ·exact h
   ·have:=Nat.mul_le_mul h h;omega
  unfold sqrtU
  split<;>omega
 ·omega
def marginI (n : Vc) (a : List IVc) (ra : Int) (b : List IVc) (rb : Int) : Int:=(leastL n a).1 - (greatL n b).1 - normI n * (ra+rb)
def marginB (n : Vc) (a : List IVc) (ra : Int) (b : List IVc) (rb : Int) : Bool:=sideB a ra && sideB b rb && usableV n
set_option maxHeartbeats 4000000 in
theorem d104 (n : Vc) (a : List IVc) (ra : Int) (b : List IVc) (rb : Int) (hl : a.length≤9223372036854775807) (hl' : b.length≤9223372036854775807) : DetH Tryz.prog 104 [.pv (encSides a ra b rb),.pv (encVec n)] [] [] (.pv (.tup (if marginB n a ra b rb then [Z (marginI n a ra b rb),B true] else [Z 0,B false]))):=by
 have ca:=d151 a ra hl
 have cb:=d151 b rb hl'
 have hm : marginB n a ra b rb=(sideB a ra && sideB b rb && usableV n):=rfl
 rw [hm]
 cases ha : sideB a ra with
 |false=>
  rw [ha] at ca
  refine detP_of Tryz.func104 rfl (by kernel_rfl) (by simp [Tryz.f104]) rfl ?_
  intro C hP hN
  simp only [Tryz.f104] at hN ⊢
  with_reducible repeat' (first|refine Sp.h ?_|((first|refine Wd ?_|refine Ss.h ?_|refine Sc.h (ca) ?_|refine Sc.h (cb) ?_|(refine Sb.h ?_ ?_ ?_<;>(try intro hgd)<;>try exact Xy))<;>simp -implicitDefEqProofs (maxSteps:=2000000) [hP,hN]<;>try refine Ya ?_)|refine X2 ?_ ?_|(refine Xd ?_ ?_<;>intro hcd<;>try exact Xx))
 |true=>
  rw [ha] at ca
  cases hb : sideB b rb with
  |false=>
   rw [hb] at cb
   refine detP_of Tryz.func104 rfl (by kernel_rfl) (by simp [Tryz.f104]) rfl ?_
   intro C hP hN
   simp only [Tryz.f104] at hN ⊢
   with_reducible repeat' (first|refine Sp.h ?_|((first|refine Wd ?_|refine Ss.h ?_|refine Sc.h (ca) ?_|refine Sc.h (cb) ?_|(refine Sb.h ?_ ?_ ?_<;>(try intro hgd)<;>try exact Xy))<;>simp -implicitDefEqProofs (maxSteps:=2000000) [hP,hN]<;>try refine Ya ?_)|refine X2 ?_ ?_|(refine Xd ?_ ?_<;>intro hcd<;>try exact Xx))
  |true=>
   rw [hb] at cb
   simp only [sideB,Bool.and_eq_true,decide_eq_true_eq] at ha hb
   obtain ⟨⟨ha1,ha2⟩,ha3⟩:=ha
   obtain ⟨⟨hb1,hb2⟩,hb3⟩:=hb
   have cl:=d152 n a hl
   have cg:=d153 n b hl'
   rw [ha1,Bool.and_true] at cl
   rw [hb1,Bool.and_true] at cg
   cases hu : usableV n with
   |false=>
    rw [hu] at cl
    simp at cl
    refine detP_of Tryz.func104 rfl (by kernel_rfl) (by simp [Tryz.f104]) rfl ?_
    intro C hP hN
    simp only [Tryz.f104] at hN ⊢
    with_reducible repeat' (first|refine Sp.h ?_|((first|refine Wd ?_|refine Ss.h ?_|refine Sc.h (ca) ?_|refine Sc.h (cb) ?_|refine Sc.h (cl) ?_|(refine Sb.h ?_ ?_ ?_<;>(try intro hgd)<;>try exact Xy))<;>simp -implicitDefEqProofs (maxSteps:=2000000) [hP,hN]<;>try refine Ya ?_)|refine X2 ?_ ?_|(refine Xd ?_ ?_<;>intro hcd<;>try exact Xx))
   |true=>
    rw [hu] at cl cg
    simp at cl cg
    have hn : nearV 16384 n=true:=by simp only [usableV,Bool.and_eq_true] at hu;exact hu.1
    have r1:=least_rng hn (placedB_all ha1).1
    have r2:=great_rng hn (placedB_all hb1).1
    have r3:=norm_rng n
    have cn:=d65 n
    have hM : marginI n a ra b rb=(leastL n a).1 - (greatL n b).1 - normI n * (ra+rb):=rfl
    rw [hM]
    generalize leastL n a=l at *
    generalize greatL n b=g at *
    generalize normI n=q at *
    have m1:=mul_rng (a:=q) (b:=ra+rb) 32768 2097152 (by omega) (by omega) (by omega) (by omega)
    have w1 : IntKind.i64.wrap (ra+rb)=ra+rb:=wr_id (by omega) (by omega)
    have w2 : IntKind.i64.wrap (q * (ra+rb))=q * (ra+rb):=wr_id (by omega) (by omega)
    have w3 : IntKind.i64.wrap (l.1 - g.1)=l.1 - g.1:=wr_id (by omega) (by omega)
    have w4 : IntKind.i64.wrap (l.1 - g.1 - q * (ra+rb))=l.1 - g.1 - q * (ra+rb):=wr_id (by omega) (by omega)
    refine detP_of Tryz.func104 rfl (by kernel_rfl) (by simp [Tryz.f104]) rfl ?_
    intro C hP hN
    simp only [Tryz.f104] at hN ⊢
    with_reducible repeat' (first|refine Sp.h ?_|((first|refine Wd ?_|refine Ss.h ?_|refine Sc.h (ca) ?_|refine Sc.h (cb) ?_|refine Sc.h (cl) ?_|refine Sc.h (cg) ?_|refine Sc.h (cn) ?_|(refine Sb.h ?_ ?_ ?_<;>(try intro hgd)<;>try exact Xy))<;>simp -implicitDefEqProofs (maxSteps:=2000000) [hP,hN,w1,w2,w3,w4]<;>try refine Ya ?_)|refine X2 ?_ ?_|(refine Xd ?_ ?_<;>intro hcd<;>try exact Xx))
def sepB (n : Vc) (a : List IVc) (ra : Int) (b : List IVc) (rb : Int) : Bool:=marginB n a ra b rb && decide (0 < marginI n a ra b rb)
theorem d122 (n : Vc) (a : List IVc) (ra : Int) (b : List IVc) (rb : Int) (hl : a.length≤9223372036854775807) (hl' : b.length≤9223372036854775807) : DetH Tryz.prog 122 [.pv (encSides a ra b rb),.pv (encVec n)] [] [] (.pv (B (sepB n a ra b rb))):=by
 have cm:=d104 n a ra b rb hl hl'
 have hs : sepB n a ra b rb=(marginB n a ra b rb && decide (0 < marginI n a ra b rb)):=rfl
 rw [hs]
 generalize marginI n a ra b rb=m at *
 cases hb : marginB n a ra b rb<;>rw [hb] at cm<;>simp at cm
 ·skip
  refine detP_of Tryz.func122 rfl (by kernel_rfl) (by simp [Tryz.f122]) rfl ?_
  intro C hP hN
  simp only [Tryz.f122] at hN ⊢
  with_reducible repeat' (first|refine Sp.h ?_|((first|refine Ss.h ?_|refine Sc.h (cm) ?_|(refine Sb.h ?_ ?_ ?_<;>(try intro hgd)<;>try exact Xy))<;>simp -implicitDefEqProofs (maxSteps:=2000000) [hP,hN])|refine X2 ?_ ?_|(refine Xd ?_ ?_<;>intro hcd<;>try exact Xx))
 ·skip
  refine detP_of Tryz.func122 rfl (by kernel_rfl) (by simp [Tryz.f122]) rfl ?_
  intro C hP hN
  simp only [Tryz.f122] at hN ⊢
  with_reducible repeat' (first|refine Sp.h ?_|((first|refine Ss.h ?_|refine Sc.h (cm) ?_|(refine Sb.h ?_ ?_ ?_<;>(try intro hgd)<;>try exact Xy))<;>simp -implicitDefEqProofs (maxSteps:=2000000) [hP,hN])|refine X2 ?_ ?_|(refine Xd ?_ ?_<;>intro hcd<;>try exact Xx))
theorem d74 (n : Vc) (a : List IVc) (ra : Int) (b : List IVc) (rb : Int) (hl : a.length≤9223372036854775807) (hl' : b.length≤9223372036854775807) : DetH Tryz.prog 74 [.pv (encVec n),.pv (ivcs a),.pv (Z ra),.pv (ivcs b),.pv (Z rb)] [] [] (.pv (B (sepB n a ra b rb))):=by
 have cs:=d122 n a ra b rb hl hl'
 generalize sepB n a ra b rb=s at *
 refine detP_of Tryz.func74 rfl (by kernel_rfl) (by simp [Tryz.f74]) rfl ?_
 intro C hP hN
 simp only [Tryz.f74] at hN ⊢
 with_reducible repeat' (first|refine Sp.h ?_|((first|refine Wd ?_|refine Ss.h ?_|refine Sc.h (d105 a ra b rb) ?_|refine Sc.h (cs) ?_|(refine Sb.h ?_ ?_ ?_<;>(try intro hgd)<;>try exact Xy))<;>simp -implicitDefEqProofs (maxSteps:=2000000) [hP,hN]<;>try refine Ya ?_)|refine X2 ?_ ?_|(refine Xd ?_ ?_<;>intro hcd<;>try exact Xx))
theorem d64 (n : Vc) (a : List IVc) (ra : Int) (b : List IVc) (rb : Int) (hl : a.length≤9223372036854775807) (hl' : b.length≤9223372036854775807) : DetH Tryz.prog 64 [.pv (encVec n),.pv (ivcs a),.pv (Z ra),.pv (ivcs b),.pv (Z rb)] [] [] (.pv (.tup (if marginB n a ra b rb then [Z (marginI n a ra b rb),B true] else [Z 0,B false]))):=by
 have cs:=d104 n a ra b rb hl hl'
 generalize marginI n a ra b rb=m at *
 cases hb : marginB n a ra b rb<;>rw [hb] at cs<;>simp at cs
 ·skip
  refine detP_of Tryz.func64 rfl (by kernel_rfl) (by simp [Tryz.f64]) rfl ?_
  intro C hP hN
  simp only [Tryz.f64] at hN ⊢
  with_reducible repeat' (first|refine Sp.h ?_|((first|refine Wd ?_|refine Ss.h ?_|refine Sc.h (d105 a ra b rb) ?_|refine Sc.h (cs) ?_|(refine Sb.h ?_ ?_ ?_<;>(try intro hgd)<;>try exact Xy))<;>simp -implicitDefEqProofs (maxSteps:=2000000) [hP,hN]<;>try refine Ya ?_)|refine X2 ?_ ?_|(refine Xd ?_ ?_<;>intro hcd<;>try exact Xx))
 ·skip
  refine detP_of Tryz.func64 rfl (by kernel_rfl) (by simp [Tryz.f64]) rfl ?_
  intro C hP hN
  simp only [Tryz.f64] at hN ⊢
  with_reducible repeat' (first|refine Sp.h ?_|((first|refine Wd ?_|refine Ss.h ?_|refine Sc.h (d105 a ra b rb) ?_|refine Sc.h (cs) ?_|(refine Sb.h ?_ ?_ ?_<;>(try intro hgd)<;>try exact Xy))<;>simp -implicitDefEqProofs (maxSteps:=2000000) [hP,hN]<;>try refine Ya ?_)|refine X2 ?_ ?_|(refine Xd ?_ ?_<;>intro hcd<;>try exact Xx))
end Go.Ab
namespace Go.Ab
open Go.Proofs
def addW (w : Int) (s x : Iv) : Iv:=(s.1+w * x.1,s.2+w * x.2)
def addWV (w : Int) (s x : IVc) : IVc:=(addW w s.1 x.1,addW w s.2.1 x.2.1,addW w s.2.2 x.2.2)
def wsum (l : List IVc) (ws : List Int) : Nat→IVc
 |0=>stillV
 |i+1=>match l[i]?,ws[i]? with
  |some x,some w=>addWV w (wsum l ws i) x
  |_,_=>wsum l ws i
def wtot (ws : List Int) : Nat→Int
 |0=>0
 |i+1=>wtot ws i+(ws[i]?).getD 0
def wB (w : Int) : Bool:=!(decide (w < 0) || decide (65536 < w))
def combB (l : List IVc) (ws : List Int) : Bool:=placedB l && decide (ws.length=l.length) && ws.all wB && !(decide (wtot ws ws.length < 1) || decide (65536 < wtot ws ws.length))
abbrev combR (l : List IVc) (ws : List Int) : PV:=.tup (if combB l ws then [encIV (wsum l ws ws.length),Z (wtot ws ws.length),B true] else [encIV stillV,Z 0,B false])
theorem addW_rng {w : Int} {s x : Iv} {m : Nat} (hw : 0≤w∧w≤65536) (hx : placedI x=true) (hs : (-((m : Int) * 17592186044416)≤s.1∧s.1≤(m : Int) * 17592186044416)∧(-((m : Int) * 17592186044416)≤s.2∧s.2≤(m : Int) * 17592186044416)) :
 ((-17592186044416≤w * x.1∧w * x.1≤17592186044416)∧(-17592186044416≤w * x.2∧w * x.2≤17592186044416))∧(-(((m+1 : Nat) : Int) * 17592186044416)≤(addW w s x).1∧(addW w s x).1≤((m+1 : Nat) : Int) * 17592186044416)∧(-(((m+1 : Nat) : Int) * 17592186044416)≤(addW w s x).2∧(addW w s x).2≤((m+1 : Nat) : Int) * 17592186044416):=by
 rw [placedI_iff] at hx
 have m1:=mul_rng (a:=w) (b:=x.1) 65536 268435456 (by omega) (by omega) (by omega) (by omega)
 have m2:=mul_rng (a:=w) (b:=x.2) 65536 268435456 (by omega) (by omega) (by omega) (by omega)
 simp only [addW]
 omega
def rngI (m : Nat) (s : Iv) : Prop:=(-((m : Int) * 17592186044416)≤s.1∧s.1≤(m : Int) * 17592186044416)∧(-((m : Int) * 17592186044416)≤s.2∧s.2≤(m : Int) * 17592186044416)
def rngV (m : Nat) (s : IVc) : Prop:=rngI m s.1∧rngI m s.2.1∧rngI m s.2.2
theorem wsum_rng {l : List IVc} {ws : List Int} (hl : ∀ v ∈ l,placedV v=true) (h : ∀ w ∈ ws,wB w=true) : ∀ i : Nat,rngV i (wsum l ws i)
 |0=>by simp [wsum,rngV,rngI,stillV]
 |i+1=>by
  have ih:=wsum_rng hl h i
  simp only [wsum]
  split
  ·rename_i x w hx hw
   have h1:=hl x (List.mem_of_getElem? hx)
   have h2:=h w (List.mem_of_getElem? hw)
   rw [placedV_iff] at h1
   simp only [wB,Bool.not_eq_true',Bool.or_eq_false_iff,decide_eq_false_iff_not] at h2
   exact ⟨(addW_rng ⟨by omega,by omega⟩ h1.1 ih.1).2,(addW_rng ⟨by omega,by omega⟩ h1.2.1 ih.2.1).2,(addW_rng ⟨by omega,by omega⟩ h1.2.2 ih.2.2).2⟩
  ·obtain ⟨⟨⟨a1,a2⟩,a3,a4⟩,⟨⟨b1,b2⟩,b3,b4⟩,⟨c1,c2⟩,c3,c4⟩:=ih
   refine ⟨⟨⟨?_,?_⟩,?_,?_⟩,⟨⟨?_,?_⟩,?_,?_⟩,⟨?_,?_⟩,?_,?_⟩<;>omega
def c6k (s x : IVc) (w : Int) (k : Nat) : List AV:=[.pv (Z (if 0 < k then (addW w s.1 x.1).1 else s.1.1)),.pv (Z (if 0 < k then (addW w s.1 x.1).2 else s.1.2)),.pv (Z (if 1 < k then (addW w s.2.1 x.2.1).1 else s.2.1.1)),.pv (Z (if 1 < k then (addW w s.2.1 x.2.1).2 else s.2.1.2)),.pv (Z (if 2 < k then (addW w s.2.2 x.2.2).1 else s.2.2.1)),.pv (Z (if 2 < k then (addW w s.2.2 x.2.2).2 else s.2.2.2))]
abbrev b6 (s : IVc) : List AV:=[.pv (Z s.1.1),.pv (Z s.1.2),.pv (Z s.2.1.1),.pv (Z s.2.1.2),.pv (Z s.2.2.1),.pv (Z s.2.2.2)]
set_option maxHeartbeats 16000000 in
set_option maxRecDepth 4000 in
theorem d133 (l : List IVc) (ws : List Int) (hl : l.length≤9223372036854775807) (hws : ws.length≤9223372036854775807) : DetH Tryz.prog 133 [.pv (ivcs l),.pv (zs ws)] [] [] (.pv (combR l ws)):=by
 have cp:=d78 l hl
 have hc : combB l ws=(placedB l && decide (ws.length=l.length) && ws.all wB && !(decide (wtot ws ws.length < 1) || decide (65536 < wtot ws ws.length))):=rfl
 have z6 : encIV stillV=V6 0 0 0 0 0 0:=rfl
 cases hp : placedB l with
 |false=>
  have hf : combB l ws=false:=by rw [hc,hp];simp
  rw [hp] at cp
  have hR : combR l ws=.tup [V6 0 0 0 0 0 0,Z 0,B false]:=by unfold combR;rw [hf];rfl
  rw [hR]
  refine detP_of Tryz.func133 rfl (by kernel_rfl) (by simp [Tryz.f133]) rfl ?_
  intro C hP hN
  simp only [Tryz.f133] at hN ⊢
  with_reducible repeat' (first|refine Sp.h ?_|((first|refine Wd ?_|refine Ss.h ?_|refine Sc.h (cp) ?_|(refine Sb.h ?_ ?_ ?_<;>(try intro hgd)<;>try exact Xy))<;>simp -implicitDefEqProofs (maxSteps:=2000000) [hP,hN]<;>try refine Ya ?_)|refine X2 ?_ ?_|(refine Xd ?_ ?_<;>intro hcd<;>try exact Xx))
 |true=>
 rw [hp] at cp
 by_cases hle : ws.length=l.length
 case neg=>
  have hf : combB l ws=false:=by rw [hc];simp [hle]
  have hle' : ((ws.length : Int) !=(l.length : Int))=true:=by simp;omega
  have hle2 : ¬ (ws.length : Int)=(l.length : Int):=by omega
  have hR : combR l ws=.tup [V6 0 0 0 0 0 0,Z 0,B false]:=by unfold combR;rw [hf];rfl
  rw [hR]
  refine detP_of Tryz.func133 rfl (by kernel_rfl) (by simp [Tryz.f133]) rfl ?_
  intro C hP hN
  simp only [Tryz.f133] at hN ⊢
  with_reducible repeat' (first|refine Sp.h ?_|((first|refine Wd ?_|refine Ss.h ?_|refine Sc.h (cp) ?_|(refine Sb.h ?_ ?_ ?_<;>(try intro hgd)<;>try exact Xy))<;>simp -implicitDefEqProofs (maxSteps:=2000000) [hP,hN,hle,hle',hle2]<;>try refine Ya ?_)|refine X2 ?_ ?_|(refine Xd ?_ ?_<;>intro hcd<;>try exact Xx))
 have hle' : ((ws.length : Int) !=(l.length : Int))=false:=by simp [hle]
 simp only [placedB,Bool.and_eq_true,decide_eq_true_eq] at hp
 obtain ⟨⟨hp1,hp2⟩,hp3⟩:=hp
 have hpv:=List.all_eq_true.1 hp3
 have hc2 : combB l ws=(ws.all wB && !(decide (wtot ws ws.length < 1) || decide (65536 < wtot ws ws.length))):=by
  have e1 : placedB l=true:=by simp only [placedB,Bool.and_eq_true,decide_eq_true_eq];exact ⟨⟨hp1,hp2⟩,hp3⟩
  rw [hc,e1,decide_eq_true hle];simp
 clear hc
 cases hall : ws.all wB with
 |false=>
  have hf : combB l ws=false:=by rw [hc2,hall];rfl
  have hR : combR l ws=.tup [V6 0 0 0 0 0 0,Z 0,B false]:=by unfold combR;rw [hf];rfl
  rw [hR]
  refine detP_of Tryz.func133 rfl (by kernel_rfl) (by simp [Tryz.f133]) rfl ?_
  intro C hP hN
  simp only [Tryz.f133] at hN ⊢
  with_reducible repeat' (first|refine Sp.h ?_|((first|refine Wd ?_|refine Ss.h ?_|refine Sc.h (cp) ?_|(refine Sb.h ?_ ?_ ?_<;>(try intro hgd)<;>try exact Xy))<;>simp -implicitDefEqProofs (maxSteps:=2000000) [hP,hN,hle']<;>try refine Ya ?_)|refine X2 ?_ ?_|(refine Xd ?_ ?_<;>intro hcd<;>try exact Xx))
  refine WP.loopN [12] ws.length (fun i st=>st.t 0=.pv (ivcs l)∧st.t 4=.ptr 4 0∧st.h 4=some (.box (b6 stillV) true false)∧st.t 7=.ptr 7 0∧st.h 7=some (.box (b6 (wsum l ws i)) true false)∧st.t 8=.pv (Z (wtot ws i))∧st.t 24=.pv (zs ws)∧st.t 25=.pv (Z ws.length)∧st.t 26=.pv (Z i)∧st.h 12=none∧(∀ k x,k < i→ws[k]?=some x→wB x=true)∧rngV i (wsum l ws i)∧0≤wtot ws i∧wtot ws i≤(i : Int) * 65536) (by simp [wsum,wtot,stillV,rngV,rngI]) ?_
  rintro i st hi ⟨g0,g4,hb4,g7,hb7,g8,g24,g25,g26,hb12,hq,hrs,ht0,ht1⟩
  by_cases hlt : i < ws.length
  ·have hw:=wr_succ hlt hws
   generalize hxe : ws[i]=w at *
   have hx : ws[i]?=some w:=by rw [List.getElem?_eq_getElem hlt,hxe]
   have hltl : i < l.length:=by omega
   generalize hye : l[i]=x at *
   have hy : l[i]?=some x:=by rw [List.getElem?_eq_getElem hltl,hye]
   have hst:=allS (p:=wB) hx hq
   cases hwb : wB w with
   |false=>
    have hwb' : w < 0∨65536 < w:=by
     simp only [wB,Bool.not_eq_false',Bool.or_eq_true,decide_eq_true_eq] at hwb;exact hwb
    rcases hwb' with h9|h9
    ·skip
     with_reducible repeat' (first|refine Sp.h ?_|((first|refine Wd ?_|refine Ss.h ?_|(refine Sb.h ?_ ?_ ?_<;>(try intro hgd)<;>try exact Xy))<;>simp -implicitDefEqProofs (maxSteps:=2000000) [hP,hN,g0,g4,hb4,g7,hb7,g8,g24,g25,g26,hb12,hlt,hx,hxe,h9]<;>try refine Ya ?_)|refine X2 ?_ ?_|(refine Xd ?_ ?_<;>intro hcd<;>try exact Xx))
    ·have h10 : ¬ w < 0:=by omega
     with_reducible repeat' (first|refine Sp.h ?_|((first|refine Wd ?_|refine Ss.h ?_|(refine Sb.h ?_ ?_ ?_<;>(try intro hgd)<;>try exact Xy))<;>simp -implicitDefEqProofs (maxSteps:=2000000) [hP,hN,g0,g4,hb4,g7,hb7,g8,g24,g25,g26,hb12,hlt,hx,hxe,h9,h10]<;>try refine Ya ?_)|refine X2 ?_ ?_|(refine Xd ?_ ?_<;>intro hcd<;>try exact Xx))
   |true=>
    have hst':=hst hwb
    have hwb' : ¬ w < 0∧¬ 65536 < w:=by
     simp only [wB,Bool.not_eq_true',Bool.or_eq_false_iff,decide_eq_false_iff_not] at hwb;exact hwb
    obtain ⟨h9,h10⟩:=hwb'
    have hpx:=hpv x (List.mem_of_getElem? hy)
    rw [placedV_iff] at hpx
    have hS : wsum l ws (i+1)=addWV w (wsum l ws i) x:=by simp only [wsum,hx,hy]
    have hT : wtot ws (i+1)=wtot ws i+w:=by simp only [wtot,hx,Option.getD_some]
    obtain ⟨r1,r2,r3⟩:=hrs
    have a1:=addW_rng (w:=w) (x:=x.1) ⟨by omega,by omega⟩ hpx.1 r1
    have a2:=addW_rng (w:=w) (x:=x.2.1) ⟨by omega,by omega⟩ hpx.2.1 r2
    have a3:=addW_rng (w:=w) (x:=x.2.2) ⟨by omega,by omega⟩ hpx.2.2 r3
    have hrn : rngV (i+1) (addWV w (wsum l ws i) x):=⟨a1.2,a2.2,a3.2⟩
    generalize wsum l ws i=S at *
    generalize wsum l ws (i+1)=S' at *
    generalize wtot ws i=T at *
    generalize wtot ws (i+1)=T' at *
    subst hS;subst hT
    have wT : IntKind.i64.wrap (T+w)=T+w:=wr_id (by omega) (by omega)
    have d1 : (addW w S.1 x.1).1=S.1.1+w * x.1.1:=rfl
    have d2 : (addW w S.1 x.1).2=S.1.2+w * x.1.2:=rfl
    have d3 : (addW w S.2.1 x.2.1).1=S.2.1.1+w * x.2.1.1:=rfl
    have d4 : (addW w S.2.1 x.2.1).2=S.2.1.2+w * x.2.1.2:=rfl
    have d5 : (addW w S.2.2 x.2.2).1=S.2.2.1+w * x.2.2.1:=rfl
    have d6 : (addW w S.2.2 x.2.2).2=S.2.2.2+w * x.2.2.2:=rfl
    have u1 : IntKind.i64.wrap (w * x.1.1)=w * x.1.1:=wr_id (by omega) (by omega)
    have u2 : IntKind.i64.wrap (w * x.1.2)=w * x.1.2:=wr_id (by omega) (by omega)
    have u3 : IntKind.i64.wrap (w * x.2.1.1)=w * x.2.1.1:=wr_id (by omega) (by omega)
    have u4 : IntKind.i64.wrap (w * x.2.1.2)=w * x.2.1.2:=wr_id (by omega) (by omega)
    have u5 : IntKind.i64.wrap (w * x.2.2.1)=w * x.2.2.1:=wr_id (by omega) (by omega)
    have u6 : IntKind.i64.wrap (w * x.2.2.2)=w * x.2.2.2:=wr_id (by omega) (by omega)
    have v1 : IntKind.i64.wrap (S.1.1+w * x.1.1)=(addW w S.1 x.1).1:=(wr_id (by rw [← d1];omega) (by rw [← d1];omega)).trans d1.symm
    have v2 : IntKind.i64.wrap (S.1.2+w * x.1.2)=(addW w S.1 x.1).2:=(wr_id (by rw [← d2];omega) (by rw [← d2];omega)).trans d2.symm
    have v3 : IntKind.i64.wrap (S.2.1.1+w * x.2.1.1)=(addW w S.2.1 x.2.1).1:=(wr_id (by rw [← d3];omega) (by rw [← d3];omega)).trans d3.symm
    have v4 : IntKind.i64.wrap (S.2.1.2+w * x.2.1.2)=(addW w S.2.1 x.2.1).2:=(wr_id (by rw [← d4];omega) (by rw [← d4];omega)).trans d4.symm
    have v5 : IntKind.i64.wrap (S.2.2.1+w * x.2.2.1)=(addW w S.2.2 x.2.2).1:=(wr_id (by rw [← d5];omega) (by rw [← d5];omega)).trans d5.symm
    have v6 : IntKind.i64.wrap (S.2.2.2+w * x.2.2.2)=(addW w S.2.2 x.2.2).2:=(wr_id (by rw [← d6];omega) (by rw [← d6];omega)).trans d6.symm
    have hfin : b6 (addWV w S x)=c6k S x w 3:=rfl
    have hbeg : b6 S=c6k S x w 0:=rfl
    rw [hbeg] at hb7
    rw [hfin]
    with_reducible repeat' (first|refine Sp.h ?_|((first|refine Wd ?_|refine Ss.h ?_|(refine Sb.h ?_ ?_ ?_<;>(try intro hgd)<;>try exact Xy))<;>simp -implicitDefEqProofs (maxSteps:=2000000) [hP,hN,g0,g4,hb4,g7,g8,g24,g25,g26,hb12,hlt,hltl,hx,hxe,hy,hye,h9,h10,wT,hb7]<;>try refine Ya ?_)|refine X2 ?_ ?_|(refine Xd ?_ ?_<;>intro hcd<;>try exact Xx))
    refine WP.loopN [12] 3 (fun k st=>st.t 0=.pv (ivcs l)∧st.t 4=.ptr 4 0∧st.h 4=some (.box (b6 stillV) true false)∧st.t 7=.ptr 7 0∧st.h 7=some (.box (c6k S x w k) true false)∧st.t 8=.pv (Z (T+w))∧st.t 10=.pv (Z w)∧st.t 24=.pv (zs ws)∧st.t 25=.pv (Z ws.length)∧st.t 26=.pv (Z i)∧st.h 12=none∧st.t 44=.pv (encIV x)∧st.t 45=.pv (Z k)) (by simp [g0,g4,hb4,g7,g8,g24,g25,g26,hb12,hb7,c6k]) ?_
    clear g0 g4 hb4 g7 hb7 g8 g24 g25 g26 hb12 hq
    rintro k st hk ⟨g0,g4,hb4,g7,hb7,g8,g10,g24,g25,g26,hb12,g44,g45⟩
    clear d1 d2 d3 d4 d5 d6 a1 a2 a3 r1 r2 r3
    rcases fin3' hk with rfl|rfl|rfl|rfl
    all_goals (simp [c6k] at hb7 g45)
    ·skip
     with_reducible repeat' (first|refine Sp.h ?_|((first|refine Wd ?_|refine Ss.h ?_|(refine Sb.h ?_ ?_ ?_<;>(try intro hgd)<;>try exact Xy))<;>simp -implicitDefEqProofs (maxSteps:=2000000) [hP,hN,g0,g4,hb4,g7,g8,g10,g24,g25,g26,hb12,g44,g45,hb7,u1,u2,v1,v2,c6k]<;>try refine Ya ?_)|refine X2 ?_ ?_|(refine Xd ?_ ?_<;>intro hcd<;>try exact Xx))
    ·skip
     with_reducible repeat' (first|refine Sp.h ?_|((first|refine Wd ?_|refine Ss.h ?_|(refine Sb.h ?_ ?_ ?_<;>(try intro hgd)<;>try exact Xy))<;>simp -implicitDefEqProofs (maxSteps:=2000000) [hP,hN,g0,g4,hb4,g7,g8,g10,g24,g25,g26,hb12,g44,g45,hb7,u3,u4,v3,v4,c6k]<;>try refine Ya ?_)|refine X2 ?_ ?_|(refine Xd ?_ ?_<;>intro hcd<;>try exact Xx))
    ·skip
     with_reducible repeat' (first|refine Sp.h ?_|((first|refine Wd ?_|refine Ss.h ?_|(refine Sb.h ?_ ?_ ?_<;>(try intro hgd)<;>try exact Xy))<;>simp -implicitDefEqProofs (maxSteps:=2000000) [hP,hN,g0,g4,hb4,g7,g8,g10,g24,g25,g26,hb12,g44,g45,hb7,u5,u6,v5,v6,c6k]<;>try refine Ya ?_)|refine X2 ?_ ?_|(refine Xd ?_ ?_<;>intro hcd<;>try exact Xx))
    ·skip
     with_reducible repeat' (first|refine Sp.h ?_|((first|refine Wd ?_|refine Ss.h ?_|(refine Sb.h ?_ ?_ ?_<;>(try intro hgd)<;>try exact Xy))<;>simp -implicitDefEqProofs (maxSteps:=2000000) [hP,hN,g0,g4,hb4,g7,g8,g10,g24,g25,g26,hb12,g44,g45,hb7,hw,hlt,c6k]<;>try refine Ya ?_)|refine X2 ?_ ?_|(refine Xd ?_ ?_<;>intro hcd<;>try exact Xx))
     all_goals exact ⟨hst',hrn,by omega,by omega⟩
  ·have:=allL hq hlt
   rw [this] at hall;cases hall
 |true=>
  refine detP_of Tryz.func133 rfl (by kernel_rfl) (by simp [Tryz.f133]) rfl ?_
  intro C hP hN
  simp only [Tryz.f133] at hN ⊢
  with_reducible repeat' (first|refine Sp.h ?_|((first|refine Wd ?_|refine Ss.h ?_|refine Sc.h (cp) ?_|(refine Sb.h ?_ ?_ ?_<;>(try intro hgd)<;>try exact Xy))<;>simp -implicitDefEqProofs (maxSteps:=2000000) [hP,hN,hle']<;>try refine Ya ?_)|refine X2 ?_ ?_|(refine Xd ?_ ?_<;>intro hcd<;>try exact Xx))
  refine WP.loopN [12] ws.length (fun i st=>st.t 0=.pv (ivcs l)∧st.t 4=.ptr 4 0∧st.h 4=some (.box (b6 stillV) true false)∧st.t 7=.ptr 7 0∧st.h 7=some (.box (b6 (wsum l ws i)) true false)∧st.t 8=.pv (Z (wtot ws i))∧st.t 24=.pv (zs ws)∧st.t 25=.pv (Z ws.length)∧st.t 26=.pv (Z i)∧st.h 12=none∧rngV i (wsum l ws i)∧0≤wtot ws i∧wtot ws i≤(i : Int) * 65536) (by simp [wsum,wtot,stillV,rngV,rngI]) ?_
  rintro i st hi ⟨g0,g4,hb4,g7,hb7,g8,g24,g25,g26,hb12,hrs,ht0,ht1⟩
  by_cases hlt : i < ws.length
  ·have hw:=wr_succ hlt hws
   generalize hxe : ws[i]=w at *
   have hx : ws[i]?=some w:=by rw [List.getElem?_eq_getElem hlt,hxe]
   have hltl : i < l.length:=by omega
   generalize hye : l[i]=x at *
   have hy : l[i]?=some x:=by rw [List.getElem?_eq_getElem hltl,hye]
   have hwb:=List.all_eq_true.1 hall w (List.mem_of_getElem? hx)
   have hwb' : ¬ w < 0∧¬ 65536 < w:=by
    simp only [wB,Bool.not_eq_true',Bool.or_eq_false_iff,decide_eq_false_iff_not] at hwb;exact hwb
   obtain ⟨h9,h10⟩:=hwb'
   have hpx:=hpv x (List.mem_of_getElem? hy)
   rw [placedV_iff] at hpx
   have hS : wsum l ws (i+1)=addWV w (wsum l ws i) x:=by simp only [wsum,hx,hy]
   have hT : wtot ws (i+1)=wtot ws i+w:=by simp only [wtot,hx,Option.getD_some]
   obtain ⟨r1,r2,r3⟩:=hrs
   have a1:=addW_rng (w:=w) (x:=x.1) ⟨by omega,by omega⟩ hpx.1 r1
   have a2:=addW_rng (w:=w) (x:=x.2.1) ⟨by omega,by omega⟩ hpx.2.1 r2
   have a3:=addW_rng (w:=w) (x:=x.2.2) ⟨by omega,by omega⟩ hpx.2.2 r3
   have hrn : rngV (i+1) (addWV w (wsum l ws i) x):=⟨a1.2,a2.2,a3.2⟩
   generalize wsum l ws i=S at *
   generalize wsum l ws (i+1)=S' at *
   generalize wtot ws i=T at *
   generalize wtot ws (i+1)=T' at *
   subst hS;subst hT
   have wT : IntKind.i64.wrap (T+w)=T+w:=wr_id (by omega) (by omega)
   have d1 : (addW w S.1 x.1).1=S.1.1+w * x.1.1:=rfl
   have d2 : (addW w S.1 x.1).2=S.1.2+w * x.1.2:=rfl
   have d3 : (addW w S.2.1 x.2.1).1=S.2.1.1+w * x.2.1.1:=rfl
   have d4 : (addW w S.2.1 x.2.1).2=S.2.1.2+w * x.2.1.2:=rfl
   have d5 : (addW w S.2.2 x.2.2).1=S.2.2.1+w * x.2.2.1:=rfl
   have d6 : (addW w S.2.2 x.2.2).2=S.2.2.2+w * x.2.2.2:=rfl
   have u1 : IntKind.i64.wrap (w * x.1.1)=w * x.1.1:=wr_id (by omega) (by omega)
   have u2 : IntKind.i64.wrap (w * x.1.2)=w * x.1.2:=wr_id (by omega) (by omega)
   have u3 : IntKind.i64.wrap (w * x.2.1.1)=w * x.2.1.1:=wr_id (by omega) (by omega)
   have u4 : IntKind.i64.wrap (w * x.2.1.2)=w * x.2.1.2:=wr_id (by omega) (by omega)
   have u5 : IntKind.i64.wrap (w * x.2.2.1)=w * x.2.2.1:=wr_id (by omega) (by omega)
   have u6 : IntKind.i64.wrap (w * x.2.2.2)=w * x.2.2.2:=wr_id (by omega) (by omega)
   have v1 : IntKind.i64.wrap (S.1.1+w * x.1.1)=(addW w S.1 x.1).1:=(wr_id (by rw [← d1];omega) (by rw [← d1];omega)).trans d1.symm
   have v2 : IntKind.i64.wrap (S.1.2+w * x.1.2)=(addW w S.1 x.1).2:=(wr_id (by rw [← d2];omega) (by rw [← d2];omega)).trans d2.symm
   have v3 : IntKind.i64.wrap (S.2.1.1+w * x.2.1.1)=(addW w S.2.1 x.2.1).1:=(wr_id (by rw [← d3];omega) (by rw [← d3];omega)).trans d3.symm
   have v4 : IntKind.i64.wrap (S.2.1.2+w * x.2.1.2)=(addW w S.2.1 x.2.1).2:=(wr_id (by rw [← d4];omega) (by rw [← d4];omega)).trans d4.symm
   have v5 : IntKind.i64.wrap (S.2.2.1+w * x.2.2.1)=(addW w S.2.2 x.2.2).1:=(wr_id (by rw [← d5];omega) (by rw [← d5];omega)).trans d5.symm
   have v6 : IntKind.i64.wrap (S.2.2.2+w * x.2.2.2)=(addW w S.2.2 x.2.2).2:=(wr_id (by rw [← d6];omega) (by rw [← d6];omega)).trans d6.symm
   have hfin : b6 (addWV w S x)=c6k S x w 3:=rfl
   have hbeg : b6 S=c6k S x w 0:=rfl
   rw [hbeg] at hb7
   rw [hfin]
   with_reducible repeat' (first|refine Sp.h ?_|((first|refine Wd ?_|refine Ss.h ?_|(refine Sb.h ?_ ?_ ?_<;>(try intro hgd)<;>try exact Xy))<;>simp -implicitDefEqProofs (maxSteps:=2000000) [hP,hN,g0,g4,hb4,g7,g8,g24,g25,g26,hb12,hlt,hltl,hx,hxe,hy,hye,h9,h10,wT,hb7]<;>try refine Ya ?_)|refine X2 ?_ ?_|(refine Xd ?_ ?_<;>intro hcd<;>try exact Xx))
   refine WP.loopN [12] 3 (fun k st=>st.t 0=.pv (ivcs l)∧st.t 4=.ptr 4 0∧st.h 4=some (.box (b6 stillV) true false)∧st.t 7=.ptr 7 0∧st.h 7=some (.box (c6k S x w k) true false)∧st.t 8=.pv (Z (T+w))∧st.t 10=.pv (Z w)∧st.t 24=.pv (zs ws)∧st.t 25=.pv (Z ws.length)∧st.t 26=.pv (Z i)∧st.h 12=none∧st.t 44=.pv (encIV x)∧st.t 45=.pv (Z k)) (by simp [g0,g4,hb4,g7,g8,g24,g25,g26,hb12,hb7,c6k]) ?_
   clear g0 g4 hb4 g7 hb7 g8 g24 g25 g26 hb12
   rintro k st hk ⟨g0,g4,hb4,g7,hb7,g8,g10,g24,g25,g26,hb12,g44,g45⟩
   clear d1 d2 d3 d4 d5 d6 a1 a2 a3 r1 r2 r3
   rcases fin3' hk with rfl|rfl|rfl|rfl
   all_goals (simp [c6k] at hb7 g45)
   ·skip
    with_reducible repeat' (first|refine Sp.h ?_|((first|refine Wd ?_|refine Ss.h ?_|(refine Sb.h ?_ ?_ ?_<;>(try intro hgd)<;>try exact Xy))<;>simp -implicitDefEqProofs (maxSteps:=2000000) [hP,hN,g0,g4,hb4,g7,g8,g10,g24,g25,g26,hb12,g44,g45,hb7,u1,u2,v1,v2,c6k]<;>try refine Ya ?_)|refine X2 ?_ ?_|(refine Xd ?_ ?_<;>intro hcd<;>try exact Xx))
   ·skip
    with_reducible repeat' (first|refine Sp.h ?_|((first|refine Wd ?_|refine Ss.h ?_|(refine Sb.h ?_ ?_ ?_<;>(try intro hgd)<;>try exact Xy))<;>simp -implicitDefEqProofs (maxSteps:=2000000) [hP,hN,g0,g4,hb4,g7,g8,g10,g24,g25,g26,hb12,g44,g45,hb7,u3,u4,v3,v4,c6k]<;>try refine Ya ?_)|refine X2 ?_ ?_|(refine Xd ?_ ?_<;>intro hcd<;>try exact Xx))
   ·skip
    with_reducible repeat' (first|refine Sp.h ?_|((first|refine Wd ?_|refine Ss.h ?_|(refine Sb.h ?_ ?_ ?_<;>(try intro hgd)<;>try exact Xy))<;>simp -implicitDefEqProofs (maxSteps:=2000000) [hP,hN,g0,g4,hb4,g7,g8,g10,g24,g25,g26,hb12,g44,g45,hb7,u5,u6,v5,v6,c6k]<;>try refine Ya ?_)|refine X2 ?_ ?_|(refine Xd ?_ ?_<;>intro hcd<;>try exact Xx))
   ·skip
    with_reducible repeat' (first|refine Sp.h ?_|((first|refine Wd ?_|refine Ss.h ?_|(refine Sb.h ?_ ?_ ?_<;>(try intro hgd)<;>try exact Xy))<;>simp -implicitDefEqProofs (maxSteps:=2000000) [hP,hN,g0,g4,hb4,g7,g8,g10,g24,g25,g26,hb12,g44,g45,hb7,hw,hlt,c6k]<;>try refine Ya ?_)|refine X2 ?_ ?_|(refine Xd ?_ ?_<;>intro hcd<;>try exact Xx))
    all_goals exact ⟨hrn,by omega,by omega⟩
  ·have hin : i=ws.length:=by omega
   subst hin
   have hTc : combB l ws=!(decide (wtot ws ws.length < 1) || decide (65536 < wtot ws ws.length)):=by rw [hc2,hall];simp
   generalize hTg : wtot ws ws.length=T at *
   generalize hSg : wsum l ws ws.length=S at *
   by_cases hT : T < 1∨65536 < T
   ·have hf : combB l ws=false:=by
     rw [hTc]
     rcases hT with h|h
     ·simp [h]
     ·simp [h]
    have hR : combR l ws=.tup [V6 0 0 0 0 0 0,Z 0,B false]:=by unfold combR;rw [hf];rfl
    rw [hR]
    rcases hT with h|h
    ·skip
     with_reducible repeat' (first|refine Sp.h ?_|((first|refine Wd ?_|refine Ss.h ?_|(refine Sb.h ?_ ?_ ?_<;>(try intro hgd)<;>try exact Xy))<;>simp -implicitDefEqProofs (maxSteps:=2000000) [hP,hN,g0,g4,hb4,g7,hb7,g8,g24,g25,g26,hb12,h]<;>try refine Ya ?_)|refine X2 ?_ ?_|(refine Xd ?_ ?_<;>intro hcd<;>try exact Xx))
    ·have h2 : ¬ T < 1:=by omega
     with_reducible repeat' (first|refine Sp.h ?_|((first|refine Wd ?_|refine Ss.h ?_|(refine Sb.h ?_ ?_ ?_<;>(try intro hgd)<;>try exact Xy))<;>simp -implicitDefEqProofs (maxSteps:=2000000) [hP,hN,g0,g4,hb4,g7,hb7,g8,g24,g25,g26,hb12,h,h2]<;>try refine Ya ?_)|refine X2 ?_ ?_|(refine Xd ?_ ?_<;>intro hcd<;>try exact Xx))
   ·have h1 : ¬ T < 1:=by omega
    have h2 : ¬ 65536 < T:=by omega
    have hf : combB l ws=true:=by rw [hTc];simp [h1,h2]
    have hR : combR l ws=.tup [encIV S,Z T,B true]:=by unfold combR;rw [hf,hSg,hTg];rfl
    rw [hR]
    with_reducible repeat' (first|refine Sp.h ?_|((first|refine Wd ?_|refine Ss.h ?_|(refine Sb.h ?_ ?_ ?_<;>(try intro hgd)<;>try exact Xy))<;>simp -implicitDefEqProofs (maxSteps:=2000000) [hP,hN,g0,g4,hb4,g7,hb7,g8,g24,g25,g26,hb12,h1,h2]<;>try refine Ya ?_)|refine X2 ?_ ?_|(refine Xd ?_ ?_<;>intro hcd<;>try exact Xx))
end Go.Ab
namespace Go.Ab
open Go.Proofs
def nusB (l : List Vc) : Bool:=decide (1≤l.length) && decide (l.length≤8) && l.all (nearV 268435456)
set_option maxHeartbeats 8000000 in
theorem d75 (l : List Vc) (hl : l.length≤9223372036854775807) : DetH Tryz.prog 75 [.pv (vecs l)] [] [] (.pv (B (nusB l))):=by
 by_cases hh : l.length < 1∨8 < l.length
 ·have hf : nusB l=false:=by
   cases hb : nusB l with
   |false=>rfl
   |true=>
    exfalso
    unfold nusB at hb
    simp only [Bool.and_eq_true,decide_eq_true_eq] at hb
    obtain ⟨⟨b3,b4⟩,_⟩:=hb
    omega
  rw [hf]
  have hh' : (l.length : Int) < 1∨(8 : Int) < l.length:=by omega
  rcases hh' with h|h
  ·skip
   refine detP_of Tryz.func75 rfl (by kernel_rfl) (by simp [Tryz.f75]) rfl ?_
   intro C hP hN
   simp only [Tryz.f75] at hN ⊢
   with_reducible repeat' (first|refine Sp.h ?_|((first|refine Ss.h ?_|(refine Sb.h ?_ ?_ ?_<;>(try intro hgd)<;>try exact Xy))<;>simp -implicitDefEqProofs (maxSteps:=2000000) [hP,hN,h])|refine X2 ?_ ?_|(refine Xd ?_ ?_<;>intro hcd<;>try exact Xx))
  ·skip
   refine detP_of Tryz.func75 rfl (by kernel_rfl) (by simp [Tryz.f75]) rfl ?_
   intro C hP hN
   simp only [Tryz.f75] at hN ⊢
   with_reducible repeat' (first|refine Sp.h ?_|((first|refine Ss.h ?_|(refine Sb.h ?_ ?_ ?_<;>(try intro hgd)<;>try exact Xy))<;>simp -implicitDefEqProofs (maxSteps:=2000000) [hP,hN,h])|refine X2 ?_ ?_|(refine Xd ?_ ?_<;>intro hcd<;>try exact Xx))
 have h3 : ¬ (l.length : Int) < 1:=by omega
 have h4 : ¬ (8 : Int) < l.length:=by omega
 have h3' : 1≤l.length:=by omega
 have h4' : l.length≤8:=by omega
 have hR : nusB l=l.all (nearV 268435456):=by
  unfold nusB
  rw [decide_eq_true h3',decide_eq_true h4'];simp
 rw [hR]
 refine detP_of Tryz.func75 rfl (by kernel_rfl) (by simp [Tryz.f75]) rfl ?_
 intro C hP hN
 simp only [Tryz.f75] at hN ⊢
 cases hall : l.all (nearV 268435456) with
 |true=>
  with_reducible repeat' (first|refine Sp.h ?_|((first|refine Ss.h ?_|(refine Sb.h ?_ ?_ ?_<;>(try intro hgd)<;>try exact Xy))<;>simp -implicitDefEqProofs (maxSteps:=2000000) [hP,hN,hall,h3,h4,h3',h4'])|refine X2 ?_ ?_|(refine Xd ?_ ?_<;>intro hcd<;>try exact Xx))
  refine WP.loopN [4] l.length (fun i st=>True∧st.t 15=.pv (vecs l)∧st.t 16=.pv (Z l.length)∧st.t 17=.pv (Z i)∧st.h 4=none) (by simp) ?_
  rintro i st hi ⟨g1,gL,gN,gI,hbx⟩
  by_cases hlt : i < l.length
  ·have hw:=wr_succ hlt (by omega)
   have hv:=nearV_iff.1 (List.all_eq_true.1 hall _ (List.getElem_mem hlt))
   obtain ⟨hv1,hv2,hv3⟩:=hv
   rw [inB_iff] at hv1 hv2 hv3
   generalize hxe : l[i]=v at *
   have hx : l[i]?=some v:=by rw [List.getElem?_eq_getElem hlt,hxe]
   with_reducible repeat' (first|refine Sp.h ?_|((first|refine Ss.h ?_|(refine Sb.h ?_ ?_ ?_<;>(try intro hgd)<;>try exact Xy))<;>simp -implicitDefEqProofs (maxSteps:=2000000) [hP,hN,g1,gL,gN,gI,hbx,hlt,hx,hxe])|refine X2 ?_ ?_|(refine Xd ?_ ?_<;>intro hcd<;>try exact Xx))
   refine WP.loopN [] 3 (fun k st=>True∧st.t 15=.pv (vecs l)∧st.t 16=.pv (Z l.length)∧st.t 17=.pv (Z i)∧st.t 21=.pv (encVec v)∧st.t 22=.pv (Z k)) (by simp [g1,gL,gN,gI]) ?_
   clear g1 gL gN gI hbx
   rintro k st hk ⟨g1,gL,gN,gI,gA,gK⟩
   rcases fin3' hk with rfl|rfl|rfl|rfl
   ·skip
    with_reducible repeat' (first|refine Sp.h ?_|((first|refine Ss.h ?_|(refine Sb.h ?_ ?_ ?_<;>(try intro hgd)<;>try exact Xy))<;>simp -implicitDefEqProofs (maxSteps:=2000000) [hP,hN,g1,gL,gN,gI,gA,gK,hv1,hv2,hv3,hw])|refine X2 ?_ ?_|(refine Xd ?_ ?_<;>intro hcd<;>try exact Xx))
   ·skip
    with_reducible repeat' (first|refine Sp.h ?_|((first|refine Ss.h ?_|(refine Sb.h ?_ ?_ ?_<;>(try intro hgd)<;>try exact Xy))<;>simp -implicitDefEqProofs (maxSteps:=2000000) [hP,hN,g1,gL,gN,gI,gA,gK,hv1,hv2,hv3,hw])|refine X2 ?_ ?_|(refine Xd ?_ ?_<;>intro hcd<;>try exact Xx))
   ·skip
    with_reducible repeat' (first|refine Sp.h ?_|((first|refine Ss.h ?_|(refine Sb.h ?_ ?_ ?_<;>(try intro hgd)<;>try exact Xy))<;>simp -implicitDefEqProofs (maxSteps:=2000000) [hP,hN,g1,gL,gN,gI,gA,gK,hv1,hv2,hv3,hw])|refine X2 ?_ ?_|(refine Xd ?_ ?_<;>intro hcd<;>try exact Xx))
   ·skip
    with_reducible repeat' (first|refine Sp.h ?_|((first|refine Ss.h ?_|(refine Sb.h ?_ ?_ ?_<;>(try intro hgd)<;>try exact Xy))<;>simp -implicitDefEqProofs (maxSteps:=2000000) [hP,hN,g1,gL,gN,gI,gA,gK,hlt,hw])|refine X2 ?_ ?_|(refine Xd ?_ ?_<;>intro hcd<;>try exact Xx))
  ·skip
   with_reducible repeat' (first|refine Sp.h ?_|((first|refine Ss.h ?_|(refine Sb.h ?_ ?_ ?_<;>(try intro hgd)<;>try exact Xy))<;>simp -implicitDefEqProofs (maxSteps:=2000000) [hP,hN,g1,gL,gN,gI,hbx,hlt])|refine X2 ?_ ?_|(refine Xd ?_ ?_<;>intro hcd<;>try exact Xx))
 |false=>
  with_reducible repeat' (first|refine Sp.h ?_|((first|refine Ss.h ?_|(refine Sb.h ?_ ?_ ?_<;>(try intro hgd)<;>try exact Xy))<;>simp -implicitDefEqProofs (maxSteps:=2000000) [hP,hN,hall,h3,h4,h3',h4'])|refine X2 ?_ ?_|(refine Xd ?_ ?_<;>intro hcd<;>try exact Xx))
  refine WP.loopN [4] l.length (fun i st=>True∧st.t 15=.pv (vecs l)∧st.t 16=.pv (Z l.length)∧st.t 17=.pv (Z i)∧st.h 4=none∧∀ k x,k < i→l[k]?=some x→nearV 268435456 x=true) (by simp) ?_
  rintro i st hi ⟨g1,gL,gN,gI,hbx,hq⟩
  by_cases hlt : i < l.length
  ·have hw:=wr_succ hlt (by omega)
   generalize hxe : l[i]=v at *
   have hx : l[i]?=some v:=by rw [List.getElem?_eq_getElem hlt,hxe]
   have hst:=allS (p:=nearV 268435456) hx hq
   with_reducible repeat' (first|refine Sp.h ?_|((first|refine Ss.h ?_|(refine Sb.h ?_ ?_ ?_<;>(try intro hgd)<;>try exact Xy))<;>simp -implicitDefEqProofs (maxSteps:=2000000) [hP,hN,g1,gL,gN,gI,hbx,hlt,hx,hxe])|refine X2 ?_ ?_|(refine Xd ?_ ?_<;>intro hcd<;>try exact Xx))
   refine WP.loopN [] 3 (fun k st=>True∧st.t 15=.pv (vecs l)∧st.t 16=.pv (Z l.length)∧st.t 17=.pv (Z i)∧st.t 21=.pv (encVec v)∧st.t 22=.pv (Z k)∧(0 < k→inB v.1 268435456=true)∧(1 < k→inB v.2.1 268435456=true)∧(2 < k→inB v.2.2 268435456=true)) (by simp [g1,gL,gN,gI]) ?_
   clear g1 gL gN gI hbx hq
   rintro k st hk ⟨g1,gL,gN,gI,gA,gK,q0,q1,q2⟩
   rcases fin3' hk with rfl|rfl|rfl|rfl
   ·skip
    with_reducible repeat' (first|refine Sp.h ?_|((first|refine Ss.h ?_|(refine Sb.h ?_ ?_ ?_<;>(try intro hgd)<;>try exact Xy))<;>simp -implicitDefEqProofs (maxSteps:=2000000) [hP,hN,g1,gL,gN,gI,gA,gK,hw])|refine X2 ?_ ?_|(refine Xd ?_ ?_<;>intro hcd<;>try exact Xx))
    all_goals (try (rw [inB_iff];simp only [decide_eq_false_iff_not,decide_eq_true_eq] at hgd hcd;omega))
   ·skip
    with_reducible repeat' (first|refine Sp.h ?_|((first|refine Ss.h ?_|(refine Sb.h ?_ ?_ ?_<;>(try intro hgd)<;>try exact Xy))<;>simp -implicitDefEqProofs (maxSteps:=2000000) [hP,hN,g1,gL,gN,gI,gA,gK,hw])|refine X2 ?_ ?_|(refine Xd ?_ ?_<;>intro hcd<;>try exact Xx))
    all_goals (try (exact ⟨q0 (by omega),by rw [inB_iff];simp only [decide_eq_false_iff_not,decide_eq_true_eq] at hgd hcd;omega⟩))
   ·skip
    with_reducible repeat' (first|refine Sp.h ?_|((first|refine Ss.h ?_|(refine Sb.h ?_ ?_ ?_<;>(try intro hgd)<;>try exact Xy))<;>simp -implicitDefEqProofs (maxSteps:=2000000) [hP,hN,g1,gL,gN,gI,gA,gK,hw])|refine X2 ?_ ?_|(refine Xd ?_ ?_<;>intro hcd<;>try exact Xx))
    all_goals (try (exact ⟨q0 (by omega),q1 (by omega),by rw [inB_iff];simp only [decide_eq_false_iff_not,decide_eq_true_eq] at hgd hcd;omega⟩))
   ·have hn : nearV 268435456 v=true:=nearV_iff.2 ⟨q0 (by omega),q1 (by omega),q2 (by omega)⟩
    have hst':=hst hn
    with_reducible repeat' (first|refine Sp.h ?_|((first|refine Ss.h ?_|(refine Sb.h ?_ ?_ ?_<;>(try intro hgd)<;>try exact Xy))<;>simp -implicitDefEqProofs (maxSteps:=2000000) [hP,hN,g1,gL,gN,gI,gA,gK,hlt,hw])|refine X2 ?_ ?_|(refine Xd ?_ ?_<;>intro hcd<;>try exact Xx))
    all_goals (try exact fun k a b c=>hst' k (a,b,c))
  ·have:=allL hq hlt
   rw [this] at hall;cases hall
def nrSub (v w : Vc) : Vc:=(v.1 - w.1,v.2.1 - w.2.1,v.2.2 - w.2.2)
def nrDot (v w : Vc) : Int:=v.1 * w.1+v.2.1 * w.2.1+v.2.2 * w.2.2
theorem d123 (v w : Vc) (hv : smV 1152921504606846976 v) (hw : smV 1152921504606846976 w) : DetH Tryz.prog 123 [.pv (encVec v),.pv (encVec w)] [] [] (.pv (encVec (nrSub v w))):=by
 obtain ⟨v1,v2,v3⟩:=hv
 obtain ⟨w1,w2,w3⟩:=hw
 have e1 : IntKind.i64.wrap (v.1 - w.1)=v.1 - w.1:=wr_id (by omega) (by omega)
 have e2 : IntKind.i64.wrap (v.2.1 - w.2.1)=v.2.1 - w.2.1:=wr_id (by omega) (by omega)
 have e3 : IntKind.i64.wrap (v.2.2 - w.2.2)=v.2.2 - w.2.2:=wr_id (by omega) (by omega)
 have hr : nrSub v w=(v.1 - w.1,v.2.1 - w.2.1,v.2.2 - w.2.2):=rfl
 rw [hr]
 refine detP_of Tryz.func123 rfl (by kernel_rfl) (by simp [Tryz.f123]) rfl ?_
 intro C hP hN
 simp only [Tryz.f123] at hN ⊢
 with_reducible repeat' (first|refine Sp.h ?_|((first|refine Ss.h ?_|(refine Sb.h ?_ ?_ ?_<;>(try intro hgd)<;>try exact Xy))<;>simp -implicitDefEqProofs (maxSteps:=2000000) [hP,hN,e1,e2,e3])|refine X2 ?_ ?_|(refine Xd ?_ ?_<;>intro hcd<;>try exact Xx))
theorem nrDot_rng {v w : Vc} {m n : Nat} (hv : smV m v) (hw : smV n w) : (-((m * n : Nat) : Int)≤v.1 * w.1∧v.1 * w.1≤((m * n : Nat) : Int))∧(-((m * n : Nat) : Int)≤v.2.1 * w.2.1∧v.2.1 * w.2.1≤((m * n : Nat) : Int))∧(-((m * n : Nat) : Int)≤v.2.2 * w.2.2∧v.2.2 * w.2.2≤((m * n : Nat) : Int)):=
 ⟨mul_rng m n hv.1.1 hv.1.2 hw.1.1 hw.1.2,mul_rng m n hv.2.1.1 hv.2.1.2 hw.2.1.1 hw.2.1.2,mul_rng m n hv.2.2.1 hv.2.2.2 hw.2.2.1 hw.2.2.2⟩
theorem d172 (v w : Vc) (m n : Nat) (hv : smV m v) (hw : smV n w) (hmn : 3 * (m * n)≤9223372036854775807) : DetH Tryz.prog 172 [.pv (encVec v),.pv (encVec w)] [] [] (.pv (Z (nrDot v w))):=by
 obtain ⟨r1,r2,r3⟩:=nrDot_rng hv hw
 have hr : nrDot v w=v.1 * w.1+v.2.1 * w.2.1+v.2.2 * w.2.2:=rfl
 rw [hr]
 generalize m * n=mn at *
 have e1 : IntKind.i64.wrap (v.1 * w.1)=v.1 * w.1:=wr_id (by omega) (by omega)
 have e2 : IntKind.i64.wrap (v.2.1 * w.2.1)=v.2.1 * w.2.1:=wr_id (by omega) (by omega)
 have e3 : IntKind.i64.wrap (v.2.2 * w.2.2)=v.2.2 * w.2.2:=wr_id (by omega) (by omega)
 have e4 : IntKind.i64.wrap (v.1 * w.1+v.2.1 * w.2.1)=v.1 * w.1+v.2.1 * w.2.1:=wr_id (by omega) (by omega)
 have e5 : IntKind.i64.wrap (v.1 * w.1+v.2.1 * w.2.1+v.2.2 * w.2.2)=v.1 * w.1+v.2.1 * w.2.1+v.2.2 * w.2.2:=wr_id (by omega) (by omega)
 refine detP_of Tryz.func172 rfl (by kernel_rfl) (by simp [Tryz.f172]) rfl ?_
 intro C hP hN
 simp only [Tryz.f172] at hN ⊢
 with_reducible repeat' (first|refine Sp.h ?_|((first|refine Ss.h ?_|(refine Sb.h ?_ ?_ ?_<;>(try intro hgd)<;>try exact Xy))<;>simp -implicitDefEqProofs (maxSteps:=2000000) [hP,hN,e1,e2,e3,e4,e5])|refine X2 ?_ ?_|(refine Xd ?_ ?_<;>intro hcd<;>try exact Xx))
abbrev encLs (l : List Vc) (w : List Int) : PV:=.agg [vecs l,zs w]
theorem sr76 (l : List Vc) (h1 : 1≤l.length) (h2 : l.length≤8) : DetH Tryz.prog 76 [.pv (vecs l)] [] [] (.srow [vecs l] 2 1 (((List.replicate l.length 0).set 0 65536).map Z)):=by
 refine detP_of Tryz.func76 rfl (by kernel_rfl) (by simp [Tryz.f76]) rfl ?_
 intro C hP hN
 simp only [Tryz.f76] at hN ⊢
 with_reducible repeat' (first|refine Sp.h ?_|((first|refine Ss.h ?_|(refine Sb.h ?_ ?_ ?_<;>(try intro hgd)<;>try exact Xy))<;>simp -implicitDefEqProofs (maxSteps:=2000000) [hP,hN,show (0 : Int) < l.length by omega,show 0 < l.length by omega,show (8 : Int) * (l.length : Int)≤281474976710656 by omega,show (l.length : Int)≤9223372036854775807 by omega])|refine X2 ?_ ?_|(refine Xd ?_ ?_<;>intro hcd<;>try exact Xx))
def nrSum (l : List Vc) (w : List Int) : Nat→Vc
 |0=>(0,0,0)
 |i+1=>match l[i]?,w[i]? with
  |some p,some k=>((nrSum l w i).1+k * p.1,(nrSum l w i).2.1+k * p.2.1,(nrSum l w i).2.2+k * p.2.2)
  |_,_=>nrSum l w i
structure WgOk (w : List Int) : Prop where
 pos : ∀ k ∈ w,0≤k
 tot : wtot w w.length≤65536
theorem wtot_get {w : List Int} {i : Nat} {k : Int} (h : w[i]?=some k) : wtot w (i+1)=wtot w i+k:=by simp [wtot,h]
theorem wtot_mono {w : List Int} (h : ∀ k ∈ w,0≤k) {i j : Nat} (hij : i≤j) : wtot w i≤wtot w j:=by
 induction hij with
 |refl=>exact Int.le_refl _
 |step h1 ih=>
  rename_i m
  cases hw : w[m]? with
  |none=>simp only [wtot,hw,Option.getD_none];omega
  |some k=>
   have:=h k (List.mem_of_getElem? hw)
   rw [wtot_get hw];omega
theorem wtot_pos {w : List Int} (h : ∀ k ∈ w,0≤k) (i : Nat) : 0≤wtot w i:=wtot_mono h (Nat.zero_le i)
theorem scale_rng {k x m : Int} (hk : 0≤k) (hx : -m≤x∧x≤m) : -(k * m)≤k * x∧k * x≤k * m:=by
 refine ⟨?_,Int.mul_le_mul_of_nonneg_left hx.2 hk⟩
 have:=Int.mul_le_mul_of_nonneg_left hx.1 hk
 rw [Int.mul_neg] at this;exact this
theorem near_sm {v : Vc} (h : nearV 268435456 v=true) : smV 268435456 v:=by
 rw [nearV_iff,inB_iff,inB_iff,inB_iff] at h
 exact ⟨⟨by omega,by omega⟩,⟨by omega,by omega⟩,⟨by omega,by omega⟩⟩
theorem nrSum_rng {l : List Vc} {w : List Int} (hl : l.all (nearV 268435456)=true) (hw : ∀ k ∈ w,0≤k) : ∀ i : Nat,smV (wtot w i * 268435456) (nrSum l w i)
 |0=>by simp [nrSum,wtot,smV]
 |i+1=>by
  have ih:=nrSum_rng hl hw i
  have hm:=wtot_mono hw (Nat.le_succ i)
  simp only [nrSum]
  split
  ·rename_i p k hp hk
   have h1:=near_sm (List.all_eq_true.1 hl p (List.mem_of_getElem? hp))
   have h2:=hw k (List.mem_of_getElem? hk)
   rw [wtot_get hk]
   obtain ⟨a,b,c⟩:=h1
   have e1:=scale_rng h2 a
   have e2:=scale_rng h2 b
   have e3:=scale_rng h2 c
   obtain ⟨i1,i2,i3⟩:=ih
   exact ⟨⟨by simp only;omega,by simp only;omega⟩,⟨by simp only;omega,by simp only;omega⟩,⟨by simp only;omega,by simp only;omega⟩⟩
  ·obtain ⟨i1,i2,i3⟩:=ih
   have hm' : wtot w i≤wtot w (i+1):=hm
   exact ⟨⟨by omega,by omega⟩,⟨by omega,by omega⟩,⟨by omega,by omega⟩⟩
theorem nrSum_sm {l : List Vc} {w : List Int} (hl : l.all (nearV 268435456)=true) (hw : WgOk w) (i : Nat) (hi : i≤w.length) : smV 17592186044416 (nrSum l w i):=by
 have h1:=nrSum_rng hl hw.pos i
 have h2:=wtot_mono hw.pos hi
 have h3:=hw.tot
 obtain ⟨i1,i2,i3⟩:=h1
 exact ⟨⟨by omega,by omega⟩,⟨by omega,by omega⟩,⟨by omega,by omega⟩⟩
def part3 (s p : Vc) (k : Int) (j : Nat) : List AV:=[.pv (Z (if 0 < j then s.1+k * p.1 else s.1)),.pv (Z (if 1 < j then s.2.1+k * p.2.1 else s.2.1)),.pv (Z (if 2 < j then s.2.2+k * p.2.2 else s.2.2))]
set_option maxHeartbeats 16000000 in
theorem d124 (l : List Vc) (ws : List Int) (h8 : l.length≤8) (hle : ws.length=l.length) (hl : l.all (nearV 268435456)=true) (hw : WgOk ws) : DetH Tryz.prog 124 [.pv (encLs l ws)] [] [] (.pv (encVec (nrSum l ws l.length))):=by
 refine detP_of Tryz.func124 rfl (by kernel_rfl) (by simp [Tryz.f124]) rfl ?_
 intro C hP hN
 simp only [Tryz.f124] at hN ⊢
 with_reducible repeat' (first|refine Sp.h ?_|((first|refine Wd ?_|refine Ss.h ?_|(refine Sb.h ?_ ?_ ?_<;>(try intro hgd)<;>try exact Xy))<;>simp -implicitDefEqProofs (maxSteps:=2000000) [hP,hN]<;>try refine Ya ?_)|refine X2 ?_ ?_|(refine Xd ?_ ?_<;>intro hcd<;>try exact Xx))
 refine WP.loopN [5] l.length (fun i st=>st.t 1=.ptr 1 0∧st.h 1=some (.box [.pv (vecs l),.pv (zs ws)] true false)∧st.t 2=.ptr 2 0∧st.h 2=some (.box [.pv (Z 0),.pv (Z 0),.pv (Z 0)] true false)∧st.t 3=.ptr 3 0∧st.h 3=some (.box [.pv (Z (nrSum l ws i).1),.pv (Z (nrSum l ws i).2.1),.pv (Z (nrSum l ws i).2.2)] true false)∧st.t 9=.pv (vecs l)∧st.t 10=.pv (Z l.length)∧st.t 11=.pv (Z i)∧st.h 5=none) (by simp [nrSum]) ?_
 rintro i st hi ⟨g1,hb1,g2,hb2,g3,hb3,g9,g10,g11,hb5⟩
 by_cases hlt : i < l.length
 ·have hwr:=wr_succ hlt (by omega)
  have hltw : i < ws.length:=by omega
  generalize hxe : l[i]=p at *
  have hx : l[i]?=some p:=by rw [List.getElem?_eq_getElem hlt,hxe]
  generalize hye : ws[i]=k at *
  have hy : ws[i]?=some k:=by rw [List.getElem?_eq_getElem hltw,hye]
  have r0:=nrSum_sm hl hw i (by omega)
  have r1:=nrSum_sm hl hw (i+1) (by omega)
  have hk0:=hw.pos k (List.mem_of_getElem? hy)
  have hk1 : k≤65536:=by
   have a1:=wtot_get hy
   have a2:=wtot_pos hw.pos i
   have a3:=wtot_mono hw.pos (show i+1≤ws.length by omega)
   have a4:=hw.tot
   omega
  have hp:=near_sm (List.all_eq_true.1 hl p (List.mem_of_getElem? hx))
  have hS : nrSum l ws (i+1)=((nrSum l ws i).1+k * p.1,(nrSum l ws i).2.1+k * p.2.1,(nrSum l ws i).2.2+k * p.2.2):=by simp only [nrSum,hx,hy]
  have m1:=mul_rng (a:=k) (b:=p.1) 65536 268435456 (by omega) (by omega) hp.1.1 hp.1.2
  have m2:=mul_rng (a:=k) (b:=p.2.1) 65536 268435456 (by omega) (by omega) hp.2.1.1 hp.2.1.2
  have m3:=mul_rng (a:=k) (b:=p.2.2) 65536 268435456 (by omega) (by omega) hp.2.2.1 hp.2.2.2
  generalize nrSum l ws i=S at *
  generalize nrSum l ws (i+1)=S' at *
  subst hS
  obtain ⟨q1,q2,q3⟩:=r1
  simp only at q1 q2 q3
  have u1 : IntKind.i64.wrap (k * p.1)=k * p.1:=wr_id (by omega) (by omega)
  have u2 : IntKind.i64.wrap (k * p.2.1)=k * p.2.1:=wr_id (by omega) (by omega)
  have u3 : IntKind.i64.wrap (k * p.2.2)=k * p.2.2:=wr_id (by omega) (by omega)
  have v1 : IntKind.i64.wrap (S.1+k * p.1)=S.1+k * p.1:=wr_id (by omega) (by omega)
  have v2 : IntKind.i64.wrap (S.2.1+k * p.2.1)=S.2.1+k * p.2.1:=wr_id (by omega) (by omega)
  have v3 : IntKind.i64.wrap (S.2.2+k * p.2.2)=S.2.2+k * p.2.2:=wr_id (by omega) (by omega)
  clear r0 q1 q2 q3 m1 m2 m3 hp
  have hbeg : [AV.pv (Z S.1),AV.pv (Z S.2.1),AV.pv (Z S.2.2)]=part3 S p k 0:=rfl
  rw [hbeg] at hb3
  with_reducible repeat' (first|refine Sp.h ?_|((first|refine Wd ?_|refine Ss.h ?_|(refine Sb.h ?_ ?_ ?_<;>(try intro hgd)<;>try exact Xy))<;>simp -implicitDefEqProofs (maxSteps:=2000000) [hP,hN,g1,hb1,g2,hb2,g3,g9,g10,g11,hb5,hb3,hlt,hx,hxe]<;>try refine Ya ?_)|refine X2 ?_ ?_|(refine Xd ?_ ?_<;>intro hcd<;>try exact Xx))
  refine WP.loopN [] 3 (fun j st=>st.t 1=.ptr 1 0∧st.h 1=some (.box [.pv (vecs l),.pv (zs ws)] true false)∧st.t 2=.ptr 2 0∧st.h 2=some (.box [.pv (Z 0),.pv (Z 0),.pv (Z 0)] true false)∧st.t 3=.ptr 3 0∧st.h 3=some (.box (part3 S p k j) true false)∧st.t 4=.pv (Z i)∧st.t 9=.pv (vecs l)∧st.t 10=.pv (Z l.length)∧st.t 11=.pv (Z i)∧st.t 16=.pv (encVec p)∧st.t 17=.pv (Z j)) (by simp [g1,hb1,g2,hb2,g3,g9,g10,g11,hb3,part3]) ?_
  clear g1 hb1 g2 hb2 g3 g9 g10 g11 hb3 hb5
  rintro j st hj ⟨g1,hb1,g2,hb2,g3,hb3,g4,g9,g10,g11,g16,g17⟩
  rcases fin3' hj with rfl|rfl|rfl|rfl
  all_goals (simp [part3] at hb3 g17)
  ·skip
   with_reducible repeat' (first|refine Sp.h ?_|((first|refine Wd ?_|refine Ss.h ?_|(refine Sb.h ?_ ?_ ?_<;>(try intro hgd)<;>try exact Xy))<;>simp -implicitDefEqProofs (maxSteps:=2000000) [hP,hN,g1,hb1,g2,hb2,g3,hb3,g4,g9,g10,g11,g16,g17,hlt,hltw,hy,hye,u1,v1,part3]<;>try refine Ya ?_)|refine X2 ?_ ?_|(refine Xd ?_ ?_<;>intro hcd<;>try exact Xx))
  ·skip
   with_reducible repeat' (first|refine Sp.h ?_|((first|refine Wd ?_|refine Ss.h ?_|(refine Sb.h ?_ ?_ ?_<;>(try intro hgd)<;>try exact Xy))<;>simp -implicitDefEqProofs (maxSteps:=2000000) [hP,hN,g1,hb1,g2,hb2,g3,hb3,g4,g9,g10,g11,g16,g17,hlt,hltw,hy,hye,u2,v2,part3]<;>try refine Ya ?_)|refine X2 ?_ ?_|(refine Xd ?_ ?_<;>intro hcd<;>try exact Xx))
  ·skip
   with_reducible repeat' (first|refine Sp.h ?_|((first|refine Wd ?_|refine Ss.h ?_|(refine Sb.h ?_ ?_ ?_<;>(try intro hgd)<;>try exact Xy))<;>simp -implicitDefEqProofs (maxSteps:=2000000) [hP,hN,g1,hb1,g2,hb2,g3,hb3,g4,g9,g10,g11,g16,g17,hlt,hltw,hy,hye,u3,v3,part3]<;>try refine Ya ?_)|refine X2 ?_ ?_|(refine Xd ?_ ?_<;>intro hcd<;>try exact Xx))
  ·skip
   with_reducible repeat' (first|refine Sp.h ?_|((first|refine Wd ?_|refine Ss.h ?_|(refine Sb.h ?_ ?_ ?_<;>(try intro hgd)<;>try exact Xy))<;>simp -implicitDefEqProofs (maxSteps:=2000000) [hP,hN,g1,hb1,g2,hb2,g3,hb3,g4,g9,g10,g11,g16,g17,hlt,hwr,part3]<;>try refine Ya ?_)|refine X2 ?_ ?_|(refine Xd ?_ ?_<;>intro hcd<;>try exact Xx))
 ·have hin : i=l.length:=by omega
  subst hin
  with_reducible repeat' (first|refine Sp.h ?_|((first|refine Wd ?_|refine Ss.h ?_|(refine Sb.h ?_ ?_ ?_<;>(try intro hgd)<;>try exact Xy))<;>simp -implicitDefEqProofs (maxSteps:=2000000) [hP,hN,g1,hb1,g2,hb2,g3,hb3,g9,g10,g11]<;>try refine Ya ?_)|refine X2 ?_ ?_|(refine Xd ?_ ?_<;>intro hcd<;>try exact Xx))
def nrOpt (bet : Int→Int→Bool) (n p0 : Vc) (l : List Vc) : Nat→Int × Nat
 |0=>(nrDot n p0,0)
 |i+1=>match l[i]? with
  |some v=>if bet (nrDot n v) (nrOpt bet n p0 l i).1=true then (nrDot n v,i) else nrOpt bet n p0 l i
  |none=>nrOpt bet n p0 l i
theorem nrOpt_succ {bet : Int→Int→Bool} {n p0 : Vc} {l : List Vc} {i : Nat} {v : Vc} (h : l[i]?=some v) : nrOpt bet n p0 l (i+1)=if bet (nrDot n v) (nrOpt bet n p0 l i).1=true then (nrDot n v,i) else nrOpt bet n p0 l i:=by simp only [nrOpt,h]
theorem nrOpt_lt {bet : Int→Int→Bool} {n p0 : Vc} {l : List Vc} (hl : 0 < l.length) : ∀ i,(nrOpt bet n p0 l i).2 < l.length
 |0=>hl
 |i+1=>by
  have:=nrOpt_lt (bet:=bet) (n:=n) (p0:=p0) hl i
  simp only [nrOpt]
  split
  ·rename_i v hv
   obtain ⟨h,_⟩:=List.getElem?_eq_some_iff.1 hv
   split
   ·exact h
   ·exact this
  ·exact this
def nrBest (bet : Int→Int→Bool) (n : Vc) (l : List Vc) : Int × Nat:=nrOpt bet n ((l[0]?).getD (0,0,0)) l l.length
set_option maxHeartbeats 8000000 in
theorem d127 (n : Vc) (l : List Vc) (ws : List Int) (hn : nearV 16384 n=true) (h1 : 1≤l.length) (h8 : l.length≤8) (hl : l.all (nearV 268435456)=true) : DetH Tryz.prog 127 [.pv (encLs l ws),.pv (encVec n)] [] [] (.pv (.tup [Z (nrBest ltB n l).1,Z (nrBest ltB n l).2])):=by
 have hns : smV ((16384 : Nat) : Int) n:=by
  rw [nearV_iff,inB_iff,inB_iff,inB_iff] at hn
  exact ⟨⟨by omega,by omega⟩,⟨by omega,by omega⟩,⟨by omega,by omega⟩⟩
 have hlt0 : 0 < l.length:=by omega
 generalize hxe0 : l[0]=p0 at *
 have hx0 : l[0]?=some p0:=by rw [List.getElem?_eq_getElem hlt0,hxe0]
 have cd0:=d172 n p0 16384 268435456 hns (near_sm (List.all_eq_true.1 hl p0 (List.mem_of_getElem? hx0))) (by decide)
 have hb : nrBest ltB n l=nrOpt ltB n p0 l l.length:=by simp only [nrBest,hx0,Option.getD_some]
 rw [hb]
 have hz0 : nrOpt ltB n p0 l 0=(nrDot n p0,0):=rfl
 generalize hd0 : nrDot n p0=d0 at *
 refine detP_of Tryz.func127 rfl (by kernel_rfl) (by simp [Tryz.f127]) rfl ?_
 intro C hP hN
 simp only [Tryz.f127] at hN ⊢
 with_reducible repeat' (first|refine Sp.h ?_|((first|refine Wd ?_|refine Ss.h ?_|refine Sc.h (cd0) ?_|(refine Sb.h ?_ ?_ ?_<;>(try intro hgd)<;>try exact Xy))<;>simp -implicitDefEqProofs (maxSteps:=2000000) [hP,hN,hlt0,hx0,hxe0,show (0 : Int) < l.length by omega]<;>try refine Ya ?_)|refine X2 ?_ ?_|(refine Xd ?_ ?_<;>intro hcd<;>try exact Xx))
 refine WP.loopN [9] l.length (fun i st=>st.t 3=.ptr 3 0∧st.h 3=some (.box [.pv (Z n.1),.pv (Z n.2.1),.pv (Z n.2.2)] true false)∧st.t 20=.pv (vecs l)∧st.t 21=.pv (Z l.length)∧st.t 22=.pv (Z i)∧st.h 9=none∧st.t 6=.pv (Z (nrOpt ltB n p0 l i).1)∧st.t 7=.pv (Z (nrOpt ltB n p0 l i).2)) (by simp [hz0]) ?_
 rintro i st hi ⟨g3,hb3,g20,g21,g22,hb9,g6,g7⟩
 by_cases hlt : i < l.length
 ·have hw:=wr_succ hlt (by omega)
  generalize hxe : l[i]=v at *
  have hx : l[i]?=some v:=by rw [List.getElem?_eq_getElem hlt,hxe]
  have cd:=d172 n v 16384 268435456 hns (near_sm (List.all_eq_true.1 hl v (List.mem_of_getElem? hx))) (by decide)
  have hs:=nrOpt_succ (bet:=ltB) (n:=n) (p0:=p0) hx
  generalize nrOpt ltB n p0 l i=s at *
  generalize nrOpt ltB n p0 l (i+1)=s' at *
  generalize nrDot n v=d at *
  by_cases hbt : ltB d s.1=true
  ·rw [if_pos hbt] at hs
   subst hs
   simp only [ltB,decide_eq_true_eq] at hbt
   with_reducible repeat' (first|refine Sp.h ?_|((first|refine Wd ?_|refine Ss.h ?_|refine Sc.h (cd) ?_|(refine Sb.h ?_ ?_ ?_<;>(try intro hgd)<;>try exact Xy))<;>simp -implicitDefEqProofs (maxSteps:=2000000) [hP,hN,g3,hb3,g20,g21,g22,hb9,g6,g7,hlt,hx,hxe,hw,hbt]<;>try refine Ya ?_)|refine X2 ?_ ?_|(refine Xd ?_ ?_<;>intro hcd<;>try exact Xx))
  ·rw [if_neg hbt] at hs
   subst hs
   simp only [ltB,decide_eq_true_eq] at hbt
   with_reducible repeat' (first|refine Sp.h ?_|((first|refine Wd ?_|refine Ss.h ?_|refine Sc.h (cd) ?_|(refine Sb.h ?_ ?_ ?_<;>(try intro hgd)<;>try exact Xy))<;>simp -implicitDefEqProofs (maxSteps:=2000000) [hP,hN,g3,hb3,g20,g21,g22,hb9,g6,g7,hlt,hx,hxe,hw,hbt]<;>try refine Ya ?_)|refine X2 ?_ ?_|(refine Xd ?_ ?_<;>intro hcd<;>try exact Xx))
 ·have hin : i=l.length:=by omega
  subst hin
  with_reducible repeat' (first|refine Sp.h ?_|((first|refine Wd ?_|refine Ss.h ?_|(refine Sb.h ?_ ?_ ?_<;>(try intro hgd)<;>try exact Xy))<;>simp -implicitDefEqProofs (maxSteps:=2000000) [hP,hN,g3,hb3,g20,g21,g22,hb9,g6,g7]<;>try refine Ya ?_)|refine X2 ?_ ?_|(refine Xd ?_ ?_<;>intro hcd<;>try exact Xx))
  all_goals exact ⟨rfl,rfl⟩
set_option maxHeartbeats 8000000 in
theorem d128 (n : Vc) (l : List Vc) (ws : List Int) (hn : nearV 16384 n=true) (h1 : 1≤l.length) (h8 : l.length≤8) (hl : l.all (nearV 268435456)=true) : DetH Tryz.prog 128 [.pv (encLs l ws),.pv (encVec n)] [] [] (.pv (.tup [Z (nrBest gtB n l).1,Z (nrBest gtB n l).2])):=by
 have hns : smV ((16384 : Nat) : Int) n:=by
  rw [nearV_iff,inB_iff,inB_iff,inB_iff] at hn
  exact ⟨⟨by omega,by omega⟩,⟨by omega,by omega⟩,⟨by omega,by omega⟩⟩
 have hlt0 : 0 < l.length:=by omega
 generalize hxe0 : l[0]=p0 at *
 have hx0 : l[0]?=some p0:=by rw [List.getElem?_eq_getElem hlt0,hxe0]
 have cd0:=d172 n p0 16384 268435456 hns (near_sm (List.all_eq_true.1 hl p0 (List.mem_of_getElem? hx0))) (by decide)
 have hb : nrBest gtB n l=nrOpt gtB n p0 l l.length:=by simp only [nrBest,hx0,Option.getD_some]
 rw [hb]
 have hz0 : nrOpt gtB n p0 l 0=(nrDot n p0,0):=rfl
 generalize hd0 : nrDot n p0=d0 at *
 refine detP_of Tryz.func128 rfl (by kernel_rfl) (by simp [Tryz.f128]) rfl ?_
 intro C hP hN
 simp only [Tryz.f128] at hN ⊢
 with_reducible repeat' (first|refine Sp.h ?_|((first|refine Wd ?_|refine Ss.h ?_|refine Sc.h (cd0) ?_|(refine Sb.h ?_ ?_ ?_<;>(try intro hgd)<;>try exact Xy))<;>simp -implicitDefEqProofs (maxSteps:=2000000) [hP,hN,hlt0,hx0,hxe0,show (0 : Int) < l.length by omega]<;>try refine Ya ?_)|refine X2 ?_ ?_|(refine Xd ?_ ?_<;>intro hcd<;>try exact Xx))
 refine WP.loopN [9] l.length (fun i st=>st.t 3=.ptr 3 0∧st.h 3=some (.box [.pv (Z n.1),.pv (Z n.2.1),.pv (Z n.2.2)] true false)∧st.t 20=.pv (vecs l)∧st.t 21=.pv (Z l.length)∧st.t 22=.pv (Z i)∧st.h 9=none∧st.t 6=.pv (Z (nrOpt gtB n p0 l i).1)∧st.t 7=.pv (Z (nrOpt gtB n p0 l i).2)) (by simp [hz0]) ?_
 rintro i st hi ⟨g3,hb3,g20,g21,g22,hb9,g6,g7⟩
 by_cases hlt : i < l.length
 ·have hw:=wr_succ hlt (by omega)
  generalize hxe : l[i]=v at *
  have hx : l[i]?=some v:=by rw [List.getElem?_eq_getElem hlt,hxe]
  have cd:=d172 n v 16384 268435456 hns (near_sm (List.all_eq_true.1 hl v (List.mem_of_getElem? hx))) (by decide)
  have hs:=nrOpt_succ (bet:=gtB) (n:=n) (p0:=p0) hx
  generalize nrOpt gtB n p0 l i=s at *
  generalize nrOpt gtB n p0 l (i+1)=s' at *
  generalize nrDot n v=d at *
  by_cases hbt : gtB d s.1=true
  ·rw [if_pos hbt] at hs
   subst hs
   simp only [gtB,decide_eq_true_eq] at hbt
   with_reducible repeat' (first|refine Sp.h ?_|((first|refine Wd ?_|refine Ss.h ?_|refine Sc.h (cd) ?_|(refine Sb.h ?_ ?_ ?_<;>(try intro hgd)<;>try exact Xy))<;>simp -implicitDefEqProofs (maxSteps:=2000000) [hP,hN,g3,hb3,g20,g21,g22,hb9,g6,g7,hlt,hx,hxe,hw,hbt]<;>try refine Ya ?_)|refine X2 ?_ ?_|(refine Xd ?_ ?_<;>intro hcd<;>try exact Xx))
  ·rw [if_neg hbt] at hs
   subst hs
   simp only [gtB,decide_eq_true_eq] at hbt
   with_reducible repeat' (first|refine Sp.h ?_|((first|refine Wd ?_|refine Ss.h ?_|refine Sc.h (cd) ?_|(refine Sb.h ?_ ?_ ?_<;>(try intro hgd)<;>try exact Xy))<;>simp -implicitDefEqProofs (maxSteps:=2000000) [hP,hN,g3,hb3,g20,g21,g22,hb9,g6,g7,hlt,hx,hxe,hw,hbt]<;>try refine Ya ?_)|refine X2 ?_ ?_|(refine Xd ?_ ?_<;>intro hcd<;>try exact Xx))
 ·have hin : i=l.length:=by omega
  subst hin
  with_reducible repeat' (first|refine Sp.h ?_|((first|refine Wd ?_|refine Ss.h ?_|(refine Sb.h ?_ ?_ ?_<;>(try intro hgd)<;>try exact Xy))<;>simp -implicitDefEqProofs (maxSteps:=2000000) [hP,hN,g3,hb3,g20,g21,g22,hb9,g6,g7]<;>try refine Ya ?_)|refine X2 ?_ ?_|(refine Xd ?_ ?_<;>intro hcd<;>try exact Xx))
  all_goals exact ⟨rfl,rfl⟩
end Go.Ab
namespace Go.Ab
open Go.Proofs
def max3S (x y z : AV) (fb : Option Eff) : Option Eff:=match x,y,z with
 |.pv (.val (.int .i64 a)),.pv (.val (.int .i64 b)),.pv (.val (.int .i64 c))=>some (.pv (Z (max a (max b c))),[])
 |_,_,_=>fb
@[simp] theorem max3S_some (a b c : Int) (fb : Option Eff) : max3S (.pv (.val (.int .i64 a))) (.pv (.val (.int .i64 b))) (.pv (.val (.int .i64 c))) fb=some (.pv (Z (max a (max b c))),[]):=rfl
@[simp] theorem max3Ev {dst : Option Nat} {ty : TypeId} {ts : Array TypeId} {pos : String} {aft : Array Edge} {g : Option (Nat × Bool)} {ρ : Operand→AV} (x y z : Operand) :
 evPure Tryz.prog ⟨dst,.call ⟨.builtin .max,#[x,y,z],ts⟩,ty,pos,aft,g⟩ ρ=max3S (ρ x) (ρ y) (ρ z) (evPureX Tryz.prog ⟨dst,.call ⟨.builtin .max,#[x,y,z],ts⟩,ty,pos,aft,g⟩ ρ):=by
 unfold max3S
 split
 ·rename_i a b c hx hy hz
  refine evPure_of (by simp [Op.operands,Call.operands,hx,hy,hz,valOf]) ?_
  unfold execOp
  simp [resolve,invoke,builtin,Builtin.max_,hx,hy,hz,valOr,valOf,Builtin.max2,runPure_bind,runPure_pure]
  try omega
 ·rfl
def far2 (x y : Int) : Int:=max (max (max (max 0 x) (-x)) y) (-y)
set_option maxHeartbeats 4000000 in
theorem d135 (x y : Int) (hx : -4611686018427387904≤x∧x≤4611686018427387904) (hy : -4611686018427387904≤y∧y≤4611686018427387904) : DetH Tryz.prog 135 [.pv (.sl [Z x,Z y])] [] [] (.pv (Z (far2 x y))):=by
 have w1 : IntKind.i64.wrap (-x)=-x:=wr_id (by omega) (by omega)
 have w2 : IntKind.i64.wrap (-y)=-y:=wr_id (by omega) (by omega)
 have w3 : IntKind.i64.wrap (0 - x)=-x:=(wr_id (n:=0 - x) (by omega) (by omega)).trans (by omega)
 have w4 : IntKind.i64.wrap (0 - y)=-y:=(wr_id (n:=0 - y) (by omega) (by omega)).trans (by omega)
 have f0 : ∀ a b c : Int,max a (max b c)=max (max a b) c:=fun _ _ _=>by omega
 have f2 : far2 x y=max 0 (max x (max (-x) (max y (-y)))):=by unfold far2;omega
 rw [f2]
 refine detP_of Tryz.func135 rfl (by kernel_rfl) (by simp [Tryz.f135]) rfl ?_
 intro C hP hN
 simp only [Tryz.f135] at hN ⊢
 with_reducible repeat' (first|refine Sp.h ?_|((first|refine Ss.h ?_|(refine Sb.h ?_ ?_ ?_<;>(try intro hgd)<;>try exact Xy))<;>simp -implicitDefEqProofs (maxSteps:=2000000) [hP,hN])|refine X2 ?_ ?_|(refine Xd ?_ ?_<;>intro hcd<;>try exact Xx))
 refine WP.loopN [] 2 (fun i st=>st.t 6=.pv (.sl [Z x,Z y])∧st.t 7=.pv (Z 2)∧st.t 8=.pv (Z i)∧st.t 3=.pv (Z (if i=0 then 0 else if i=1 then max 0 (max x (-x)) else max 0 (max x (max (-x) (max y (-y))))))) (by simp) ?_
 rintro i st hi ⟨g6,g7,g8,g3⟩
 have hc : i=0∨i=1∨i=2:=by omega
 rcases hc with rfl|rfl|rfl
 all_goals (simp at g3 g8)
 ·skip
  with_reducible repeat' (first|refine Sp.h ?_|((first|refine Ss.h ?_|(refine Sb.h ?_ ?_ ?_<;>(try intro hgd)<;>try exact Xy))<;>simp -implicitDefEqProofs (maxSteps:=2000000) [hP,hN,g6,g7,g8,g3,w1,w2,w3,w4])|refine X2 ?_ ?_|(refine Xd ?_ ?_<;>intro hcd<;>try exact Xx))
  all_goals (try (first|omega|(simp;omega)))
 ·skip
  with_reducible repeat' (first|refine Sp.h ?_|((first|refine Ss.h ?_|(refine Sb.h ?_ ?_ ?_<;>(try intro hgd)<;>try exact Xy))<;>simp -implicitDefEqProofs (maxSteps:=2000000) [hP,hN,g6,g7,g8,g3,w1,w2,w3,w4])|refine X2 ?_ ?_|(refine Xd ?_ ?_<;>intro hcd<;>try exact Xx))
  all_goals (try (first|omega|(simp;omega)))
 ·skip
  with_reducible repeat' (first|refine Sp.h ?_|((first|refine Ss.h ?_|(refine Sb.h ?_ ?_ ?_<;>(try intro hgd)<;>try exact Xy))<;>simp -implicitDefEqProofs (maxSteps:=2000000) [hP,hN,g6,g7,g8,g3])|refine X2 ?_ ?_|(refine Xd ?_ ?_<;>intro hcd<;>try exact Xx))
set_option maxRecDepth 100000 in
@[simp] theorem quiet132 : QuietFn Tryz.prog 132:=by
 refine ⟨by kernel_rfl,fun args w=>?_⟩
 refine callsD_of_wpS Tryz.func132 rfl fun c₀ cs hu=>?_
 apply wpS_seq
 apply wpS_region
 have hk : ∀ k,k < Tryz.f132.ntmps→k < args.size+(Tryz.f132.ntmps - args.size):=by intro k h;omega
 rw [Tryz.ntmps132] at hk
 have h0:=hk 0 (by decide)
 have h1:=hk 1 (by decide)
 have h2:=hk 2 (by decide)
 have h3:=hk 3 (by decide)
 simp [wpOpsS,go_sem,recoverD,hu,Tryz.ntmps132,Exit.thenS,h0,h1,h2,h3]
 refine wpS_cond (t:=false) (by simp [Act.eval,h0,h1,h2,h3]) ?_
 simp only [Bool.false_eq_true,if_false]
 refine wpS_of_wp (wp_skip ?_)
 cases c₀
 simp_all [bodyPostS,results,Tryz.results132]
set_option maxRecDepth 100000 in
@[simp] theorem quiet80 : QuietFn Tryz.prog 80:=by
 refine ⟨by kernel_rfl,fun args w=>?_⟩
 refine callsD_of_wpS Tryz.func80 rfl fun c₀ cs hu=>?_
 apply wpS_seq
 apply wpS_region
 have hk : ∀ k,k < Tryz.f80.ntmps→k < args.size+(Tryz.f80.ntmps - args.size):=by intro k h;omega
 rw [Tryz.ntmps80] at hk
 have h0:=hk 0 (by decide)
 have h1:=hk 1 (by decide)
 have h2:=hk 2 (by decide)
 simp [wpOpsS,go_sem,recoverD,hu,Tryz.ntmps80,Exit.thenS,h0,h1,h2]
 refine wpS_cond (t:=false) (by simp [Act.eval,h0,h1,h2]) ?_
 simp only [Bool.false_eq_true,if_false]
 refine wpS_of_wp (wp_skip ?_)
 cases c₀
 simp_all [bodyPostS,results,Tryz.results80]
def gapI (u v : Iv) (tot : Int) : Int:=(far2 (u.1 - v.2) (u.2 - v.1)+tot - 1) / tot
def excE (m : List Int) (reach : Int) : Nat→Int
 |0=>reach * reach
 |k+1=>excE m reach k - (m[k]?).getD 0 * (m[k]?).getD 0
def gaps (U V : IVc) (tot : Int) : List Int:=[gapI U.1 V.1 tot,gapI U.2.1 V.2.1 tot,gapI U.2.2 V.2.2 tot]
def excL (m : List Int) (reach : Int) : Int:=if m.all (fun x=>decide (x≤reach)) then excE m reach 3 else -1
def excB (left right : List Int) (a : List IVc) (ra : Int) (b : List IVc) (rb : Int) : Bool:=
 combB a left && combB b right && decide (wtot left left.length=wtot right right.length) && fromB ra 0 1048576 && fromB rb 0 1048576
def excess (left right : List Int) (a : List IVc) (ra : Int) (b : List IVc) (rb : Int) : Int:=
 if excB left right a ra b rb then excL (gaps (wsum a left left.length) (wsum b right right.length) (wtot left left.length)) (ra+rb) else 0
theorem comb_rng {a : List IVc} {w : List Int} (h : combB a w=true) : rngV 8 (wsum a w w.length):=by
 simp only [combB,placedB,Bool.and_eq_true,decide_eq_true_eq,List.all_eq_true] at h
 obtain ⟨⟨⟨⟨⟨h1,h2⟩,h3⟩,h4⟩,h5⟩,h6⟩:=h
 obtain ⟨⟨⟨a1,a2⟩,a3,a4⟩,⟨⟨b1,b2⟩,b3,b4⟩,⟨c1,c2⟩,c3,c4⟩:=wsum_rng h3 h5 w.length
 refine ⟨⟨⟨?_,?_⟩,?_,?_⟩,⟨⟨?_,?_⟩,?_,?_⟩,⟨?_,?_⟩,?_,?_⟩<;>omega
theorem comb_tot {a : List IVc} {w : List Int} (h : combB a w=true) : 1≤wtot w w.length∧wtot w w.length≤65536:=by
 simp only [combB,Bool.and_eq_true,Bool.not_eq_true',Bool.or_eq_false_iff,decide_eq_false_iff_not] at h
 omega
theorem far2_rng {x y : Int} {m : Int} (hx : -m≤x∧x≤m) (hy : -m≤y∧y≤m) : 0≤far2 x y∧far2 x y≤m:=by
 unfold far2;omega
theorem gap_rng {h t : Int} (h0 : 0≤h) (h1 : h≤4503599627370496) (t1 : 1≤t) (t2 : t≤65536) : 0≤(h+t - 1) / t∧(h+t - 1) / t≤4503599627370496:=by
 refine ⟨Int.ediv_nonneg (by omega) (by omega),?_⟩
 have : (h+t - 1) / t < 4503599627370496+1:=Int.ediv_lt_of_lt_mul (by omega) (by
  have h2 : (4503599627370496+1) * 1≤(4503599627370496+1) * t:=by omega
  omega)
 omega
theorem sq_rng {x m : Int} (h0 : 0≤x) (h1 : x≤m) : 0≤x * x∧x * x≤m * m:=⟨Int.mul_nonneg h0 h0,Int.mul_le_mul h1 h1 h0 (by omega)⟩
set_option maxHeartbeats 16000000 in
set_option maxRecDepth 4000 in
theorem d81 (left right : List Int) (a : List IVc) (ra : Int) (b : List IVc) (rb : Int) (h1 : left.length≤9223372036854775807) (h2 : right.length≤9223372036854775807) (h3 : a.length≤9223372036854775807) (h4 : b.length≤9223372036854775807) : DetH Tryz.prog 81 [.pv (zs left),.pv (zs right),.pv (ivcs a),.pv (Z ra),.pv (ivcs b),.pv (Z rb)] [] [] (.pv (.tup [Z (excess left right a ra b rb),B (excB left right a ra b rb)])):=by
 have ca:=d133 a left h3 h1
 have cb:=d133 b right h4 h2
 have cra:=d134 ra
 have crb:=d134 rb
 have z6 : encIV stillV=V6 0 0 0 0 0 0:=rfl
 have hE : excB left right a ra b rb=(combB a left && combB b right && decide (wtot left left.length=wtot right right.length) && fromB ra 0 1048576 && fromB rb 0 1048576):=rfl
 have hX : excess left right a ra b rb=if excB left right a ra b rb then excL (gaps (wsum a left left.length) (wsum b right right.length) (wtot left left.length)) (ra+rb) else 0:=rfl
 cases hA : combB a left with
 |false=>
  rw [hA] at hE;simp only [Bool.false_and] at hE
  rw [hE] at hX;simp only [Bool.false_eq_true,if_false] at hX
  rw [hE,hX]
  simp only [combR,hA,Bool.false_eq_true,if_false,z6] at ca
  cases hB : combB b right
  all_goals (simp only [combR,hB,Bool.false_eq_true,if_false,if_true,z6] at cb)
  ·skip
   refine detP_of Tryz.func81 rfl (by kernel_rfl) (by simp [Tryz.f81]) rfl ?_
   intro C hP hN
   simp only [Tryz.f81] at hN ⊢
   with_reducible repeat' (first|refine Sp.h ?_|((first|refine Wd ?_|refine Ss.h ?_|refine Sc.h (ca) ?_|refine Sc.h (cb) ?_|(refine Sb.h ?_ ?_ ?_<;>(try intro hgd)<;>try exact Xy))<;>simp -implicitDefEqProofs (maxSteps:=2000000) [hP,hN]<;>try refine Ya ?_)|refine X2 ?_ ?_|(refine Xd ?_ ?_<;>intro hcd<;>try exact Xx))
  ·skip
   generalize wsum b right right.length=V at *
   generalize wtot right right.length=T2 at *
   refine detP_of Tryz.func81 rfl (by kernel_rfl) (by simp [Tryz.f81]) rfl ?_
   intro C hP hN
   simp only [Tryz.f81] at hN ⊢
   with_reducible repeat' (first|refine Sp.h ?_|((first|refine Wd ?_|refine Ss.h ?_|refine Sc.h (ca) ?_|refine Sc.h (cb) ?_|(refine Sb.h ?_ ?_ ?_<;>(try intro hgd)<;>try exact Xy))<;>simp -implicitDefEqProofs (maxSteps:=2000000) [hP,hN]<;>try refine Ya ?_)|refine X2 ?_ ?_|(refine Xd ?_ ?_<;>intro hcd<;>try exact Xx))
 |true=>
 simp only [combR,hA,if_true] at ca
 generalize hU : wsum a left left.length=U at *
 generalize hT : wtot left left.length=T at *
 cases hB : combB b right with
 |false=>
  rw [hA,hB] at hE;simp only [Bool.false_and,Bool.and_false] at hE
  rw [hE] at hX;simp only [Bool.false_eq_true,if_false] at hX
  rw [hE,hX]
  simp only [combR,hB,Bool.false_eq_true,if_false,z6] at cb
  refine detP_of Tryz.func81 rfl (by kernel_rfl) (by simp [Tryz.f81]) rfl ?_
  intro C hP hN
  simp only [Tryz.f81] at hN ⊢
  with_reducible repeat' (first|refine Sp.h ?_|((first|refine Wd ?_|refine Ss.h ?_|refine Sc.h (ca) ?_|refine Sc.h (cb) ?_|(refine Sb.h ?_ ?_ ?_<;>(try intro hgd)<;>try exact Xy))<;>simp -implicitDefEqProofs (maxSteps:=2000000) [hP,hN]<;>try refine Ya ?_)|refine X2 ?_ ?_|(refine Xd ?_ ?_<;>intro hcd<;>try exact Xx))
 |true=>
 simp only [combR,hB,if_true] at cb
 rw [hA,hB] at hE;simp only [Bool.true_and] at hE
 generalize hV : wsum b right right.length=V at *
 generalize hT2 : wtot right right.length=T2 at *
 by_cases hTe : T=T2
 case neg=>
  have e1 : (T !=T2)=true:=by simp [hTe]
  simp only [hTe,decide_false,Bool.false_and] at hE
  rw [hE] at hX;simp only [Bool.false_eq_true,if_false] at hX
  rw [hE,hX]
  refine detP_of Tryz.func81 rfl (by kernel_rfl) (by simp [Tryz.f81]) rfl ?_
  intro C hP hN
  simp only [Tryz.f81] at hN ⊢
  with_reducible repeat' (first|refine Sp.h ?_|((first|refine Wd ?_|refine Ss.h ?_|refine Sc.h (ca) ?_|refine Sc.h (cb) ?_|(refine Sb.h ?_ ?_ ?_<;>(try intro hgd)<;>try exact Xy))<;>simp -implicitDefEqProofs (maxSteps:=2000000) [hP,hN,e1,hTe]<;>try refine Ya ?_)|refine X2 ?_ ?_|(refine Xd ?_ ?_<;>intro hcd<;>try exact Xx))
 have e0 : (T !=T2)=false:=by simp [hTe]
 simp only [hTe,decide_true,Bool.true_and] at hE
 cases hra : fromB ra 0 1048576 with
 |false=>
  rw [hra] at cra hE
  simp only [Bool.false_and] at hE
  rw [hE] at hX;simp only [Bool.false_eq_true,if_false] at hX
  rw [hE,hX]
  refine detP_of Tryz.func81 rfl (by kernel_rfl) (by simp [Tryz.f81]) rfl ?_
  intro C hP hN
  simp only [Tryz.f81] at hN ⊢
  with_reducible repeat' (first|refine Sp.h ?_|((first|refine Wd ?_|refine Ss.h ?_|refine Sc.h (ca) ?_|refine Sc.h (cb) ?_|refine Sc.h (cra) ?_|refine Sc.h (crb) ?_|(refine Sb.h ?_ ?_ ?_<;>(try intro hgd)<;>try exact Xy))<;>simp -implicitDefEqProofs (maxSteps:=2000000) [hP,hN,e0,hTe]<;>try refine Ya ?_)|refine X2 ?_ ?_|(refine Xd ?_ ?_<;>intro hcd<;>try exact Xx))
 |true=>
 cases hrb : fromB rb 0 1048576 with
 |false=>
  rw [hra] at cra hE
  rw [hrb] at crb hE
  simp only [Bool.and_false] at hE
  rw [hE] at hX;simp only [Bool.false_eq_true,if_false] at hX
  rw [hE,hX]
  refine detP_of Tryz.func81 rfl (by kernel_rfl) (by simp [Tryz.f81]) rfl ?_
  intro C hP hN
  simp only [Tryz.f81] at hN ⊢
  with_reducible repeat' (first|refine Sp.h ?_|((first|refine Wd ?_|refine Ss.h ?_|refine Sc.h (ca) ?_|refine Sc.h (cb) ?_|refine Sc.h (cra) ?_|refine Sc.h (crb) ?_|(refine Sb.h ?_ ?_ ?_<;>(try intro hgd)<;>try exact Xy))<;>simp -implicitDefEqProofs (maxSteps:=2000000) [hP,hN,e0,hTe]<;>try refine Ya ?_)|refine X2 ?_ ?_|(refine Xd ?_ ?_<;>intro hcd<;>try exact Xx))
 |true=>
 rw [hra] at cra hE
 rw [hrb] at crb hE
 simp only [Bool.and_self] at hE
 rw [hE] at hX;simp only [if_true] at hX
 rw [hE]
 have hUr : rngV 8 U:=by rw [← hU];exact comb_rng hA
 have hVr : rngV 8 V:=by rw [← hV];exact comb_rng hB
 have hTr:=comb_tot hA
 rw [hT] at hTr
 subst hTe
 clear hT hT2
 simp only [fromB,Bool.and_eq_true,decide_eq_true_eq] at hra hrb
 generalize hre : ra+rb=re at *
 have hwr : IntKind.i64.wrap re=re:=wr_id (by omega) (by omega)
 have hrr:=sq_rng (x:=re) (m:=2097152) (by omega) (by omega)
 have hwq : IntKind.i64.wrap (re * re)=re * re:=wr_id (by omega) (by omega)
 rw [hX]
 refine detP_of Tryz.func81 rfl (by kernel_rfl) (by simp [Tryz.f81]) rfl ?_
 intro C hP hN
 simp only [Tryz.f81] at hN ⊢
 with_reducible repeat' (first|refine Sp.h ?_|((first|refine Wd ?_|refine Ss.h ?_|refine Sc.h (ca) ?_|refine Sc.h (cb) ?_|refine Sc.h (cra) ?_|refine Sc.h (crb) ?_|(refine Sb.h ?_ ?_ ?_<;>(try intro hgd)<;>try exact Xy))<;>simp -implicitDefEqProofs (maxSteps:=2000000) [hP,hN,e0,hre,hwr,hwq]<;>try refine Ya ?_)|refine X2 ?_ ?_|(refine Xd ?_ ?_<;>intro hcd<;>try exact Xx))
 refine WP.loopN [] 3 (fun k st=>st.t 14=.ptr 14 0∧st.h 14=some (.box (b6 U) true false)∧st.t 17=.ptr 17 0∧st.h 17=some (.box (b6 V) true false)∧st.t 18=.pv (Z T)∧st.t 15=.pv (Z T)∧st.t 20=.pv (Z re)∧st.t 12=.ptr 12 0∧st.h 12=some (.box [.pv (Z (excE (gaps U V T) re k))] true false)∧st.t 13=.ptr 13 0∧st.h 13=some (.box [.pv (B false)] true false)∧st.t 66=.pv (Z k)∧(-(k * 4398046511104 : Int)≤excE (gaps U V T) re k∧excE (gaps U V T) re k≤4398046511104)∧∀ j < k,∀ x,(gaps U V T)[j]?=some x→0≤x∧x≤re) ?_ ?_
 ·simp [excE]
  omega
 rintro k st hk ⟨g14,hb14,g17,hb17,g18,g15,g20,g12,hb12,g13,hb13,g66,hEr,hpr⟩
 obtain ⟨⟨⟨a1,a2⟩,a3,a4⟩,⟨⟨b1,b2⟩,b3,b4⟩,⟨c1,c2⟩,c3,c4⟩:=hUr
 obtain ⟨⟨⟨d1,d2⟩,d3,d4⟩,⟨⟨e1,e2⟩,e3,e4⟩,⟨f1,f2⟩,f3,f4⟩:=hVr
 rcases fin3' hk with rfl|rfl|rfl|rfl
 ·have hlo : -281474976710656≤U.1.1 - V.1.2∧U.1.1 - V.1.2≤281474976710656:=by omega
  have hhi : -281474976710656≤U.1.2 - V.1.1∧U.1.2 - V.1.1≤281474976710656:=by omega
  have cf:=d135 (U.1.1 - V.1.2) (U.1.2 - V.1.1) (by omega) (by omega)
  have hfr:=far2_rng hlo hhi
  have hga:=gap_rng hfr.1 (by omega) hTr.1 hTr.2
  have hgd : gapI U.1 V.1 T=(far2 (U.1.1 - V.1.2) (U.1.2 - V.1.1)+T - 1) / T:=rfl
  have w1 : IntKind.i64.wrap (U.1.1 - V.1.2)=U.1.1 - V.1.2:=wr_id (by omega) (by omega)
  have w2 : IntKind.i64.wrap (U.1.2 - V.1.1)=U.1.2 - V.1.1:=wr_id (by omega) (by omega)
  generalize far2 (U.1.1 - V.1.2) (U.1.2 - V.1.1)=f at *
  have w3 : IntKind.i64.wrap (f+T)=f+T:=wr_id (by omega) (by omega)
  have w4 : IntKind.i64.wrap (f+T - 1)=f+T - 1:=wr_id (by omega) (by omega)
  have w5 : (f+T - 1).tdiv T=(f+T - 1) / T:=Int.tdiv_eq_ediv_of_nonneg (by omega)
  have w6 : IntKind.i64.wrap ((f+T - 1) / T)=(f+T - 1) / T:=wr_id (by omega) (by omega)
  have w7 : ¬ T=0:=by omega
  have w8 : (T==0)=false:=by simp;omega
  by_cases hm : re < gapI U.1 V.1 T
  ·have hno : excL (gaps U V T) re=-1:=by
    have hm' : ¬ gapI U.1 V.1 T≤re:=by omega
    unfold excL gaps;simp [hm']
   rw [hno]
   rw [hgd] at hm
   with_reducible repeat' (first|refine Sp.h ?_|((first|refine Wd ?_|refine Ss.h ?_|refine Sc.h (cf) ?_|(refine Sb.h ?_ ?_ ?_<;>(try intro hgd)<;>try exact Xy))<;>simp -implicitDefEqProofs (maxSteps:=2000000) [hP,hN,g14,hb14,g17,hb17,g18,g15,g20,g12,hb12,g13,hb13,g66,w1,w2,w3,w4,w5,w6,w7,w8,hm]<;>try refine Ya ?_)|refine X2 ?_ ?_|(refine Xd ?_ ?_<;>intro hcd<;>try exact Xx))
  ·have hsq:=sq_rng (x:=gapI U.1 V.1 T) (m:=re) (by omega) (by omega)
   have hEs : excE (gaps U V T) re (0+1)=excE (gaps U V T) re 0 - gapI U.1 V.1 T * gapI U.1 V.1 T:=by simp [excE,gaps]
   have hpr' : ∀ j < 0+1,∀ x,(gaps U V T)[j]?=some x→0≤x∧x≤re:=fun j hj x hx=>by
    by_cases hk' : j < 0
    ·exact hpr j hk' x hx
    ·have : j=0:=by omega
     subst this
     have : x=gapI U.1 V.1 T:=by simpa [gaps] using hx.symm
     omega
   generalize excE (gaps U V T) re (0+1)=E' at *
   generalize excE (gaps U V T) re 0=E at *
   subst hEs
   rw [hgd] at hm hsq
   have w9 : IntKind.i64.wrap ((f+T - 1) / T * ((f+T - 1) / T))=(f+T - 1) / T * ((f+T - 1) / T):=wr_id (by omega) (by omega)
   have w10 : IntKind.i64.wrap (E - (f+T - 1) / T * ((f+T - 1) / T))=E - gapI U.1 V.1 T * gapI U.1 V.1 T:=(wr_id (by omega) (by omega)).trans (by rw [hgd])
   rw [← hgd] at hsq
   have hq1 : -(0+1 : Nat) * 4398046511104≤E - gapI U.1 V.1 T * gapI U.1 V.1 T∧E - gapI U.1 V.1 T * gapI U.1 V.1 T≤4398046511104:=by omega
   with_reducible repeat' (first|refine Sp.h ?_|((first|refine Wd ?_|refine Ss.h ?_|refine Sc.h (cf) ?_|(refine Sb.h ?_ ?_ ?_<;>(try intro hgd)<;>try exact Xy))<;>simp -implicitDefEqProofs (maxSteps:=2000000) [hP,hN,g14,hb14,g17,hb17,g18,g15,g20,g12,hb12,g13,hb13,g66,w1,w2,w3,w4,w5,w6,w7,w8,w9,w10,hm]<;>try refine Ya ?_)|refine X2 ?_ ?_|(refine Xd ?_ ?_<;>intro hcd<;>try exact Xx))
   all_goals first|exact ⟨hq1,hpr'⟩|exact ⟨hq1.1,hq1.2,hpr'⟩|exact ⟨by omega,fun x hx=>hpr' 0 (by omega) x hx⟩
 ·have hlo : -281474976710656≤U.2.1.1 - V.2.1.2∧U.2.1.1 - V.2.1.2≤281474976710656:=by omega
  have hhi : -281474976710656≤U.2.1.2 - V.2.1.1∧U.2.1.2 - V.2.1.1≤281474976710656:=by omega
  have cf:=d135 (U.2.1.1 - V.2.1.2) (U.2.1.2 - V.2.1.1) (by omega) (by omega)
  have hfr:=far2_rng hlo hhi
  have hga:=gap_rng hfr.1 (by omega) hTr.1 hTr.2
  have hgd : gapI U.2.1 V.2.1 T=(far2 (U.2.1.1 - V.2.1.2) (U.2.1.2 - V.2.1.1)+T - 1) / T:=rfl
  have w1 : IntKind.i64.wrap (U.2.1.1 - V.2.1.2)=U.2.1.1 - V.2.1.2:=wr_id (by omega) (by omega)
  have w2 : IntKind.i64.wrap (U.2.1.2 - V.2.1.1)=U.2.1.2 - V.2.1.1:=wr_id (by omega) (by omega)
  generalize far2 (U.2.1.1 - V.2.1.2) (U.2.1.2 - V.2.1.1)=f at *
  have w3 : IntKind.i64.wrap (f+T)=f+T:=wr_id (by omega) (by omega)
  have w4 : IntKind.i64.wrap (f+T - 1)=f+T - 1:=wr_id (by omega) (by omega)
  have w5 : (f+T - 1).tdiv T=(f+T - 1) / T:=Int.tdiv_eq_ediv_of_nonneg (by omega)
  have w6 : IntKind.i64.wrap ((f+T - 1) / T)=(f+T - 1) / T:=wr_id (by omega) (by omega)
  have w7 : ¬ T=0:=by omega
  have w8 : (T==0)=false:=by simp;omega
  by_cases hm : re < gapI U.2.1 V.2.1 T
  ·have hno : excL (gaps U V T) re=-1:=by
    have hm' : ¬ gapI U.2.1 V.2.1 T≤re:=by omega
    unfold excL gaps;simp [hm']
   rw [hno]
   rw [hgd] at hm
   with_reducible repeat' (first|refine Sp.h ?_|((first|refine Wd ?_|refine Ss.h ?_|refine Sc.h (cf) ?_|(refine Sb.h ?_ ?_ ?_<;>(try intro hgd)<;>try exact Xy))<;>simp -implicitDefEqProofs (maxSteps:=2000000) [hP,hN,g14,hb14,g17,hb17,g18,g15,g20,g12,hb12,g13,hb13,g66,w1,w2,w3,w4,w5,w6,w7,w8,hm]<;>try refine Ya ?_)|refine X2 ?_ ?_|(refine Xd ?_ ?_<;>intro hcd<;>try exact Xx))
  ·have hsq:=sq_rng (x:=gapI U.2.1 V.2.1 T) (m:=re) (by omega) (by omega)
   have hEs : excE (gaps U V T) re (1+1)=excE (gaps U V T) re 1 - gapI U.2.1 V.2.1 T * gapI U.2.1 V.2.1 T:=by simp [excE,gaps]
   have hpr' : ∀ j < 1+1,∀ x,(gaps U V T)[j]?=some x→0≤x∧x≤re:=fun j hj x hx=>by
    by_cases hk' : j < 1
    ·exact hpr j hk' x hx
    ·have : j=1:=by omega
     subst this
     have : x=gapI U.2.1 V.2.1 T:=by simpa [gaps] using hx.symm
     omega
   generalize excE (gaps U V T) re (1+1)=E' at *
   generalize excE (gaps U V T) re 1=E at *
   subst hEs
   rw [hgd] at hm hsq
   have w9 : IntKind.i64.wrap ((f+T - 1) / T * ((f+T - 1) / T))=(f+T - 1) / T * ((f+T - 1) / T):=wr_id (by omega) (by omega)
   have w10 : IntKind.i64.wrap (E - (f+T - 1) / T * ((f+T - 1) / T))=E - gapI U.2.1 V.2.1 T * gapI U.2.1 V.2.1 T:=(wr_id (by omega) (by omega)).trans (by rw [hgd])
   rw [← hgd] at hsq
   have hq1 : -(1+1 : Nat) * 4398046511104≤E - gapI U.2.1 V.2.1 T * gapI U.2.1 V.2.1 T∧E - gapI U.2.1 V.2.1 T * gapI U.2.1 V.2.1 T≤4398046511104:=by omega
   with_reducible repeat' (first|refine Sp.h ?_|((first|refine Wd ?_|refine Ss.h ?_|refine Sc.h (cf) ?_|(refine Sb.h ?_ ?_ ?_<;>(try intro hgd)<;>try exact Xy))<;>simp -implicitDefEqProofs (maxSteps:=2000000) [hP,hN,g14,hb14,g17,hb17,g18,g15,g20,g12,hb12,g13,hb13,g66,w1,w2,w3,w4,w5,w6,w7,w8,w9,w10,hm]<;>try refine Ya ?_)|refine X2 ?_ ?_|(refine Xd ?_ ?_<;>intro hcd<;>try exact Xx))
   all_goals first|exact ⟨hq1,hpr'⟩|exact ⟨hq1.1,hq1.2,hpr'⟩|exact ⟨by omega,fun x hx=>hpr' 0 (by omega) x hx⟩
 ·have hlo : -281474976710656≤U.2.2.1 - V.2.2.2∧U.2.2.1 - V.2.2.2≤281474976710656:=by omega
  have hhi : -281474976710656≤U.2.2.2 - V.2.2.1∧U.2.2.2 - V.2.2.1≤281474976710656:=by omega
  have cf:=d135 (U.2.2.1 - V.2.2.2) (U.2.2.2 - V.2.2.1) (by omega) (by omega)
  have hfr:=far2_rng hlo hhi
  have hga:=gap_rng hfr.1 (by omega) hTr.1 hTr.2
  have hgd : gapI U.2.2 V.2.2 T=(far2 (U.2.2.1 - V.2.2.2) (U.2.2.2 - V.2.2.1)+T - 1) / T:=rfl
  have w1 : IntKind.i64.wrap (U.2.2.1 - V.2.2.2)=U.2.2.1 - V.2.2.2:=wr_id (by omega) (by omega)
  have w2 : IntKind.i64.wrap (U.2.2.2 - V.2.2.1)=U.2.2.2 - V.2.2.1:=wr_id (by omega) (by omega)
  generalize far2 (U.2.2.1 - V.2.2.2) (U.2.2.2 - V.2.2.1)=f at *
  have w3 : IntKind.i64.wrap (f+T)=f+T:=wr_id (by omega) (by omega)
  have w4 : IntKind.i64.wrap (f+T - 1)=f+T - 1:=wr_id (by omega) (by omega)
  have w5 : (f+T - 1).tdiv T=(f+T - 1) / T:=Int.tdiv_eq_ediv_of_nonneg (by omega)
  have w6 : IntKind.i64.wrap ((f+T - 1) / T)=(f+T - 1) / T:=wr_id (by omega) (by omega)
  have w7 : ¬ T=0:=by omega
  have w8 : (T==0)=false:=by simp;omega
  by_cases hm : re < gapI U.2.2 V.2.2 T
  ·have hno : excL (gaps U V T) re=-1:=by
    have hm' : ¬ gapI U.2.2 V.2.2 T≤re:=by omega
    unfold excL gaps;simp [hm']
   rw [hno]
   rw [hgd] at hm
   with_reducible repeat' (first|refine Sp.h ?_|((first|refine Wd ?_|refine Ss.h ?_|refine Sc.h (cf) ?_|(refine Sb.h ?_ ?_ ?_<;>(try intro hgd)<;>try exact Xy))<;>simp -implicitDefEqProofs (maxSteps:=2000000) [hP,hN,g14,hb14,g17,hb17,g18,g15,g20,g12,hb12,g13,hb13,g66,w1,w2,w3,w4,w5,w6,w7,w8,hm]<;>try refine Ya ?_)|refine X2 ?_ ?_|(refine Xd ?_ ?_<;>intro hcd<;>try exact Xx))
  ·have hsq:=sq_rng (x:=gapI U.2.2 V.2.2 T) (m:=re) (by omega) (by omega)
   have hEs : excE (gaps U V T) re (2+1)=excE (gaps U V T) re 2 - gapI U.2.2 V.2.2 T * gapI U.2.2 V.2.2 T:=by simp [excE,gaps]
   have hpr' : ∀ j < 2+1,∀ x,(gaps U V T)[j]?=some x→0≤x∧x≤re:=fun j hj x hx=>by
    by_cases hk' : j < 2
    ·exact hpr j hk' x hx
    ·have : j=2:=by omega
     subst this
     have : x=gapI U.2.2 V.2.2 T:=by simpa [gaps] using hx.symm
     omega
   generalize excE (gaps U V T) re (2+1)=E' at *
   generalize excE (gaps U V T) re 2=E at *
   subst hEs
   rw [hgd] at hm hsq
   have w9 : IntKind.i64.wrap ((f+T - 1) / T * ((f+T - 1) / T))=(f+T - 1) / T * ((f+T - 1) / T):=wr_id (by omega) (by omega)
   have w10 : IntKind.i64.wrap (E - (f+T - 1) / T * ((f+T - 1) / T))=E - gapI U.2.2 V.2.2 T * gapI U.2.2 V.2.2 T:=(wr_id (by omega) (by omega)).trans (by rw [hgd])
   rw [← hgd] at hsq
   have hq1 : -(2+1 : Nat) * 4398046511104≤E - gapI U.2.2 V.2.2 T * gapI U.2.2 V.2.2 T∧E - gapI U.2.2 V.2.2 T * gapI U.2.2 V.2.2 T≤4398046511104:=by omega
   with_reducible repeat' (first|refine Sp.h ?_|((first|refine Wd ?_|refine Ss.h ?_|refine Sc.h (cf) ?_|(refine Sb.h ?_ ?_ ?_<;>(try intro hgd)<;>try exact Xy))<;>simp -implicitDefEqProofs (maxSteps:=2000000) [hP,hN,g14,hb14,g17,hb17,g18,g15,g20,g12,hb12,g13,hb13,g66,w1,w2,w3,w4,w5,w6,w7,w8,w9,w10,hm]<;>try refine Ya ?_)|refine X2 ?_ ?_|(refine Xd ?_ ?_<;>intro hcd<;>try exact Xx))
   all_goals first|exact ⟨hq1,hpr'⟩|exact ⟨hq1.1,hq1.2,hpr'⟩|exact ⟨by omega,fun x hx=>hpr' 0 (by omega) x hx⟩
 ·have hyes : excL (gaps U V T) re=excE (gaps U V T) re 3:=by
   have : (gaps U V T).all (fun x=>decide (x≤re))=true:=by
    rw [List.all_eq_true]
    intro x hx
    obtain ⟨j,hj,hx⟩:=List.mem_iff_getElem.1 hx
    have hj3 : j < 3:=by simpa [gaps] using hj
    have:=hpr j hj3 x (by rw [List.getElem?_eq_getElem hj,hx])
    simp;omega
   unfold excL;rw [this];rfl
  rw [hyes]
  with_reducible repeat' (first|refine Sp.h ?_|((first|refine Wd ?_|refine Ss.h ?_|(refine Sb.h ?_ ?_ ?_<;>(try intro hgd)<;>try exact Xy))<;>simp -implicitDefEqProofs (maxSteps:=2000000) [hP,hN,g14,hb14,g17,hb17,g18,g15,g20,g12,hb12,g13,hb13,g66]<;>try refine Ya ?_)|refine X2 ?_ ?_|(refine Xd ?_ ?_<;>intro hcd<;>try exact Xx))
theorem d43 (left right : List Int) (a : List IVc) (ra : Int) (b : List IVc) (rb : Int) (h1 : left.length≤9223372036854775807) (h2 : right.length≤9223372036854775807) (h3 : a.length≤9223372036854775807) (h4 : b.length≤9223372036854775807) : DetH Tryz.prog 43 [.pv (zs left),.pv (zs right),.pv (ivcs a),.pv (Z ra),.pv (ivcs b),.pv (Z rb)] [] [] (.pv (B (excB left right a ra b rb && decide (0≤excess left right a ra b rb)))):=by
 have ce:=d81 left right a ra b rb h1 h2 h3 h4
 generalize excB left right a ra b rb=k at *
 generalize excess left right a ra b rb=e at *
 cases k
 all_goals (by_cases h : 0≤e)
 ·skip
  refine detP_of Tryz.func43 rfl (by kernel_rfl) (by simp [Tryz.f43]) rfl ?_
  intro C hP hN
  simp only [Tryz.f43] at hN ⊢
  with_reducible repeat' (first|refine Sp.h ?_|((first|refine Ss.h ?_|refine Sc.h (ce) ?_|(refine Sb.h ?_ ?_ ?_<;>(try intro hgd)<;>try exact Xy))<;>simp -implicitDefEqProofs (maxSteps:=2000000) [hP,hN,h])|refine X2 ?_ ?_|(refine Xd ?_ ?_<;>intro hcd<;>try exact Xx))
 ·skip
  refine detP_of Tryz.func43 rfl (by kernel_rfl) (by simp [Tryz.f43]) rfl ?_
  intro C hP hN
  simp only [Tryz.f43] at hN ⊢
  with_reducible repeat' (first|refine Sp.h ?_|((first|refine Ss.h ?_|refine Sc.h (ce) ?_|(refine Sb.h ?_ ?_ ?_<;>(try intro hgd)<;>try exact Xy))<;>simp -implicitDefEqProofs (maxSteps:=2000000) [hP,hN,h])|refine X2 ?_ ?_|(refine Xd ?_ ?_<;>intro hcd<;>try exact Xx))
 ·skip
  refine detP_of Tryz.func43 rfl (by kernel_rfl) (by simp [Tryz.f43]) rfl ?_
  intro C hP hN
  simp only [Tryz.f43] at hN ⊢
  with_reducible repeat' (first|refine Sp.h ?_|((first|refine Ss.h ?_|refine Sc.h (ce) ?_|(refine Sb.h ?_ ?_ ?_<;>(try intro hgd)<;>try exact Xy))<;>simp -implicitDefEqProofs (maxSteps:=2000000) [hP,hN,h])|refine X2 ?_ ?_|(refine Xd ?_ ?_<;>intro hcd<;>try exact Xx))
 ·skip
  refine detP_of Tryz.func43 rfl (by kernel_rfl) (by simp [Tryz.f43]) rfl ?_
  intro C hP hN
  simp only [Tryz.f43] at hN ⊢
  with_reducible repeat' (first|refine Sp.h ?_|((first|refine Ss.h ?_|refine Sc.h (ce) ?_|(refine Sb.h ?_ ?_ ?_<;>(try intro hgd)<;>try exact Xy))<;>simp -implicitDefEqProofs (maxSteps:=2000000) [hP,hN,h])|refine X2 ?_ ?_|(refine Xd ?_ ?_<;>intro hcd<;>try exact Xx))
end Go.Ab
namespace Go.Ab
theorem evR_soundA {C : Cx} {hn : List Nat} {ops : Array Oper} {Q : St→Prop} {Q' : Exit→Act→World→Prop} {rest : List Oper} (hQ : ∀ st a w,Sim C st a w→Q st→wpList C.P ops Q' rest a w) :
 ∀ {l : List Oper} {st : St} {a : Act} {w : World},Sim C st a w→evR C.P hn C.N ops Q l st→wpList C.P ops Q' (l++rest) a w
 |[],st,a,w,hs,e=>hQ st a w hs e
 |o :: l,st,a,w,hs,e=>by
  obtain ⟨L,hm,hN,hdf,ht⟩:=hs
  rw [evR.eq_2] at e
  obtain ⟨hd,e⟩:=e
  rw [List.cons_append]
  refine wpList_step (fun K hK=>?_)
  split at e
  ·rename_i hg
   rw [guard_wanted ht (guardV_none hg),if_pos rfl]
   exact evOD_wp hm hN hdf ht hd e (fun eff a' w' hk hsim=>hK _ _ (evR_soundA hQ hsim hk))
  ·rename_i d b want hg
   rw [guard_wanted ht (guardV_some hg)]
   unfold evB at e
   simp only at e
   split at e
   ·rename_i hgt
    subst hgt
    rw [if_pos (by simp)]
    exact evOD_wp hm hN hdf ht hd e (fun eff a' w' hk hsim=>hK _ _ (evR_soundA hQ hsim hk))
   ·rename_i hgt
    rw [if_neg (by simpa using hgt)]
    exact hK _ _ (evR_soundA hQ (Sim.put hm hN hdf ht hd (W:=[]) (After.refl hm) (.pv (.val _))) e)
  ·exact e.elim
def rekey (h : Hp) (ks : List Nat) (k : Nat) (blk : Blk) : Hp:=fun q=>if q=k then some blk else if ks.contains q=true then none else (h q).map (killB ks)
def St.rekey (st : St) (ks : List Nat) (k : Nat) (blk : Blk) : St:=⟨fun n=>killA ks (st.t n),Go.Ab.rekey st.h ks k blk⟩
section
variable {C : Cx} {L : Nat→Loc} {h : Hp} {w : World}
end
section
variable {C : Cx} {Q : Exit→St→Prop} {st : St}
theorem wanted_none {ops : Array Oper} {a : Act} {o : Oper} (hg : o.guard=none) : Region.wanted o (yielded ops a.tmps)=true:=by
 unfold Region.wanted;rw [hg]
end
attribute [simp] St.rekey rekey
def FinS (e1 sz1 : Nat) (xs' : List PV) : Exit→St→Prop
 |.normal,st=>st.h 2000000=some (.row e1 sz1 xs' 0)
 |.ret,st=>st.h 2000000=some (.row e1 sz1 xs' 0)
 |_,_=>False
@[simp] theorem finS_normal {e1 sz1 : Nat} {xs' : List PV} {st : St} : FinS e1 sz1 xs' .normal st=(st.h 2000000=some (.row e1 sz1 xs' 0)):=rfl
@[simp] theorem finS_ret {e1 sz1 : Nat} {xs' : List PV} {st : St} : FinS e1 sz1 xs' .ret st=(st.h 2000000=some (.row e1 sz1 xs' 0)):=rfl
end Go.Ab
namespace Go.Ab
def renA1 (ren : Nat→Nat) : AV→AV
 |.ptr k off=>.ptr (ren k) off
 |.arr k n=>.arr (ren k) n
 |x=>x
def renA (ren : Nat→Nat) : AV→AV
 |.agg cs=>.agg (cs.map (renA1 ren))
 |x=>renA1 ren x
def okG1 (K : List Nat) : AV→Bool
 |.pv _=>true
 |.ptr k _=>K.contains k
 |.arr k _=>K.contains k
 |_=>false
def okG (K : List Nat) : AV→Bool
 |.agg cs=>cs.all (okG1 K)
 |x=>okG1 K x
def asHp : List (Nat × Blk)→Hp
 |[]=>fun _=>none
 |(k,b) :: r=>fun q=>if q=k then some b else asHp r q
def renB (ren : Nat→Nat) (own : Bool) : Blk→Blk
 |.box cs _ _=>.box (cs.map (renA1 ren)) own false
 |b=>b
def okBG (K : List Nat) (k : Nat) : Blk→Bool
 |.box cs own fz=>cs.all (okG1 K) && !own && !fz && decide (1000000≤k) && decide (k < 2000000)
 |.row _ _ _ fz=>decide (fz=0) && decide (2000000≤k)
def sameB : Blk→Blk→Bool
 |.box _ _ _,.box _ _ _=>true
 |.row e sz xs _,.row e' sz' xs' _=>e==e' && sz==sz' && xs.length==xs'.length
 |_,_=>false
theorem asHp_mem {G : List (Nat × Blk)} {k : Nat} {b : Blk} (h : asHp G k=some b) : (k,b) ∈ G:=by
 induction G with
 |nil=>cases h
 |cons x r ih=>
  obtain ⟨k',b'⟩:=x
  simp only [asHp] at h
  split at h
  ·rename_i e;injection h with h;subst e;subst h;exact List.mem_cons_self
  ·exact List.mem_cons_of_mem _ (ih h)
theorem asHp_get {G : List (Nat × Blk)} (hn : (G.map (·.1)).Nodup) {k : Nat} {b : Blk} (h : (k,b) ∈ G) : asHp G k=some b:=by
 induction G with
 |nil=>cases h
 |cons x r ih=>
  obtain ⟨k',b'⟩:=x
  simp only [asHp]
  rw [List.map_cons,List.nodup_cons] at hn
  rcases List.mem_cons.1 h with e|e
  ·injection e with e1 e2;subst e1;subst e2;rw [if_pos rfl]
  ·have hne : k≠k':=by
    rintro rfl
    exact hn.1 (List.mem_map.2 ⟨(k,b),e,rfl⟩)
   rw [if_neg hne];exact ih hn.2 e
section
variable {w : World} {M M' : Nat→Nat→Prop} {L L' : Nat→Loc} {h h' : Hp} {ren : Nat→Nat} {K : List Nat}
theorem repA1_ren (hM : ∀ b o,M' b o→M b o) (hk : ∀ k ∈ K,∀ blk,h (ren k)=some blk→∃ blk',h' k=some blk'∧compat blk (L (ren k)) blk' (L' k)) {x : AV} {u : Value} (ho : okG1 K x=true) (hx : RepA w M L h (renA1 ren x) u) : RepA w M' L' h' x u:=by
 cases x with
 |pv p=>cases hx with
  |pv hr=>exact .pv (hr.mono (Pres.sub hM))
 |ptr k off=>
  cases hx with
  |ptr hb=>
   obtain ⟨blk',h1,h2⟩:=hk k (by simpa [okG1] using ho) _ hb
   cases blk' with
   |row=>exact h2.elim
   |box cs own fz=>
    have h2 : (L' k).b=(L (ren k)).b:=h2
    rw [← h2];exact .ptr h1
 |arr k n=>
  cases hx with
  |arr hb hn hu=>
   obtain ⟨blk',h1,h2⟩:=hk k (by simpa [okG1] using ho) _ hb
   cases blk' with
   |box=>exact h2.elim
   |row e sz xs fz=>
    obtain ⟨_,_,a2,a3⟩:=h2
    refine .arr h1 (by omega) (fun e=>?_)
    have : xs.length=_:=Nat.le_antisymm (by omega) a2
    rw [a3 this];exact hu (by omega)
 |_=>cases ho
theorem repA_ren (hM : ∀ b o,M' b o→M b o) (hk : ∀ k ∈ K,∀ blk,h (ren k)=some blk→∃ blk',h' k=some blk'∧compat blk (L (ren k)) blk' (L' k)) {x : AV} {u : Value} (ho : okG K x=true) (hx : RepA w M L h (renA ren x) u) : RepA w M' L' h' x u:=by
 cases x with
 |agg cs=>
  cases hx with
  |agg _ vs hl hh=>
   refine .agg cs vs (by simpa using hl) (fun i p u hp hu=>?_)
   exact repA1_ren hM hk (List.all_eq_true.1 ho p (List.mem_of_getElem? hp)) (hh i _ u (by simp [hp]) hu)
 |_=>exact repA1_ren hM hk ho hx
theorem repA1_back (hM : ∀ b o,M' b o→M b o) (hk : ∀ k ∈ K,∀ blk,h' k=some blk→∃ blk',h (ren k)=some blk'∧compat blk (L' k) blk' (L (ren k))) {x : AV} {u : Value} (ho : okG1 K x=true) (hx : RepA w M L' h' x u) : RepA w M' L h (renA1 ren x) u:=by
 cases x with
 |pv p=>cases hx with
  |pv hr=>exact .pv (hr.mono (Pres.sub hM))
 |ptr k off=>
  cases hx with
  |ptr hb=>
   obtain ⟨blk',h1,h2⟩:=hk k (by simpa [okG1] using ho) _ hb
   cases blk' with
   |row=>exact h2.elim
   |box cs own fz=>
    have h2 : (L (ren k)).b=(L' k).b:=h2
    rw [← h2];exact .ptr h1
 |arr k n=>
  cases hx with
  |arr hb hn hu=>
   obtain ⟨blk',h1,h2⟩:=hk k (by simpa [okG1] using ho) _ hb
   cases blk' with
   |box=>exact h2.elim
   |row e sz xs fz=>
    obtain ⟨_,_,a2,a3⟩:=h2
    refine .arr h1 (by omega) (fun e=>?_)
    have : xs.length=_:=Nat.le_antisymm (by omega) a2
    rw [a3 this];exact hu (by omega)
 |_=>cases ho
end
def liveG (G : List (Nat × Blk)) (L : Nat→Loc) (b : Nat) : Prop:=∃ k blk,asHp G k=some blk∧blk.live (L k)∧b=(L k).b
structure OkG (G G' : List (Nat × Blk)) : Prop where
 keys : G'.map (·.1)=G.map (·.1)
 nodup : (G.map (·.1)).Nodup
 okin : ∀ k b,(k,b) ∈ G→okBG (G.map (·.1)) k b=true
 okout : ∀ k b,(k,b) ∈ G'→okBG (G.map (·.1)) k b=true
 same : ∀ k b b',asHp G k=some b→asHp G' k=some b'→sameB b b'=true
def DetG (P : Program) (f : FuncId) (args : List AV) (G G' : List (Nat × Blk)) (res : PV) : Prop:=
 callable P f=true∧OkG G G'∧∀ (w : World) (M : Nat→Nat→Prop) (L : Nat→Loc) (vs : List Value),(∀ b o,M b o→b < w.heap.size)→
  (∀ k blk,asHp G k=some blk→blk.live (L k)→∀ o,M (L k).b o)→
  (∀ k k' blk blk',k≠k'→asHp G k=some blk→asHp G k'=some blk'→blk.live (L k)→blk'.live (L k')→(L k).b≠(L k').b)→
  (∀ k blk,asHp G k=some blk→BlkRel w M L (asHp G) (L k) blk)→RepAL w M L (asHp G) args vs→
  Calls P f vs.toArray w fun e w'=>∃ v,e=.returned v∧Ext (liveG G L) w w'∧(∀ k blk,asHp G' k=some blk→BlkRel w' M L (asHp G') (L k) blk)∧Rep w' M res v
def stG (args : List AV) (G : List (Nat × Blk)) : St:=⟨fun n=>(args[n]?).getD .undef,asHp G⟩
def RetG (P : Program) (rs : List ResultVar) (G' : List (Nat × Blk)) (res : PV) (st : St) : Prop:=
 memless res=true∧(∃ r,resVal P st rs=some r∧∃ W,frz st.h r=some (res,W))∧∀ kb ∈ G',st.h kb.1=some kb.2
def FinG (P : Program) (rs : List ResultVar) (G' : List (Nat × Blk)) (res : PV) : Exit→St→Prop
 |.normal,st=>RetG P rs G' res st
 |.ret,st=>RetG P rs G' res st
 |_,_=>False
@[simp] theorem finG_normal {P : Program} {rs : List ResultVar} {G' : List (Nat × Blk)} {res : PV} {st : St} : FinG P rs G' res .normal st=RetG P rs G' res st:=rfl
@[simp] theorem finG_ret {P : Program} {rs : List ResultVar} {G' : List (Nat × Blk)} {res : PV} {st : St} : FinG P rs G' res .ret st=RetG P rs G' res st:=rfl
theorem detG_of {P : Program} {f : FuncId} {fn : Func} {c : Code} (hf : P.funcs[f]?=some fn) (hb : fn.body=some c) (hcall : callable P f=true) {args : List AV} {G G' : List (Nat × Blk)} {res : PV} (hlen : args.length≤fn.ntmps) (hok : OkG G G')
 (h : ∀ C : Cx,C.P=P→C.N=fn.ntmps→WP C c (FinG P fn.results.toList G' res) (stG args G)) : DetG P f args G G' res:=by
 refine ⟨hcall,hok,fun w M L vs hM hlv hsep hbl hvs=>?_⟩
 have okin : ∀ {k blk},asHp G k=some blk→okBG (G.map (·.1)) k blk=true:=fun hk=>hok.okin _ _ (asHp_mem hk)
 have okout : ∀ {k blk},asHp G' k=some blk→okBG (G.map (·.1)) k blk=true:=fun hk=>hok.okout _ _ (asHp_mem hk)
 have hnd' : (G'.map (·.1)).Nodup:=by rw [hok.keys];exact hok.nodup
 have hinout : ∀ {k blk},asHp G k=some blk→∃ blk',asHp G' k=some blk':=by
  intro k blk hk
  have hm : k ∈ G'.map (·.1):=by rw [hok.keys];exact List.mem_map.2 ⟨_,asHp_mem hk,rfl⟩
  obtain ⟨⟨k',b'⟩,h1,h2⟩:=List.mem_map.1 hm
  simp only at h2;subst h2
  exact ⟨b',asHp_get hnd' h1⟩
 have houtin : ∀ {k blk},asHp G' k=some blk→∃ blk',asHp G k=some blk':=by
  intro k blk hk
  have hm : k ∈ G.map (·.1):=by rw [← hok.keys];exact List.mem_map.2 ⟨_,asHp_mem hk,rfl⟩
  obtain ⟨⟨k',b'⟩,h1,h2⟩:=List.mem_map.1 hm
  simp only at h2;subst h2
  exact ⟨b',asHp_get hok.nodup h1⟩
 let rowB : Nat→Prop:=fun b=>∃ k e sz xs fz,asHp G k=some (.row e sz xs fz)∧(L k).isNil=false∧b=(L k).b
 let C : Cx:={ P:=P,N:=fn.ntmps,M0:=fun b o=>M b o∧¬ rowB b,S:=liveG G L,pb:=fun k=>some (L k).b,pr:=fun k=>if 2000000≤k then some (L k) else none,hpr:=(fun k hk=>by rw [if_neg (by omega)]),w0:=w }
 have hMst : ∀ b o,Mst C L (asHp G) b o↔M b o:=by
  intro b o
  constructor
  ·rintro (h0|⟨k,blk,hk,hl,hbb,_⟩)
   ·exact h0.1
   ·rw [← hbb];exact hlv k blk hk hl o
  ·intro hm
   by_cases hr : rowB b
   ·obtain ⟨k,e,sz,xs,fz,hk,hn,rfl⟩:=hr
    refine .inr ⟨k,_,hk,hn,rfl,?_⟩
    have:=okin hk
    simp only [okBG,Bool.and_eq_true,decide_eq_true_eq] at this
    rw [this.1];simp [Blk.frz]
   ·exact .inl ⟨hm,hr⟩
 have hMeq : Mst C L (asHp G)=M:=by funext b o;exact propext (hMst b o)
 have hvl:=hvs.1
 have hsim : Sim C (stG args G) { tmps:=vs.toArray++Array.replicate (fn.ntmps - vs.toArray.size) undef,defers:=[] } w:=by
  refine ⟨L,⟨Ext.refl _ _,fun b o h0=>hM b o h0.1,?_,hsep,?_⟩,by show (vs.toArray++Array.replicate (fn.ntmps - vs.toArray.size) undef).size=fn.ntmps;simp;omega,QuietL.nil _,fun n=>?_⟩
  ·intro k blk hk
   show BlkRel w (Mst C L (asHp G)) L (asHp G) (L k) blk
   rw [hMeq];exact hbl k blk hk
  ·intro k blk hk
   have ho:=okin hk
   cases blk with
   |box cs own fz=>
    simp only [okBG,Bool.and_eq_true,Bool.not_eq_true',decide_eq_true_eq] at ho
    obtain ⟨⟨⟨⟨_,h1⟩,h2⟩,h3⟩,h4⟩:=ho
    subst h1;subst h2
    refine ⟨rfl,rfl,⟨k,_,hk,trivial,rfl⟩,?_,fun o=>⟨hlv k _ hk trivial o,?_⟩⟩
    ·exact (hbl k _ hk).lt trivial
    ·rintro ⟨k',e,sz,xs,fz,hk',hn',he⟩
     by_cases e' : k=k'
     ·subst e';rw [show asHp G k=_ from hk] at hk';cases hk'
     ·exact hsep k k' _ _ e' hk hk' trivial hn' he
   |row e sz xs fz=>
    simp only [okBG,Bool.and_eq_true,decide_eq_true_eq] at ho
    show OwnOk C k (L k) _
    have hpr : C.pr k=some (L k):=if_pos ho.2
    unfold OwnOk
    simp only
    rw [hpr]
    exact ⟨rfl,fun hn=>⟨⟨k,_,hk,hn,rfl⟩,fun o h9=>h9.2 ⟨k,e,sz,xs,fz,hk,hn,rfl⟩⟩⟩
  ·show RepA w (Mst C L (asHp G)) L (asHp G) ((args[n]?).getD .undef) _
   rw [hMeq]
   cases hp : args[n]? with
   |none=>exact .undef _
   |some p=>
    have hlt : n < vs.length:=by rw [← hvl];exact (List.getElem?_eq_some_iff.1 hp).1
    have hget : (vs.toArray++Array.replicate (fn.ntmps - vs.toArray.size) undef).getD n undef=vs[n]:=by
     rw [Array.getD_eq_getD_getElem?,Array.getElem?_append_left (by simpa using hlt)];simp [hlt]
    simp only [hget]
    exact hvs.2 n p _ hp (List.getElem?_eq_getElem hlt)
 refine calls_of_wp_defers hf hb (wp_mono (h C rfl rfl _ w hsim) ?_)
 have hfin : ∀ (a' : Act) w' st',Sim C st' a' w'→RetG P fn.results.toList G' res st'→QuietL P a'.defers∧∃ v,(results fn a'.tmps).run P w'=.ok v w'∧
  ∃ v',Ending.returned v=.returned v'∧Ext (liveG G L) w w'∧(∀ k blk,asHp G' k=some blk→BlkRel w' M L (asHp G') (L k) blk)∧Rep w' M res v':=by
  rintro a' w' st' ⟨L',hm,hN,hdf,ht⟩ ⟨hml,⟨r,hr,W,hW⟩,hpb⟩
  obtain ⟨u,hu1,hu2⟩:=resVal_run (C:=C) hm ht hr
  have hpb' : ∀ {k blk},asHp G' k=some blk→st'.h k=some blk:=fun hk=>hpb _ (asHp_mem hk)
  have hLr : ∀ {k e sz xs fz},asHp G' k=some (.row e sz xs fz)→L' k=L k:=by
   intro k e sz xs fz hk
   have ho:=okout hk
   simp only [okBG,Bool.and_eq_true,decide_eq_true_eq] at ho
   have how:=hm.own k _ (hpb' hk)
   have hpr : C.pr k=some (L k):=if_pos ho.2
   simp only [OwnOk,hpr] at how
   exact how.1
  have hLb : ∀ {k cs own fz},asHp G' k=some (.box cs own fz)→(L' k).b=(L k).b:=by
   intro k cs own fz hk
   have ho:=okout hk
   simp only [okBG,Bool.and_eq_true,Bool.not_eq_true',decide_eq_true_eq] at ho
   obtain ⟨⟨⟨⟨_,h1⟩,h2⟩,h3⟩,h4⟩:=ho
   subst h1;subst h2
   have how:=(hm.own k _ (hpb' hk)).2.1
   injection how with how;exact how.symm
  have hsub : ∀ b o,M b o→Mst C L' st'.h b o:=by
   intro b o hmo
   by_cases hr' : rowB b
   ·obtain ⟨k,e,sz,xs,fz,hk,hn,rfl⟩:=hr'
    obtain ⟨blk',hk'⟩:=hinout hk
    have hs:=hok.same k _ _ hk hk'
    cases blk' with
    |box=>cases hs
    |row e' sz' xs' fz'=>
     have ho:=okout hk'
     simp only [okBG,Bool.and_eq_true,decide_eq_true_eq] at ho
     refine .inr ⟨k,_,hpb' hk',?_,?_,?_⟩
     ·show (L' k).isNil=false;rw [hLr hk'];exact hn
     ·rw [hLr hk']
     ·rw [ho.1];simp [Blk.frz]
   ·exact .inl ⟨hmo,hr'⟩
  obtain ⟨b1,b2,_⟩:=frz_sound hm (Froz.refl _) hu2 hW
  refine ⟨hdf,u,hu1,u,rfl,hm.ext,?_,?_⟩
  ·intro k blk hk
   have hbr:=hm.bl k blk (hpb' hk)
   cases blk with
   |row e sz xs fz=>
    rw [hLr hk] at hbr
    obtain ⟨g1,g2,g3,g4,g5⟩:=hbr
    refine ⟨g1,g2,g3,g4,fun hn=>?_⟩
    obtain ⟨a1,a2,arr,a3,a4,a5⟩:=g5 hn
    exact ⟨a1,a2,arr,a3,a4,fun i x j p hx hj=>by obtain ⟨u,hu,hr⟩:=a5 i x j p hx hj;exact ⟨u,hu,hr.mono (Pres.sub hsub)⟩⟩
   |box cs own fz=>
    obtain ⟨arr,ty,e1,e2⟩:=hbr
    rw [hLb hk] at e1
    refine ⟨arr,ty,e1,e2.1,fun i p u hp hu=>?_⟩
    have ho:=okout hk
    simp only [okBG,Bool.and_eq_true] at ho
    have hop:=List.all_eq_true.1 ho.1.1.1.1 p (List.mem_of_getElem? hp)
    have hx:=e2.2 i p u hp hu
    have e0 : renA1 id p=p:=by cases p<;>rfl
    have hx' : RepA w' (Mst C L' st'.h) L' st'.h (renA1 id p) u:=by rw [e0];exact hx
    refine repA1_ren (ren:=id) (K:=G.map (·.1)) (M':=M) (L':=L) (h':=asHp G') hsub (fun q hq blk hb=>?_) hop hx'
    ·obtain ⟨⟨q',b'⟩,h1,h2⟩:=List.mem_map.1 hq
     simp only at h2;subst h2
     obtain ⟨blk',hq'⟩:=hinout (asHp_get hok.nodup h1)
     refine ⟨blk',hq',?_⟩
     have h9:=hpb' hq'
     have hb' : st'.h q'=some blk:=hb
     rw [hb'] at h9;injection h9 with h9;subst h9
     cases blk with
     |box=>exact (hLb hq').symm
     |row=>exact ⟨rfl,rfl,Nat.le_refl _,fun _=>(hLr hq').symm⟩
  ·exact memless_rep hml b2
 rintro e a' w' ⟨st',hs',hq⟩
 cases e with
 |normal=>obtain ⟨h1,v,h2,h3⟩:=hfin a' w' st' hs' hq;exact leaves_quiet h1 h2 h3
 |ret=>obtain ⟨h1,v,h2,h3⟩:=hfin a' w' st' hs' hq;exact leaves_quiet h1 h2 h3
 |exit=>exact hq.elim
 |goto=>exact hq.elim
 |panic=>exact hq.elim
 |outgrown=>exact hq.elim
def ownOf (h : Hp) (q : Nat) : Bool:=match h q with
 |some (.box _ own _)=>own
 |_=>false
def shareW (ren : Nat→Nat) (h : Hp) (G' : List (Nat × Blk)) : List (Nat × Blk):=G'.map fun kb=>(ren kb.1,renB ren (ownOf h (ren kb.1)) kb.2)
theorem writes_map {ren : Nat→Nat} {g : Nat × Blk→Blk} : ∀ (l : List (Nat × Blk)) (h : Hp),(l.map fun x=>ren x.1).Nodup→∀ x ∈ l,writes h (l.map fun x=>(ren x.1,g x)) (ren x.1)=some (g x)
 |[],_,_,x,hx=>by cases hx
 |y :: l,h,hn,x,hx=>by
  rw [List.map_cons,List.nodup_cons] at hn
  rw [List.map_cons]
  show writes (upd h (ren y.1) (some (g y))) (l.map fun x=>(ren x.1,g x)) (ren x.1)=_
  rcases List.mem_cons.1 hx with rfl|hx
  ·rw [writes_other,upd_same]
   intro kb hkb
   obtain ⟨z,hz,rfl⟩:=List.mem_map.1 hkb
   intro e
   exact hn.1 (List.mem_map.2 ⟨z,hz,e⟩)
  ·exact writes_map l _ hn.2 x hx
theorem renB_live {ren : Nat→Nat} {own : Bool} {b : Blk} {l : Loc} : (renB ren own b).live l↔b.live l:=by cases b<;>exact Iff.rfl
theorem renB_frz {ren : Nat→Nat} {own : Bool} {b : Blk} {K : List Nat} {k o : Nat} (h : okBG K k b=true) : ¬ (renB ren own b).frz o:=by
 cases b with
 |box cs own' fz=>simp [renB,Blk.frz]
 |row e sz xs fz=>
  simp only [okBG,Bool.and_eq_true,decide_eq_true_eq] at h
  rw [h.1];simp [renB,Blk.frz]
structure Share (h : Hp) (ren : Nat→Nat) (G G' : List (Nat × Blk)) : Prop where
 ok : OkG G G'
 inj : (G.map fun x=>ren x.1).Nodup
 have_ : ∀ kb ∈ G,h (ren kb.1)=some (renB ren (ownOf h (ren kb.1)) kb.2)
section
variable {C : Cx} {L : Nat→Loc} {h : Hp} {w : World} {ren : Nat→Nat} {G G' : List (Nat × Blk)}
theorem Share.ren_inj (hs : Share h ren G G') {k k' : Nat} {b b' : Blk} (hk : asHp G k=some b) (hk' : asHp G k'=some b') (e : ren k=ren k') : k=k':=by
 obtain ⟨i,hi⟩:=List.mem_iff_getElem?.1 (asHp_mem hk)
 obtain ⟨j,hj⟩:=List.mem_iff_getElem?.1 (asHp_mem hk')
 have h1 : (G.map fun x=>ren x.1)[i]?=some (ren k):=by simp [hi]
 have h2 : (G.map fun x=>ren x.1)[j]?=some (ren k'):=by simp [hj]
 obtain ⟨l1,e1⟩:=List.getElem?_eq_some_iff.1 h1
 obtain ⟨l2,e2⟩:=List.getElem?_eq_some_iff.1 h2
 have : i=j:=(List.getElem_inj hs.inj).1 (e1.trans (e.trans e2.symm))
 subst this
 rw [hi] at hj;injection hj with hj;injection hj with hj
theorem Share.inout (hs : Share h ren G G') {k : Nat} {blk : Blk} (hk : asHp G k=some blk) : ∃ blk',asHp G' k=some blk':=by
 have hm : k ∈ G'.map (·.1):=by rw [hs.ok.keys];exact List.mem_map.2 ⟨_,asHp_mem hk,rfl⟩
 obtain ⟨⟨k',b'⟩,h1,h2⟩:=List.mem_map.1 hm
 simp only at h2;subst h2
 exact ⟨b',asHp_get (by rw [hs.ok.keys];exact hs.ok.nodup) h1⟩
theorem Share.outin (hs : Share h ren G G') {k : Nat} {blk : Blk} (hk : asHp G' k=some blk) : ∃ blk',asHp G k=some blk':=by
 have hm : k ∈ G.map (·.1):=by rw [← hs.ok.keys];exact List.mem_map.2 ⟨_,asHp_mem hk,rfl⟩
 obtain ⟨⟨k',b'⟩,h1,h2⟩:=List.mem_map.1 hm
 simp only at h2;subst h2
 exact ⟨b',asHp_get hs.ok.nodup h1⟩
theorem Share.at_ (hs : Share h ren G G') {k : Nat} {blk : Blk} (hk : asHp G k=some blk) : h (ren k)=some (renB ren (ownOf h (ren k)) blk):=hs.have_ _ (asHp_mem hk)
theorem Share.new (hs : Share h ren G G') {k : Nat} {blk : Blk} (hk : asHp G' k=some blk) : writes h (shareW ren h G') (ren k)=some (renB ren (ownOf h (ren k)) blk):=by
 have hn : (G'.map fun x=>ren x.1).Nodup:=by
  have e : (G'.map fun x=>ren x.1)=(G.map fun x=>ren x.1):=by
   have:=congrArg (List.map ren) hs.ok.keys
   simpa [List.map_map,Function.comp_def] using this
  rw [e];exact hs.inj
 exact writes_map (g:=fun kb=>renB ren (ownOf h (ren kb.1)) kb.2) G' h hn (k,blk) (asHp_mem hk)
theorem Share.other (hs : Share h ren G G') {q : Nat} (hq : ∀ k blk,asHp G k=some blk→q≠ren k) : writes h (shareW ren h G') q=h q:=by
 refine writes_other ?_
 intro kb hkb e
 obtain ⟨⟨k,b⟩,hz,rfl⟩:=List.mem_map.1 hkb
 obtain ⟨blk',hk'⟩:=hs.outin (asHp_get (by rw [hs.ok.keys];exact hs.ok.nodup) hz)
 exact hq k _ hk' e.symm
theorem Share.cases (hs : Share h ren G G') {q : Nat} {b : Blk} (hq : writes h (shareW ren h G') q=some b) :
 (∃ k blk blk',asHp G k=some blk∧asHp G' k=some blk'∧q=ren k∧b=renB ren (ownOf h (ren k)) blk')∨((∀ k blk,asHp G k=some blk→q≠ren k)∧h q=some b):=by
 by_cases hc : ∃ k blk,asHp G k=some blk∧q=ren k
 ·obtain ⟨k,blk,hk,rfl⟩:=hc
  obtain ⟨blk',hk'⟩:=hs.inout hk
  rw [hs.new hk'] at hq;injection hq with hq
  exact .inl ⟨k,blk,blk',hk,hk',rfl,hq.symm⟩
 ·have hne : ∀ k blk,asHp G k=some blk→q≠ren k:=fun k blk hk e=>hc ⟨k,blk,hk,e⟩
  rw [hs.other hne] at hq
  exact .inr ⟨hne,hq⟩
theorem sameB_compat {b b' : Blk} {l : Loc} {ren : Nat→Nat} {own : Bool} (h : sameB b b'=true) : compat (renB ren own b) l (renB ren own b') l:=by
 cases b<;>cases b'<;>first|(cases h;done)|skip
 ·exact rfl
 ·simp only [sameB,Bool.and_eq_true,beq_iff_eq] at h
  exact ⟨h.1.1.symm,h.1.2.symm,Nat.le_of_eq h.2,fun _=>rfl⟩
theorem Share.okin (hs : Share h ren G G') {k : Nat} {b : Blk} (hk : asHp G k=some b) : okBG (G.map (·.1)) k b=true:=hs.ok.okin _ _ (asHp_mem hk)
theorem Share.okout (hs : Share h ren G G') {k : Nat} {b : Blk} (hk : asHp G' k=some b) : okBG (G.map (·.1)) k b=true:=hs.ok.okout _ _ (asHp_mem hk)
theorem Share.view (hs : Share h ren G G') (hm : MemL C L h w) {k : Nat} {blk : Blk} (hk : asHp G k=some blk) : BlkRel w (Mst C L h) (fun k=>L (ren k)) (asHp G) (L (ren k)) blk:=by
 have hb:=hm.bl _ _ (hs.at_ hk)
 cases blk with
 |row e sz xs fz=>exact hb
 |box cs own fz=>
  obtain ⟨arr,ty,e1,e2⟩:=hb
  have ho:=hs.okin hk
  simp only [okBG,Bool.and_eq_true] at ho
  refine ⟨arr,ty,e1,by simpa using e2.1,fun i p u hp hu=>?_⟩
  refine repA1_ren (ren:=ren) (K:=G.map (·.1)) (fun b o h=>h) (fun q hq b hb=>?_) (List.all_eq_true.1 ho.1.1.1.1 p (List.mem_of_getElem? hp)) (e2.2 i _ u (by simp [hp]) hu)
  obtain ⟨⟨q',b'⟩,h1,h2⟩:=List.mem_map.1 hq
  simp only at h2;subst h2
  have hq':=asHp_get hs.ok.nodup h1
  refine ⟨b',hq',?_⟩
  rw [hs.at_ hq'] at hb;injection hb with hb;subst hb
  cases b' with
  |box=>exact rfl
  |row=>exact ⟨rfl,rfl,Nat.le_refl _,fun _=>rfl⟩
theorem MemL.shareStep (hm : MemL C L h w) (hs : Share h ren G G') {w' : World} (hx : Ext (liveG G (fun k=>L (ren k))) w w')
 (hb : ∀ k blk,asHp G' k=some blk→BlkRel w' (Mst C L h) (fun k=>L (ren k)) (asHp G') (L (ren k)) blk) : After C L h w L (writes h (shareW ren h G')) w':=by
 have hMM : ∀ b o,Mst C L (writes h (shareW ren h G')) b o→Mst C L h b o:=by
  rintro b o (h0|⟨q,blk,hq,hl,hqb,hf⟩)
  ·exact .inl h0
  ·rcases hs.cases hq with ⟨k,b1,b2,hk,hk',rfl,rfl⟩|⟨_,hq'⟩
   ·refine .inr ⟨ren k,_,hs.at_ hk,?_,hqb,renB_frz (hs.okin hk)⟩
    have hsm:=hs.ok.same k _ _ hk hk'
    cases b1<;>cases b2<;>first|(cases hsm;done)|exact hl
   ·exact .inr ⟨q,blk,hq',hl,hqb,hf⟩
 have hkc : KC L h L (writes h (shareW ren h G')):=by
  intro q blk hq
  by_cases hc : ∃ k b,asHp G k=some b∧q=ren k
  ·obtain ⟨k,b,hk,rfl⟩:=hc
   obtain ⟨b',hk'⟩:=hs.inout hk
   rw [hs.at_ hk] at hq;injection hq with hq;subst hq
   exact ⟨_,hs.new hk',sameB_compat (hs.ok.same k _ _ hk hk')⟩
  ·exact ⟨blk,by rw [hs.other (fun k b hk e=>hc ⟨k,b,hk,e⟩)];exact hq,compat_refl _ _⟩
 have hpres : Pres w (Mst C L h) w' (Mst C L (writes h (shareW ren h G'))):=by
  intro b o v hc hn
  refine ⟨(hx.cell (cell_lt hc) ?_).trans hc,fun h=>hn (hMM b o h)⟩
  rintro ⟨k,blk,hk,hl,rfl⟩
  exact hn (.inr ⟨ren k,_,hs.at_ hk,renB_live.2 hl,rfl,renB_frz (hs.okin hk)⟩)
 refine ⟨⟨?_,hm.m0,?_,?_,?_⟩,hpres,hkc⟩
 ·refine hm.ext.trans hx (fun b hb0 hmem=>?_)
  obtain ⟨k,blk,hk,hl,rfl⟩:=hmem
  have hb1 : (L (ren k)).b < C.w0.heap.size:=hb0
  have how:=hm.own _ _ (hs.at_ hk)
  cases blk with
  |box cs own fz=>
   cases hown : ownOf h (ren k) with
   |false=>rw [hown] at how;exact how.2.2.1
   |true=>rw [hown] at how;simp only [renB,OwnOk] at how;omega
  |row e sz xs fz=>
   rcases how.row hl with h9|h9
   ·omega
   ·exact h9.1
 ·intro q blk hq
  rcases hs.cases hq with ⟨k,b1,b2,hk,hk',rfl,rfl⟩|⟨hne,hq'⟩
  ·have hbr:=hb k b2 hk'
   cases b2 with
   |row e sz xs fz=>
    obtain ⟨g1,g2,g3,g4,g5⟩:=hbr
    refine ⟨g1,g2,g3,g4,fun hn=>?_⟩
    obtain ⟨a1,a2,arr,a3,a4,a5⟩:=g5 hn
    exact ⟨a1,a2,arr,a3,a4,fun i x j p hx9 hj=>by obtain ⟨u,hu,hr⟩:=a5 i x j p hx9 hj;exact ⟨u,hu,hr.mono (Pres.sub hMM)⟩⟩
   |box cs own fz=>
    obtain ⟨arr,ty,e1,e2⟩:=hbr
    have ho:=hs.okout hk'
    simp only [okBG,Bool.and_eq_true] at ho
    refine ⟨arr,ty,e1,by simpa using e2.1,fun i p u hp hu=>?_⟩
    simp only [List.getElem?_map,Option.map_eq_some_iff] at hp
    obtain ⟨y,hy,rfl⟩:=hp
    refine repA1_back (ren:=ren) (K:=G.map (·.1)) (L':=fun k=>L (ren k)) (h':=asHp G') hMM (fun q hq b hb=>?_) (List.all_eq_true.1 ho.1.1.1.1 y (List.mem_of_getElem? hy)) (e2.2 i y u hy hu)
    refine ⟨_,hs.new hb,?_⟩
    cases b with
    |box=>exact rfl
    |row=>exact ⟨rfl,rfl,Nat.le_refl _,fun _=>rfl⟩
  ·refine (hm.bl q blk hq').mono hpres hkc (fun hl=>hx.block _ ((hm.bl q blk hq').lt hl) ?_)
   rintro ⟨k,b,hk,hl',e⟩
   exact hm.sep q (ren k) _ _ (hne k b hk) hq' (hs.at_ hk) hl (renB_live.2 hl') e
 ·have aux : ∀ q b,writes h (shareW ren h G') q=some b→b.live (L q)→∃ b0,h q=some b0∧b0.live (L q):=by
   intro q b hq hl
   rcases hs.cases hq with ⟨k,b1,b2,hk,hk',rfl,rfl⟩|⟨_,hq'⟩
   ·refine ⟨_,hs.at_ hk,?_⟩
    have hsm:=hs.ok.same k _ _ hk hk'
    cases b1<;>cases b2<;>first|(cases hsm;done)|exact hl
   ·exact ⟨b,hq',hl⟩
  intro q q' b1 b2 hne hq hq' hl hl'
  obtain ⟨c1,d1,f1⟩:=aux q b1 hq hl
  obtain ⟨c2,d2,f2⟩:=aux q' b2 hq' hl'
  exact hm.sep q q' c1 c2 hne d1 d2 f1 f2
 ·intro q blk hq
  rcases hs.cases hq with ⟨k,b1,b2,hk,hk',rfl,rfl⟩|⟨_,hq'⟩
  ·have how:=hm.own _ _ (hs.at_ hk)
   have hsm:=hs.ok.same k _ _ hk hk'
   cases b1<;>cases b2<;>first|(cases hsm;done)|skip
   ·cases hown : ownOf h (ren k) with
    |false=>rw [hown] at how;exact how
    |true=>rw [hown] at how;exact how
   ·exact how
  ·exact hm.own q blk hq'
end
section
variable {C : Cx} {Q : Exit→St→Prop} {st : St}
def ShareK (C : Cx) (Q : St→Prop) (f : Operand) (xs : List Operand) (d : Option Nat) (st : St) : Prop:=
 ∃ g args G G' res ren,calleeOf (st.ev f)=some (g,[],[])∧DetG C.P g args G G' res∧memless res=true∧xs.map st.ev=args.map (renA ren)∧args.all (okG (G.map (·.1)))=true∧(G.map fun x=>ren x.1).Nodup∧
  (∀ kb ∈ G,st.h (ren kb.1)=some (renB ren (ownOf st.h (ren kb.1)) kb.2))∧dstOk C.N d=true∧Q (st.put d (.pv res) (shareW ren st.h G'))
theorem WP.share {hn : List Nat} {id : Nat} {ops : Array Oper} {pre post : List Oper} {o : Oper} {f : Operand} {xs : List Operand} {ats : Array TypeId} (hops : ops.toList=pre++o :: post) (hop : o.op=.call { callee:=.value f,args:=xs.toArray,argTypes:=ats }) (hg : o.guard=none)
 (hq : evR C.P hn C.N ops (ShareK C (evR C.P hn C.N ops (Q .normal) post) f xs o.dst) pre st) : WP C (.region id ops false) Q st:=by
 intro a w hs
 refine wp_region_list ?_
 rw [hops]
 refine evR_soundA (fun st1 a1 w1 hs1 hq1=>?_) hs hq
 obtain ⟨g,args,G,G',res,ren,hce,⟨hcall,hok,hD⟩,hml,hargs,hokA,hinj,hhave,hdN,hQ⟩:=hq1
 obtain ⟨L,hm,hN,hdf,ht⟩:=hs1
 have hsh : Share st1.h ren G G':=⟨hok,hinj,hhave⟩
 refine wpList_step (fun K hK=>?_)
 rw [wanted_none hg,if_pos rfl]
 obtain ⟨vs,us,hfv,hv1,hv2⟩:=calleeOf_sound (eval_rep ht f) hce
 have hvs:=hv1.nil_inv
 have hus:=hv2.nil_inv
 subst hvs;subst hus
 have hlenA : xs.length=args.length:=by have:=congrArg List.length hargs;simpa using this
 have hrepA : RepAL w1 (Mst C L st1.h) (fun k=>L (ren k)) (asHp G) args (xs.map a1.eval):=by
  refine ⟨by simp [hlenA],fun i p u hp hu=>?_⟩
  simp only [List.getElem?_map,Option.map_eq_some_iff] at hu
  obtain ⟨x,hx,rfl⟩:=hu
  have he:=congrArg (fun l : List AV=>l[i]?) hargs
  simp only [List.getElem?_map,hx,hp,Option.map_some,Option.some.injEq] at he
  have hr:=eval_rep ht x
  rw [he] at hr
  refine repA_ren (K:=G.map (·.1)) (fun b o h=>h) (fun q hq b hb=>?_) (List.all_eq_true.1 hokA p (List.mem_of_getElem? hp)) hr
  obtain ⟨⟨q',b'⟩,h1,h2⟩:=List.mem_map.1 hq
  simp only at h2;subst h2
  have hq':=asHp_get hsh.ok.nodup h1
  refine ⟨b',hq',?_⟩
  rw [hsh.at_ hq'] at hb;injection hb with hb;subst hb
  cases b' with
  |box=>exact rfl
  |row=>exact ⟨rfl,rfl,Nat.le_refl _,fun _=>rfl⟩
 have hcalls:=hD w1 (Mst C L st1.h) (fun k=>L (ren k)) (xs.map a1.eval) (fun b o h=>hm.mlt h)
  (fun k blk hk hl o=>.inr ⟨ren k,_,hsh.at_ hk,renB_live.2 hl,rfl,renB_frz (hsh.okin hk)⟩)
  (fun k k' b b' hne hk hk' hl hl'=>hm.sep (ren k) (ren k') _ _ (fun e=>hne (hsh.ren_inj hk hk' e)) (hsh.at_ hk) (hsh.at_ hk') (renB_live.2 hl) (renB_live.2 hl'))
  (fun k blk hk=>hsh.view hm hk) hrepA
 have hrun : (execOp a1.eval o).run C.P w1=.ok (.enter g (xs.map a1.eval).toArray) w1:=by
  unfold callable at hcall
  cases hfn : C.P.funcs[g]? with
  |none=>rw [hfn] at hcall;cases hcall
  |some fn=>
   rw [hfn] at hcall
   simp only [Bool.and_eq_true,Bool.not_eq_true',beq_eq_false_iff_ne,ne_eq] at hcall
   have hb : fn.body.isNone=false:=by cases hbb : fn.body<;>simp_all
   unfold execOp
   rw [hop]
   simp only [resolve,hfv,Deferred.ofValue,pure_bind,Sem.run_bind,Result.andThen_ok,invoke,callFunc,program,Sem.run,hfn]
   simp [hcall.2,hb]
 unfold Oper.wp
 rw [hrun]
 simp only [Oper.upon]
 refine hcalls.mono ?_
 rintro ee w' ⟨v,rfl,hx,hb,hr⟩
 have hA:=hm.shareStep hsh hx hb
 refine hK _ _ ?_
 exact evR_sound (fun st' a' w' hs' hq'=>⟨st',hs',hq'⟩) (Sim.put hm hN hdf ht hdN hA (.pv (memless_rep hml hr))) hQ
end
attribute [simp] renA renA1 okG okG1 asHp renB okBG sameB shareW ownOf
end Go.Ab
namespace Go.Ab
open Go.Proofs
def sqC (x : Int) : Int:=shU (max x (-x)) 65536 * shU (max x (-x)) 65536
def nrClose (v : Vc) (rho : Int) : Bool:=decide (sqC v.1+sqC v.2.1+sqC v.2.2≤rho * rho)
theorem sqC_rng {x : Int} (h : -35184372088832≤x∧x≤35184372088832) : (0≤shU (max x (-x)) 65536∧shU (max x (-x)) 65536≤536870912)∧0≤sqC x∧sqC x≤288230376151711744:=by
 have h1 : 0≤shU (max x (-x)) 65536∧shU (max x (-x)) 65536≤536870912:=by unfold shU;omega
 have h2:=sq_rng h1.1 h1.2
 exact ⟨h1,h2.1,by unfold sqC;omega⟩
set_option maxHeartbeats 8000000 in
theorem d125 (v : Vc) (rho : Int) (hv : smV 35184372088832 v) (hr : 0≤rho∧rho≤2097152) : DetH Tryz.prog 125 [.pv (encVec v),.pv (Z rho)] [] [] (.pv (B (nrClose v rho))):=by
 obtain ⟨v1,v2,v3⟩:=hv
 have c1:=dU16 (max v.1 (-v.1)) (by omega) (by omega)
 have c2:=dU16 (max v.2.1 (-v.2.1)) (by omega) (by omega)
 have c3:=dU16 (max v.2.2 (-v.2.2)) (by omega) (by omega)
 have q1:=sqC_rng v1
 have q2:=sqC_rng v2
 have q3:=sqC_rng v3
 have qr:=sq_rng hr.1 hr.2
 have n1 : IntKind.i64.wrap (0 - v.1)=-v.1:=(wr_id (n:=0 - v.1) (by omega) (by omega)).trans (by omega)
 have n2 : IntKind.i64.wrap (0 - v.2.1)=-v.2.1:=(wr_id (n:=0 - v.2.1) (by omega) (by omega)).trans (by omega)
 have n3 : IntKind.i64.wrap (0 - v.2.2)=-v.2.2:=(wr_id (n:=0 - v.2.2) (by omega) (by omega)).trans (by omega)
 have n1' : IntKind.i64.wrap (-v.1)=-v.1:=(wr_id (n:=-v.1) (by omega) (by omega))
 have n2' : IntKind.i64.wrap (-v.2.1)=-v.2.1:=(wr_id (n:=-v.2.1) (by omega) (by omega))
 have n3' : IntKind.i64.wrap (-v.2.2)=-v.2.2:=(wr_id (n:=-v.2.2) (by omega) (by omega))
 have hd : nrClose v rho=decide (sqC v.1+sqC v.2.1+sqC v.2.2≤rho * rho):=rfl
 rw [hd]
 have d1 : sqC v.1=shU (max v.1 (-v.1)) 65536 * shU (max v.1 (-v.1)) 65536:=rfl
 have d2 : sqC v.2.1=shU (max v.2.1 (-v.2.1)) 65536 * shU (max v.2.1 (-v.2.1)) 65536:=rfl
 have d3 : sqC v.2.2=shU (max v.2.2 (-v.2.2)) 65536 * shU (max v.2.2 (-v.2.2)) 65536:=rfl
 generalize sqC v.1=s1 at *
 generalize sqC v.2.1=s2 at *
 generalize sqC v.2.2=s3 at *
 generalize shU (max v.1 (-v.1)) 65536=t1 at *
 generalize shU (max v.2.1 (-v.2.1)) 65536=t2 at *
 generalize shU (max v.2.2 (-v.2.2)) 65536=t3 at *
 generalize hrr : rho * rho=rr at *
 have u1 : IntKind.i64.wrap (t1 * t1)=s1:=(wr_id (by rw [← d1];omega) (by rw [← d1];omega)).trans d1.symm
 have u2 : IntKind.i64.wrap (t2 * t2)=s2:=(wr_id (by rw [← d2];omega) (by rw [← d2];omega)).trans d2.symm
 have u3 : IntKind.i64.wrap (t3 * t3)=s3:=(wr_id (by rw [← d3];omega) (by rw [← d3];omega)).trans d3.symm
 have ur : IntKind.i64.wrap rr=rr:=wr_id (by omega) (by omega)
 have x1 : IntKind.i64.wrap s1=s1:=wr_id (by omega) (by omega)
 have x2 : IntKind.i64.wrap (s1+s2)=s1+s2:=wr_id (by omega) (by omega)
 have x3 : IntKind.i64.wrap (s1+s2+s3)=s1+s2+s3:=wr_id (by omega) (by omega)
 clear d1 d2 d3 q1 q2 q3
 refine detP_of Tryz.func125 rfl (by kernel_rfl) (by simp [Tryz.f125]) rfl ?_
 intro C hP hN
 simp only [Tryz.f125] at hN ⊢
 with_reducible repeat' (first|refine Sp.h ?_|((first|refine Ss.h ?_|(refine Sb.h ?_ ?_ ?_<;>(try intro hgd)<;>try exact Xy))<;>simp -implicitDefEqProofs (maxSteps:=2000000) [hP,hN])|refine X2 ?_ ?_|(refine Xd ?_ ?_<;>intro hcd<;>try exact Xx))
 refine WP.loopN [] 3 (fun k st=>st.t 9=.pv (encVec v)∧st.t 10=.pv (Z k)∧st.t 1=.pv (Z rho)∧st.t 5=.pv (Z (if k=0 then 0 else if k=1 then s1 else if k=2 then s1+s2 else s1+s2+s3))) (by simp) ?_
 rintro k st hk ⟨g9,g10,g1,g5⟩
 rcases fin3' hk with rfl|rfl|rfl|rfl
 all_goals (simp at g5 g10)
 ·skip
  with_reducible repeat' (first|refine Sp.h ?_|((first|refine Ss.h ?_|refine Sc.h (c1) ?_|(refine Sb.h ?_ ?_ ?_<;>(try intro hgd)<;>try exact Xy))<;>simp -implicitDefEqProofs (maxSteps:=2000000) [hP,hN,g1,g5,g9,g10,n1,n2,n3,n1',n2',n3',u1,u2,u3,x1,x2,x3])|refine X2 ?_ ?_|(refine Xd ?_ ?_<;>intro hcd<;>try exact Xx))
 ·skip
  with_reducible repeat' (first|refine Sp.h ?_|((first|refine Ss.h ?_|refine Sc.h (c2) ?_|(refine Sb.h ?_ ?_ ?_<;>(try intro hgd)<;>try exact Xy))<;>simp -implicitDefEqProofs (maxSteps:=2000000) [hP,hN,g1,g5,g9,g10,n1,n2,n3,n1',n2',n3',u1,u2,u3,x1,x2,x3])|refine X2 ?_ ?_|(refine Xd ?_ ?_<;>intro hcd<;>try exact Xx))
 ·skip
  with_reducible repeat' (first|refine Sp.h ?_|((first|refine Ss.h ?_|refine Sc.h (c3) ?_|(refine Sb.h ?_ ?_ ?_<;>(try intro hgd)<;>try exact Xy))<;>simp -implicitDefEqProofs (maxSteps:=2000000) [hP,hN,g1,g5,g9,g10,n1,n2,n3,n1',n2',n3',u1,u2,u3,x1,x2,x3])|refine X2 ?_ ?_|(refine Xd ?_ ?_<;>intro hcd<;>try exact Xx))
 ·skip
  with_reducible repeat' (first|refine Sp.h ?_|((first|refine Ss.h ?_|(refine Sb.h ?_ ?_ ?_<;>(try intro hgd)<;>try exact Xy))<;>simp -implicitDefEqProofs (maxSteps:=2000000) [hP,hN,g1,g5,g9,g10,hrr,ur])|refine X2 ?_ ?_|(refine Xd ?_ ?_<;>intro hcd<;>try exact Xx))
def nrPart (x s : Vc) : Int:=if nrDot x (nrSub x s)≤0 then 0 else min 256 (nrDot x (nrSub x s) / max 1 (nrDot (nrSub x s) (nrSub x s) / 256))
theorem nrSub_sm {v w : Vc} {a b : Int} (hv : smV a v) (hw : smV b w) : smV (a+b) (nrSub v w):=by
 obtain ⟨v1,v2,v3⟩:=hv
 obtain ⟨w1,w2,w3⟩:=hw
 refine ⟨?_,?_,?_⟩<;>(simp only [nrSub];omega)
theorem nrPart_rng (x s : Vc) : 0≤nrPart x s∧nrPart x s≤256:=by
 unfold nrPart
 split
 ·omega
 ·rename_i h
  have h1 : 0≤nrDot x (nrSub x s) / max 1 (nrDot (nrSub x s) (nrSub x s) / 256):=Int.ediv_nonneg (by omega) (by omega)
  omega
theorem sm_to {v : Vc} {a b : Int} (h : smV a v) (hab : a≤b) : smV b v:=by
 obtain ⟨v1,v2,v3⟩:=h
 exact ⟨by omega,by omega,by omega⟩
theorem nrDot_self (v : Vc) : 0≤nrDot v v:=by
 have h : ∀ x : Int,0≤x * x:=fun x=>by
  rcases Int.le_total 0 x with h|h
  ·exact Int.mul_nonneg h h
  ·have:=Int.mul_nonneg (show 0≤-x by omega) (show 0≤-x by omega)
   rw [Int.neg_mul_neg] at this;exact this
 have h1:=h v.1
 have h2:=h v.2.1
 have h3:=h v.2.2
 unfold nrDot;omega
set_option maxHeartbeats 8000000 in
theorem d129 (x s : Vc) (hx : smV 536870912 x) (hs : smV 536870912 s) : DetH Tryz.prog 129 [.pv (encVec x),.pv (encVec s)] [] [] (.pv (Z (nrPart x s))):=by
 have he:=nrSub_sm hx hs
 have cm:=d123 x s (sm_to hx (by decide)) (sm_to hs (by decide))
 have cd:=d172 x (nrSub x s) 536870912 1073741824 hx he (by decide)
 have ce:=d172 (nrSub x s) (nrSub x s) 1073741824 1073741824 he he (by decide)
 obtain ⟨r1,r2,r3⟩:=nrDot_rng (m:=536870912) (n:=1073741824) hx he
 obtain ⟨t1,t2,t3⟩:=nrDot_rng (m:=1073741824) (n:=1073741824) he he
 have hu : -1729382256910270464≤nrDot x (nrSub x s)∧nrDot x (nrSub x s)≤1729382256910270464:=by unfold nrDot;omega
 have hv : nrDot (nrSub x s) (nrSub x s)≤3458764513820540928:=by unfold nrDot;omega
 have hv0:=nrDot_self (nrSub x s)
 have hp : nrPart x s=if nrDot x (nrSub x s)≤0 then 0 else min 256 (nrDot x (nrSub x s) / max 1 (nrDot (nrSub x s) (nrSub x s) / 256)):=rfl
 rw [hp]
 clear r1 r2 r3 t1 t2 t3 he
 generalize nrDot x (nrSub x s)=u at *
 generalize nrDot (nrSub x s) (nrSub x s)=v at *
 generalize nrSub x s=e at *
 by_cases h0 : u≤0
 ·rw [if_pos h0]
  refine detP_of Tryz.func129 rfl (by kernel_rfl) (by simp [Tryz.f129]) rfl ?_
  intro C hP hN
  simp only [Tryz.f129] at hN ⊢
  with_reducible repeat' (first|refine Sp.h ?_|((first|refine Wd ?_|refine Ss.h ?_|refine Sc.h (cm) ?_|refine Sc.h (cd) ?_|refine Sc.h (ce) ?_|(refine Sb.h ?_ ?_ ?_<;>(try intro hgd)<;>try exact Xy))<;>simp -implicitDefEqProofs (maxSteps:=2000000) [hP,hN,h0]<;>try refine Ya ?_)|refine X2 ?_ ?_|(refine Xd ?_ ?_<;>intro hcd<;>try exact Xx))
 ·rw [if_neg h0]
  have a1 : v.tdiv 256=v / 256:=Int.tdiv_eq_ediv_of_nonneg hv0
  have a2 : IntKind.i64.wrap (v / 256)=v / 256:=wr_id (by omega) (by omega)
  have hm : 1≤max 1 (v / 256):=by omega
  generalize hmm : max 1 (v / 256)=m at *
  have a3 : u.tdiv m=u / m:=Int.tdiv_eq_ediv_of_nonneg (by omega)
  have h4 : u / m≤u:=Int.ediv_le_self m (by omega)
  have h5 : 0≤u / m:=Int.ediv_nonneg (by omega) (by omega)
  have a4 : IntKind.i64.wrap (u / m)=u / m:=wr_id (by omega) (by omega)
  have a5 : ¬ m=0:=by omega
  have a6 : (m==0)=false:=by simp;omega
  refine detP_of Tryz.func129 rfl (by kernel_rfl) (by simp [Tryz.f129]) rfl ?_
  intro C hP hN
  simp only [Tryz.f129] at hN ⊢
  with_reducible repeat' (first|refine Sp.h ?_|((first|refine Wd ?_|refine Ss.h ?_|refine Sc.h (cm) ?_|refine Sc.h (cd) ?_|refine Sc.h (ce) ?_|(refine Sb.h ?_ ?_ ?_<;>(try intro hgd)<;>try exact Xy))<;>simp -implicitDefEqProofs (maxSteps:=2000000) [hP,hN,h0,a1,a2,hmm,a3,a4,a5,a6]<;>try refine Ya ?_)|refine X2 ?_ ?_|(refine Xd ?_ ?_<;>intro hcd<;>try exact Xx))
end Go.Ab
namespace Go.Ab
open Go.Proofs
def keepW (w : List Int) (t : Int) (i : Nat) : List Int:=w.mapIdx fun j k=>if j < i then k - k * t / 256 else k
def lostW (w : List Int) (t : Int) : Nat→Int
 |0=>0
 |i+1=>lostW w t i+(w[i]?).getD 0 * t / 256
def gatW (w : List Int) (q : Nat) (t : Int) : List Int:=(keepW w t w.length).set q (((keepW w t w.length)[q]?).getD 0+lostW w t w.length)
theorem keepW_len (w : List Int) (t : Int) (i : Nat) : (keepW w t i).length=w.length:=by simp [keepW]
theorem keepW_get (w : List Int) (t : Int) (i j : Nat) : (keepW w t i)[j]?=(w[j]?).map fun k=>if j < i then k - k * t / 256 else k:=by simp [keepW,List.getElem?_mapIdx]
theorem keepW_zero (w : List Int) (t : Int) : keepW w t 0=w:=by
 apply List.ext_getElem?
 intro j
 rw [keepW_get];cases w[j]?<;>simp
theorem keepW_succ {w : List Int} {t : Int} {i : Nat} {k : Int} (hk : w[i]?=some k) : keepW w t (i+1)=(keepW w t i).set i (k - k * t / 256):=by
 apply List.ext_getElem?
 intro j
 rw [List.getElem?_set,keepW_get,keepW_get,keepW_len]
 by_cases e : i=j
 ·subst e
  obtain ⟨h,_⟩:=List.getElem?_eq_some_iff.1 hk
  rw [hk];simp [h]
 ·rw [if_neg e]
  cases w[j]? with
  |none=>rfl
  |some x=>
   simp only [Option.map_some]
   congr 1
   by_cases h : j < i
   ·rw [if_pos h,if_pos (by omega)]
   ·rw [if_neg h,if_neg (by omega)]
theorem wtot_sum (w : List Int) : ∀ i,wtot w i=(w.take i).sum
 |0=>by simp [wtot]
 |i+1=>by
  rw [List.take_succ]
  cases h : w[i]? with
  |none=>simp [wtot,h,wtot_sum w i]
  |some k=>simp [wtot,h,wtot_sum w i]
theorem wtot_all (w : List Int) : wtot w w.length=w.sum:=by rw [wtot_sum,List.take_length]
theorem sum_set {w : List Int} {q : Nat} {x y : Int} (h : w[q]?=some y) : (w.set q x).sum=w.sum - y+x:=by
 induction w generalizing q with
 |nil=>simp at h
 |cons a r ih=>
  cases q with
  |zero=>simp at h;subst h;simp;omega
  |succ q=>simp at h;simp only [List.set_cons_succ,List.sum_cons,ih h];omega
theorem keep_sum (w : List Int) (t : Int) : ∀ i,i≤w.length→(keepW w t i).sum=w.sum - lostW w t i
 |0,_=>by simp [keepW_zero,lostW]
 |i+1,h=>by
  have hk : w[i]?=some w[i]:=List.getElem?_eq_getElem (by omega)
  have hkk : (keepW w t i)[i]?=some w[i]:=by rw [keepW_get,hk];simp
  rw [keepW_succ hk,sum_set hkk,keep_sum w t i (by omega)]
  simp only [lostW,hk,Option.getD_some];omega
theorem gat_sum {w : List Int} {q : Nat} {t : Int} (hq : q < w.length) : (gatW w q t).sum=w.sum:=by
 have hlen:=keepW_len w t w.length
 have hk : (keepW w t w.length)[q]?=some ((keepW w t w.length)[q]'(by omega)):=List.getElem?_eq_getElem (by omega)
 unfold gatW
 rw [sum_set hk,keep_sum w t _ (Nat.le_refl _),hk]
 simp only [Option.getD_some];omega
theorem part_rng {k t : Int} (hk : 0≤k) (ht : 0≤t) (ht2 : t≤256) : 0≤k * t∧k * t≤k * 256∧0≤k * t / 256∧k * t / 256≤k:=by
 have h1 : 0≤k * t:=Int.mul_nonneg hk ht
 have h2 : k * t≤k * 256:=Int.mul_le_mul_of_nonneg_left ht2 hk
 omega
theorem lost_rng {w : List Int} {t : Int} (hw : ∀ k ∈ w,0≤k) (ht : 0≤t) (ht2 : t≤256) : ∀ i,0≤lostW w t i∧lostW w t i≤wtot w i
 |0=>by simp [lostW,wtot]
 |i+1=>by
  have ih:=lost_rng hw ht ht2 i
  cases h : w[i]? with
  |none=>simp [lostW,wtot,h];omega
  |some k=>
   have:=part_rng (hw k (List.mem_of_getElem? h)) ht ht2
   simp only [lostW,wtot,h,Option.getD_some];omega
theorem gat_len (w : List Int) (q : Nat) (t : Int) : (gatW w q t).length=w.length:=by simp [gatW,keepW_len]
theorem gat_ok {w : List Int} {q : Nat} {t : Int} (hw : WgOk w) (hq : q < w.length) (ht : 0≤t) (ht2 : t≤256) : WgOk (gatW w q t):=by
 constructor
 ·intro k hk
  obtain ⟨j,hj,rfl⟩:=List.mem_iff_getElem.1 hk
  have hjl : j < w.length:=by rw [gat_len] at hj;exact hj
  have hwj : w[j]?=some w[j]:=List.getElem?_eq_getElem hjl
  have hp:=part_rng (hw.pos _ (List.getElem_mem hjl)) ht ht2
  have hkj : (keepW w t w.length)[j]?=some (w[j] - w[j] * t / 256):=by rw [keepW_get,hwj];simp [hjl]
  have hl:=lost_rng hw.pos ht ht2 w.length
  generalize hx : (gatW w q t)[j]=x
  have hg : (gatW w q t)[j]?=some x:=by rw [List.getElem?_eq_getElem hj,hx]
  clear hx hk
  unfold gatW at hg
  rw [List.getElem?_set] at hg
  by_cases e : q=j
  ·subst e
   rw [if_pos rfl,if_pos (by rw [keepW_len];exact hjl),hkj] at hg
   simp only [Option.getD_some,Option.some.injEq] at hg
   omega
  ·rw [if_neg e,hkj] at hg
   simp only [Option.some.injEq] at hg
   omega
 ·rw [wtot_all,gat_sum hq,← wtot_all];exact hw.tot
set_option maxHeartbeats 16000000 in
theorem g130 (l : List Vc) (w : List Int) (q : Nat) (t : Int) (h8 : w.length≤8) (hw : WgOk w) (hq : q < w.length) (ht : 0≤t) (ht2 : t≤256) : DetG Tryz.prog 130 [.agg [.pv (vecs l),.arr 2000000 w.length],.pv (Z q),.pv (Z t)] [(2000000,.row 2 1 (w.map Z) 0)] [(2000000,.row 2 1 ((gatW w q t).map Z) 0)] (.tup []):=by
 refine detG_of Tryz.func130 rfl (by kernel_rfl) (by simp [Tryz.f130]) ?_ ?_
 ·constructor
  ·rfl
  ·simp
  ·intro k b h;simp at h;obtain ⟨rfl,rfl⟩:=h;rfl
  ·intro k b h;simp at h;obtain ⟨rfl,rfl⟩:=h;rfl
  ·intro k b b' h h'
   have e1:=asHp_mem h
   have e2:=asHp_mem h'
   simp at e1 e2
   obtain ⟨rfl,rfl⟩:=e1
   obtain ⟨_,rfl⟩:=e2
   simp [sameB,gat_len]
 intro C hP hN
 simp only [Tryz.f130] at hN ⊢
 with_reducible repeat' (first|refine Sp.h ?_|((first|refine Ss.h ?_|(refine Sb.h ?_ ?_ ?_<;>(try intro hgd)<;>try exact Xy))<;>simp -implicitDefEqProofs (maxSteps:=2000000) [hP,hN,stG,asHp])|refine X2 ?_ ?_|(refine Xd ?_ ?_<;>intro hcd<;>try exact Xx))
 refine WP.loopN [] w.length (fun i st=>st.t 3=.ptr 3 0∧st.h 3=some (.box [.pv (vecs l),.arr 2000000 w.length] true false)∧st.t 11=.arr 2000000 w.length∧st.t 12=.pv (Z w.length)∧st.t 13=.pv (Z i)∧st.t 6=.pv (Z (lostW w t i))∧st.t 1=.pv (Z q)∧st.t 2=.pv (Z t)∧st.h 2000000=some (.row 2 1 ((keepW w t i).map Z) 0)) (by simp [keepW_zero,lostW]) ?_
 rintro i st hi ⟨g3,hb3,g11,g12,g13,g6,g1,g2,hbR⟩
 have hlen:=keepW_len w t i
 by_cases hlt : i < w.length
 ·have hwr:=wr_succ hlt (by omega)
  generalize hxe : w[i]=k at *
  have hx : w[i]?=some k:=by rw [List.getElem?_eq_getElem hlt,hxe]
  have hkk : (keepW w t i)[i]?=some k:=by rw [keepW_get,hx];simp
  have hpos:=hw.pos k (List.mem_of_getElem? hx)
  have hp:=part_rng hpos ht ht2
  have hl1:=lost_rng hw.pos ht ht2 (i+1)
  have hl0:=lost_rng hw.pos ht ht2 i
  have hm:=wtot_mono hw.pos (show i+1≤w.length by omega)
  have htot:=hw.tot
  have hks:=keepW_succ (t:=t) hx
  have hlo : lostW w t (i+1)=lostW w t i+k * t / 256:=by simp only [lostW,hx,Option.getD_some]
  have hk1 : k≤65536:=by
   have a1:=wtot_get hx
   have a2:=wtot_pos hw.pos i
   omega
  rw [hlo] at hl1
  generalize lostW w t (i+1)=L' at *
  generalize lostW w t i=Lo at *
  generalize keepW w t (i+1)=R' at *
  generalize keepW w t i=R at *
  subst hlo;subst hks
  have u1 : IntKind.i64.wrap (k * t)=k * t:=wr_id (by omega) (by omega)
  have u2 : (k * t).tdiv 256=k * t / 256:=Int.tdiv_eq_ediv_of_nonneg (by omega)
  generalize k * t / 256=p at *
  have u3 : IntKind.i64.wrap p=p:=wr_id (by omega) (by omega)
  have u4 : IntKind.i64.wrap (k - p)=k - p:=wr_id (by omega) (by omega)
  have u5 : IntKind.i64.wrap (Lo+p)=Lo+p:=wr_id (by omega) (by omega)
  have hltR : i < R.length:=by omega
  have hxk : ∀ h,R[i]'h=k:=fun h=>by rw [List.getElem?_eq_getElem h] at hkk;exact Option.some.inj hkk
  with_reducible repeat' (first|refine Sp.h ?_|((first|refine Ss.h ?_|(refine Sb.h ?_ ?_ ?_<;>(try intro hgd)<;>try exact Xy))<;>simp -implicitDefEqProofs (maxSteps:=2000000) [hP,hN,g3,hb3,g11,g12,g13,g6,g1,g2,hbR,hlen,hlt,hltR,hkk,hxk,u1,u2,u3,u4,u5,hwr])|refine X2 ?_ ?_|(refine Xd ?_ ?_<;>intro hcd<;>try exact Xx))
 ·have hin : i=w.length:=by omega
  subst hin
  have hlR:=lost_rng hw.pos ht ht2 w.length
  have hok:=gat_ok hw hq ht ht2
  have hgd : gatW w q t=(keepW w t w.length).set q (((keepW w t w.length)[q]?).getD 0+lostW w t w.length):=rfl
  have hwq : w[q]?=some w[q]:=List.getElem?_eq_getElem hq
  have hpq:=part_rng (hw.pos _ (List.getElem_mem hq)) ht ht2
  have hkq : (keepW w t w.length)[q]?=some (w[q] - w[q] * t / 256):=by rw [keepW_get,hwq];simp [hq]
  have hwk : w[q]≤65536:=by
   have a1:=wtot_get hwq
   have a2:=wtot_pos hw.pos q
   have a3:=wtot_mono hw.pos (show q+1≤w.length by omega)
   have a4:=hw.tot
   omega
  have htot:=hw.tot
  rw [hkq] at hgd
  simp only [Option.getD_some] at hgd
  have hkr : 0≤w[q] - w[q] * t / 256∧w[q] - w[q] * t / 256≤65536:=by omega
  generalize w[q] - w[q] * t / 256=kq at *
  rw [hgd]
  generalize keepW w t w.length=R at *
  generalize lostW w t w.length=Lo at *
  have hltR : q < R.length:=by omega
  have hxk : ∀ h,R[q]'h=kq:=fun h=>by rw [List.getElem?_eq_getElem h] at hkq;exact Option.some.inj hkq
  have u5 : IntKind.i64.wrap (kq+Lo)=kq+Lo:=wr_id (by omega) (by omega)
  with_reducible repeat' (first|refine Sp.h ?_|((first|refine Ss.h ?_|(refine Sb.h ?_ ?_ ?_<;>(try intro hgd)<;>try exact Xy))<;>simp -implicitDefEqProofs (maxSteps:=2000000) [hP,hN,g3,hb3,g11,g12,g13,g6,g1,g2,hbR,hlen,hq,hltR,hkq,hxk,u5])|refine X2 ?_ ?_|(refine Xd ?_ ?_<;>intro hcd<;>try exact Xx))
  all_goals exact ⟨rfl,⟨_,rfl,_,rfl⟩,by intro kb h;simp at h;subst h;simp⟩
end Go.Ab
namespace Go.Ab
open Go.Proofs
def nrTot (A : List Vc) (w : List Int) (B' : List Vc) (v : List Int) : Vc:=nrSub (nrSum A w A.length) (nrSum B' v B'.length)
def nrX (t : Vc) : Vc:=(t.1.tdiv 65536,t.2.1.tdiv 65536,t.2.2.tdiv 65536)
structure NSt where
 w : List Int
 v : List Int
 n : Vc
 r : Nat
inductive NEnd where
 |stop (kind : Int) (s : NSt)
 |step (s : NSt)
def nrRound (A B' : List Vc) (rho : Int) (steps : Nat) (s : NSt) : NEnd:=
 if nrClose (nrTot A s.w B' s.v) rho=true then .stop 2 s
 else if nz (normalV (nrX (nrTot A s.w B' s.v)))=false then .stop 0 ⟨s.w,s.v,normalV (nrX (nrTot A s.w B' s.v)),s.r⟩
 else if normI (normalV (nrX (nrTot A s.w B' s.v))) * rho < (nrBest ltB (normalV (nrX (nrTot A s.w B' s.v))) A).1 - (nrBest gtB (normalV (nrX (nrTot A s.w B' s.v))) B').1 then .stop 1 ⟨s.w,s.v,normalV (nrX (nrTot A s.w B' s.v)),s.r⟩
 else if s.r=steps then .stop 0 ⟨s.w,s.v,normalV (nrX (nrTot A s.w B' s.v)),s.r⟩
 else if nrPart (nrX (nrTot A s.w B' s.v)) (nrSub ((A[(nrBest ltB (normalV (nrX (nrTot A s.w B' s.v))) A).2]?).getD (0,0,0)) ((B'[(nrBest gtB (normalV (nrX (nrTot A s.w B' s.v))) B').2]?).getD (0,0,0)))=0 then .stop 0 ⟨s.w,s.v,normalV (nrX (nrTot A s.w B' s.v)),s.r⟩
 else .step ⟨gatW s.w (nrBest ltB (normalV (nrX (nrTot A s.w B' s.v))) A).2 (nrPart (nrX (nrTot A s.w B' s.v)) (nrSub ((A[(nrBest ltB (normalV (nrX (nrTot A s.w B' s.v))) A).2]?).getD (0,0,0)) ((B'[(nrBest gtB (normalV (nrX (nrTot A s.w B' s.v))) B').2]?).getD (0,0,0)))),gatW s.v (nrBest gtB (normalV (nrX (nrTot A s.w B' s.v))) B').2 (nrPart (nrX (nrTot A s.w B' s.v)) (nrSub ((A[(nrBest ltB (normalV (nrX (nrTot A s.w B' s.v))) A).2]?).getD (0,0,0)) ((B'[(nrBest gtB (normalV (nrX (nrTot A s.w B' s.v))) B').2]?).getD (0,0,0)))),normalV (nrX (nrTot A s.w B' s.v)),s.r+1⟩
def nrRun (A B' : List Vc) (rho : Int) (steps : Nat) : Nat→NSt→Int × NSt
 |0,s=>(0,s)
 |f+1,s=>match nrRound A B' rho steps s with
  |.stop k s'=>(k,s')
  |.step s'=>nrRun A B' rho steps f s'
theorem nrX_sm {t : Vc} (h : smV 35184372088832 t) : smV 536870912 (nrX t):=by
 have h1 : ∀ x : Int,-35184372088832≤x∧x≤35184372088832→-536870912≤x.tdiv 65536∧x.tdiv 65536≤536870912:=fun x hx=>by
  rcases Int.le_total 0 x with h0|h0
  ·rw [Int.tdiv_eq_ediv_of_nonneg h0];omega
  ·have e : x.tdiv 65536=-((-x).tdiv 65536):=by rw [Int.neg_tdiv,Int.neg_neg]
   rw [e,Int.tdiv_eq_ediv_of_nonneg (by omega)];omega
 exact ⟨h1 _ h.1,h1 _ h.2.1,h1 _ h.2.2⟩
structure NsOk (A B' : List Vc) (s : NSt) : Prop where
 w : WgOk s.w
 v : WgOk s.v
 wl : s.w.length=A.length
 vl : s.v.length=B'.length
theorem nusB_iff {l : List Vc} : nusB l=true↔1≤l.length∧l.length≤8∧l.all (nearV 268435456)=true:=by
 simp only [nusB,Bool.and_eq_true,decide_eq_true_eq,and_assoc]
theorem nrTot_sm {A B' : List Vc} {s : NSt} (hA : nusB A=true) (hB : nusB B'=true) (hs : NsOk A B' s) : smV 35184372088832 (nrTot A s.w B' s.v):=by
 rw [nusB_iff] at hA hB
 have h1:=nrSum_sm hA.2.2 hs.w A.length (by rw [hs.wl];exact Nat.le_refl _)
 have h2:=nrSum_sm hB.2.2 hs.v B'.length (by rw [hs.vl];exact Nat.le_refl _)
 exact nrSub_sm h1 h2
theorem nrBest_lt {bet : Int→Int→Bool} {n : Vc} {l : List Vc} (hl : 1≤l.length) : (nrBest bet n l).2 < l.length:=nrOpt_lt hl _
abbrev nsC (A : List Vc) (nw : Nat) (B' : List Vc) (nv : Nat) (n : Vc) (r : Nat) : List AV:=[.pv (vecs A),.arr 2000000 nw,.pv (vecs B'),.arr 2000001 nv,.pv (Z n.1),.pv (Z n.2.1),.pv (Z n.2.2),.pv (Z r)]
abbrev nsG (A B' : List Vc) (s : NSt) : List (Nat × Blk):=[(1000000,.box (nsC A s.w.length B' s.v.length s.n s.r) false false),(2000000,.row 2 1 (s.w.map Z) 0),(2000001,.row 2 1 (s.v.map Z) 0)]
theorem normV_near : ∀ (k : Nat) (v : Vc),smV (16384 * ((2 ^ k : Nat) : Int)) v→nearV 16384 (normV k v)=true
 |0,v,h=>by
  obtain ⟨h1,h2,h3⟩:=h
  simp only [normV]
  rw [nearV_iff,inB_iff,inB_iff,inB_iff]
  simp only [Nat.pow_zero] at h1 h2 h3
  exact ⟨by omega,by omega,by omega⟩
 |k+1,v,h=>by
  simp only [normV]
  split
  ·assumption
  ·refine normV_near k _ (smV_half ?_)
   have e : 2 * (16384 * ((2 ^ k : Nat) : Int))=16384 * ((2 ^ (k+1) : Nat) : Int):=by rw [Nat.pow_succ];omega
   rw [e];exact h
theorem norm_near (v : Vc) (h : smV 1099511627776 v) : nearV 16384 (normalV v)=true:=normV_near 64 v (sm_to h (by decide))
theorem nrRound_ok {A B' : List Vc} {rho : Int} {steps : Nat} {s : NSt} (hA : nusB A=true) (hB : nusB B'=true) (hs : NsOk A B' s) : (∀ k s',nrRound A B' rho steps s=.stop k s'→NsOk A B' s')∧∀ s',nrRound A B' rho steps s=.step s'→NsOk A B' s':=by
 rw [nusB_iff] at hA hB
 unfold nrRound
 refine ⟨fun k s' h=>?_,fun s' h=>?_⟩
 ·repeat' split at h
  all_goals first
   |(injection h with _ h;subst h;exact hs)
   |(injection h with _ h;subst h;exact ⟨hs.w,hs.v,hs.wl,hs.vl⟩)
   |cases h
 ·repeat' split at h
  all_goals first
   |cases h;done
   |(injection h with h
     subst h
     exact ⟨gat_ok hs.w (by rw [hs.wl];exact nrBest_lt hA.1) (nrPart_rng _ _).1 (nrPart_rng _ _).2,gat_ok hs.v (by rw [hs.vl];exact nrBest_lt hB.1) (nrPart_rng _ _).1 (nrPart_rng _ _).2,by rw [gat_len];exact hs.wl,by rw [gat_len];exact hs.vl⟩)
theorem nrRun_ok {A B' : List Vc} {rho : Int} {steps : Nat} (hA : nusB A=true) (hB : nusB B'=true) : ∀ (f : Nat) (s : NSt),NsOk A B' s→NsOk A B' (nrRun A B' rho steps f s).2
 |0,s,hs=>hs
 |f+1,s,hs=>by
  have h:=nrRound_ok (rho:=rho) (steps:=steps) hA hB hs
  simp only [nrRun]
  split
  ·rename_i k s' e;exact h.1 _ _ e
  ·rename_i s' e;exact nrRun_ok hA hB f s' (h.2 _ e)
theorem nrDot_box {n p : Vc} (hn : smV 16384 n) (hp : smV 268435456 p) : -13194139533312≤nrDot n p∧nrDot n p≤13194139533312:=by
 obtain ⟨r1,r2,r3⟩:=nrDot_rng (m:=16384) (n:=268435456) hn hp
 unfold nrDot;omega
theorem nrOpt_rng {bet : Int→Int→Bool} {n p0 : Vc} {l : List Vc} (hn : smV 16384 n) (hp : smV 268435456 p0) (hl : l.all (nearV 268435456)=true) : ∀ i,-13194139533312≤(nrOpt bet n p0 l i).1∧(nrOpt bet n p0 l i).1≤13194139533312
 |0=>nrDot_box hn hp
 |i+1=>by
  have ih:=nrOpt_rng (bet:=bet) hn hp hl i
  simp only [nrOpt]
  split
  ·rename_i v hv
   have:=nrDot_box hn (near_sm (List.all_eq_true.1 hl v (List.mem_of_getElem? hv)))
   split
   ·exact this
   ·exact ih
  ·exact ih
theorem near16 {v : Vc} (h : nearV 16384 v=true) : smV 16384 v:=by
 rw [nearV_iff,inB_iff,inB_iff,inB_iff] at h
 exact ⟨⟨by omega,by omega⟩,⟨by omega,by omega⟩,⟨by omega,by omega⟩⟩
theorem nrBest_rng {bet : Int→Int→Bool} {n : Vc} {l : List Vc} (hn : nearV 16384 n=true) (hl : l.all (nearV 268435456)=true) : -13194139533312≤(nrBest bet n l).1∧(nrBest bet n l).1≤13194139533312:=by
 refine nrOpt_rng (near16 hn) ?_ hl _
 cases h : l[0]? with
 |none=>simp [smV]
 |some p=>exact near_sm (List.all_eq_true.1 hl p (List.mem_of_getElem? h))
theorem nsG_ok {A B' : List Vc} {s s' : NSt} (hs : NsOk A B' s) (hs' : NsOk A B' s') : OkG (nsG A B' s) (nsG A B' s'):=by
 constructor
 ·rfl
 ·simp
 ·intro k b h
  simp only [List.mem_cons,Prod.mk.injEq,List.not_mem_nil,or_false] at h
  rcases h with ⟨rfl,rfl⟩|⟨rfl,rfl⟩|⟨rfl,rfl⟩
  all_goals (simp [okBG,okG1])
 ·intro k b h
  simp only [List.mem_cons,Prod.mk.injEq,List.not_mem_nil,or_false] at h
  rcases h with ⟨rfl,rfl⟩|⟨rfl,rfl⟩|⟨rfl,rfl⟩
  all_goals (simp [okBG,okG1])
 ·intro k b b' h h'
  have e1:=asHp_mem h
  have e2:=asHp_mem h'
  simp only [List.mem_cons,Prod.mk.injEq,List.not_mem_nil,or_false] at e1 e2
  rcases e1 with ⟨rfl,rfl⟩|⟨rfl,rfl⟩|⟨rfl,rfl⟩
  ·rcases e2 with ⟨_,rfl⟩|⟨e,_⟩|⟨e,_⟩
   ·rfl
   ·exact absurd e (by decide)
   ·exact absurd e (by decide)
  ·rcases e2 with ⟨e,_⟩|⟨_,rfl⟩|⟨e,_⟩
   ·exact absurd e (by decide)
   ·simp [sameB,hs.wl,hs'.wl]
   ·exact absurd e (by decide)
  ·rcases e2 with ⟨e,_⟩|⟨e,_⟩|⟨_,rfl⟩
   ·exact absurd e (by decide)
   ·exact absurd e (by decide)
   ·simp [sameB,hs.vl,hs'.vl]
set_option maxHeartbeats 32000000 in
set_option maxRecDepth 4000 in
theorem g77 (A B' : List Vc) (rho : Int) (steps : Nat) (s0 : NSt) (hA : nusB A=true) (hB : nusB B'=true) (hr : 0≤rho∧rho≤2097152) (hst : steps≤64) (hs : NsOk A B' s0) (h0 : s0.r=0) : DetG Tryz.prog 77 [.ptr 1000000 0,.pv (Z rho),.pv (Z steps)] (nsG A B' s0) (nsG A B' (nrRun A B' rho steps (steps+1) s0).2) (Z (nrRun A B' rho steps (steps+1) s0).1):=by
 have hend:=nrRun_ok (rho:=rho) (steps:=steps) hA hB (steps+1) s0 hs
 generalize hRR : nrRun A B' rho steps (steps+1) s0=RR at *
 have hA':=nusB_iff.1 hA
 have hB':=nusB_iff.1 hB
 refine detG_of Tryz.func77 rfl (by kernel_rfl) (by simp [Tryz.f77]) (nsG_ok hs hend) ?_
 intro C hP hN
 simp only [Tryz.f77] at hN ⊢
 with_reducible repeat' (first|refine Sp.h ?_|((first|refine Wd ?_|refine Ss.h ?_|(refine Sb.h ?_ ?_ ?_<;>(try intro hgd)<;>try exact Xy))<;>simp -implicitDefEqProofs (maxSteps:=2000000) [hP,hN,stG,asHp]<;>try refine Ya ?_)|refine X2 ?_ ?_|(refine Xd ?_ ?_<;>intro hcd<;>try exact Xx))
 refine WP.loopN [7,8,9] steps (fun i st=>∃ s : NSt,NsOk A B' s∧s.r=i∧nrRun A B' rho steps (steps+1 - i) s=RR∧st.t 0=.ptr 1000000 0∧st.t 1=.pv (Z rho)∧st.t 2=.pv (Z steps)∧st.h 7=none∧st.h 8=none∧st.h 9=none∧st.h 1000000=some (.box (nsC A s.w.length B' s.v.length s.n s.r) false false)∧st.h 2000000=some (.row 2 1 (s.w.map Z) 0)∧st.h 2000001=some (.row 2 1 (s.v.map Z) 0)) (by refine ⟨s0,hs,h0,hRR,?_⟩;simp) ?_
 rintro i st hi ⟨s,hs,hsr,hrun,g0,g1,g2,hb7,hb8,hb9,hbS,hbW,hbV⟩
 have hTs:=nrTot_sm hA hB hs
 have hXs:=nrX_sm hTs
 have hXs2:=sm_to hXs (show (536870912 : Int)≤1099511627776 by decide)
 have hnn:=norm_near _ hXs2
 rw [show steps+1 - i=(steps - i)+1 by omega] at hrun
 simp only [nrRun] at hrun
 have hRo : nrRound A B' rho steps s=_:=rfl
 conv at hRo=>rhs;unfold nrRound
 have c1:=d124 A s.w hA'.2.1 hs.wl hA'.2.2 hs.w
 have c2:=d124 B' s.v hB'.2.1 hs.vl hB'.2.2 hs.v
 have hS1:=nrSum_sm hA'.2.2 hs.w A.length (by rw [hs.wl];exact Nat.le_refl _)
 have hS2:=nrSum_sm hB'.2.2 hs.v B'.length (by rw [hs.vl];exact Nat.le_refl _)
 have c3:=d123 _ _ (sm_to hS1 (by decide)) (sm_to hS2 (by decide))
 have hTd : nrSub (nrSum A s.w A.length) (nrSum B' s.v B'.length)=nrTot A s.w B' s.v:=rfl
 rw [hTd] at c3
 have c4:=d125 _ rho hTs hr
 have hRk:=nrRound_ok (rho:=rho) (steps:=steps) hA hB hs
 generalize nrTot A s.w B' s.v=T at *
 have c5:=d126 _ hXs2
 have hXd : nrX T=(T.1.tdiv 65536,T.2.1.tdiv 65536,T.2.2.tdiv 65536):=rfl
 cases hcl : nrClose T rho with
 |true=>
  rw [hcl] at c4
  rw [if_pos hcl] at hRo
  rw [hRo] at hrun
  simp only at hrun
  subst hrun
  with_reducible repeat' (first|refine Sp.h ?_|((first|refine Wd ?_|refine Ss.h ?_|refine Sc.h (c1) ?_|refine Sc.h (c2) ?_|refine Sc.h (c3) ?_|refine Sc.h (c4) ?_|(refine Sb.h ?_ ?_ ?_<;>(try intro hgd)<;>try exact Xy))<;>simp -implicitDefEqProofs (maxSteps:=2000000) [hP,hN,g0,g1,g2,hb7,hb8,hb9,hbS,hbW,hbV]<;>try refine Ya ?_)|refine X2 ?_ ?_|(refine Xd ?_ ?_<;>intro hcd<;>try exact Xx))
  all_goals exact ⟨rfl,⟨_,rfl,_,rfl⟩,by intro kb h;simp only [List.mem_cons,List.not_mem_nil,or_false] at h;rcases h with rfl|rfl|rfl<;>simp [hbS,hbW,hbV]⟩
 |false=>
  rw [hcl] at c4
  rw [if_neg (by rw [hcl];simp)] at hRo
  have e1 : IntKind.i64.wrap (T.1.tdiv 65536)=T.1.tdiv 65536:=by have:=hXs.1;rw [hXd] at this;simp only at this;exact wr_id (by omega) (by omega)
  have e2 : IntKind.i64.wrap (T.2.1.tdiv 65536)=T.2.1.tdiv 65536:=by have:=hXs.2.1;rw [hXd] at this;simp only at this;exact wr_id (by omega) (by omega)
  have e3 : IntKind.i64.wrap (T.2.2.tdiv 65536)=T.2.2.tdiv 65536:=by have:=hXs.2.2;rw [hXd] at this;simp only at this;exact wr_id (by omega) (by omega)
  generalize normalV (nrX T)=n at *
  cases hnz : nz n with
  |false=>
   rw [if_pos hnz] at hRo
   rw [hRo] at hrun
   simp only at hrun
   subst hrun
   rw [hnz,hXd] at c5
   with_reducible repeat' (first|refine Sp.h ?_|((first|refine Wd ?_|refine Ss.h ?_|refine Sc.h (c1) ?_|refine Sc.h (c2) ?_|refine Sc.h (c3) ?_|refine Sc.h (c4) ?_|refine Sc.h (c5) ?_|(refine Sb.h ?_ ?_ ?_<;>(try intro hgd)<;>try exact Xy))<;>simp -implicitDefEqProofs (maxSteps:=2000000) [hP,hN,g0,g1,g2,hb7,hb8,hb9,hbS,hbW,hbV,e1,e2,e3]<;>try refine Ya ?_)|refine X2 ?_ ?_|(refine Xd ?_ ?_<;>intro hcd<;>try exact Xx))
   all_goals exact ⟨rfl,⟨_,rfl,_,rfl⟩,by intro kb h;simp only [List.mem_cons,List.not_mem_nil,or_false] at h;rcases h with rfl|rfl|rfl<;>simp [hbS,hbW,hbV]⟩
  |true=>
   rw [if_neg (by rw [hnz];simp)] at hRo
   have c6:=d127 n A s.w hnn hA'.1 hA'.2.1 hA'.2.2
   have c7:=d128 n B' s.v hnn hB'.1 hB'.2.1 hB'.2.2
   have c8:=d65 n
   have hq:=norm_rng n
   have l1:=nrBest_rng (bet:=ltB) hnn hA'.2.2
   have l2:=nrBest_rng (bet:=gtB) hnn hB'.2.2
   have i1:=nrBest_lt (bet:=ltB) (n:=n) hA'.1
   have i2:=nrBest_lt (bet:=gtB) (n:=n) hB'.1
   generalize nrBest ltB n A=lo at *
   generalize nrBest gtB n B'=hi' at *
   generalize normI n=q at *
   have hqr:=mul_rng (a:=q) (b:=rho) 32768 2097152 (by omega) (by omega) (by omega) (by omega)
   have e4 : IntKind.i64.wrap (lo.1 - hi'.1)=lo.1 - hi'.1:=wr_id (by omega) (by omega)
   have e5 : IntKind.i64.wrap (q * rho)=q * rho:=wr_id (by omega) (by omega)
   generalize hpp : q * rho=qr at *
   obtain ⟨pa,hpa⟩ : ∃ x,A[lo.2]?=some x:=⟨_,List.getElem?_eq_getElem i1⟩
   obtain ⟨pb,hpb⟩ : ∃ x,B'[hi'.2]?=some x:=⟨_,List.getElem?_eq_getElem i2⟩
   have hxa : ∀ h,A[lo.2]'h=pa:=fun h=>by rw [List.getElem?_eq_getElem h] at hpa;exact Option.some.inj hpa
   have hxb : ∀ h,B'[hi'.2]'h=pb:=fun h=>by rw [List.getElem?_eq_getElem h] at hpb;exact Option.some.inj hpb
   have sa:=near_sm (List.all_eq_true.1 hA'.2.2 pa (List.mem_of_getElem? hpa))
   have sb:=near_sm (List.all_eq_true.1 hB'.2.2 pb (List.mem_of_getElem? hpb))
   have c9:=d123 pa pb (sm_to sa (by decide)) (sm_to sb (by decide))
   have sab:=nrSub_sm sa sb
   have c10:=d129 (nrX T) (nrSub pa pb) hXs sab
   have htr:=nrPart_rng (nrX T) (nrSub pa pb)
   rw [hpa,hpb] at hRo
   simp only [Option.getD_some] at hRo
   generalize nrPart (nrX T) (nrSub pa pb)=t at *
   generalize nrSub pa pb=pab at *
   rw [hXd] at c5 c10
   rw [hnz] at c5
   by_cases hsep : qr < lo.1 - hi'.1
   ·rw [if_pos hsep] at hRo
    rw [hRo] at hrun
    simp only at hrun
    subst hrun
    with_reducible repeat' (first|refine Sp.h ?_|((first|refine Wd ?_|refine Ss.h ?_|refine Sc.h (c1) ?_|refine Sc.h (c2) ?_|refine Sc.h (c3) ?_|refine Sc.h (c4) ?_|refine Sc.h (c5) ?_|refine Sc.h (c6) ?_|refine Sc.h (c7) ?_|refine Sc.h (c8) ?_|(refine Sb.h ?_ ?_ ?_<;>(try intro hgd)<;>try exact Xy))<;>simp -implicitDefEqProofs (maxSteps:=2000000) [hP,hN,g0,g1,g2,hb7,hb8,hb9,hbS,hbW,hbV,e1,e2,e3,e4,e5,hpp,hsep]<;>try refine Ya ?_)|refine X2 ?_ ?_|(refine Xd ?_ ?_<;>intro hcd<;>try exact Xx))
    all_goals exact ⟨rfl,⟨_,rfl,_,rfl⟩,by intro kb h;simp only [List.mem_cons,List.not_mem_nil,or_false] at h;rcases h with rfl|rfl|rfl<;>simp [hbS,hbW,hbV]⟩
   rw [if_neg hsep] at hRo
   by_cases hstp : s.r=steps
   ·rw [if_pos hstp] at hRo
    rw [hRo] at hrun
    simp only at hrun
    subst hrun
    have hst2 : ((s.r : Int)==(steps : Int))=true:=by simp;omega
    with_reducible repeat' (first|refine Sp.h ?_|((first|refine Wd ?_|refine Ss.h ?_|refine Sc.h (c1) ?_|refine Sc.h (c2) ?_|refine Sc.h (c3) ?_|refine Sc.h (c4) ?_|refine Sc.h (c5) ?_|refine Sc.h (c6) ?_|refine Sc.h (c7) ?_|refine Sc.h (c8) ?_|(refine Sb.h ?_ ?_ ?_<;>(try intro hgd)<;>try exact Xy))<;>simp -implicitDefEqProofs (maxSteps:=2000000) [hP,hN,g0,g1,g2,hb7,hb8,hb9,hbS,hbW,hbV,e1,e2,e3,e4,e5,hpp,hsep,hst2]<;>try refine Ya ?_)|refine X2 ?_ ?_|(refine Xd ?_ ?_<;>intro hcd<;>try exact Xx))
    all_goals exact ⟨rfl,⟨_,rfl,_,rfl⟩,by intro kb h;simp only [List.mem_cons,List.not_mem_nil,or_false] at h;rcases h with rfl|rfl|rfl<;>simp [hbS,hbW,hbV]⟩
   rw [if_neg hstp] at hRo
   have hst2 : ((s.r : Int)==(steps : Int))=false:=by simp;omega
   by_cases ht0 : t=0
   ·rw [if_pos ht0] at hRo
    rw [hRo] at hrun
    simp only at hrun
    subst hrun
    with_reducible repeat' (first|refine Sp.h ?_|((first|refine Wd ?_|refine Ss.h ?_|refine Sc.h (c1) ?_|refine Sc.h (c2) ?_|refine Sc.h (c3) ?_|refine Sc.h (c4) ?_|refine Sc.h (c5) ?_|refine Sc.h (c6) ?_|refine Sc.h (c7) ?_|refine Sc.h (c8) ?_|refine Sc.h (c9) ?_|refine Sc.h (c10) ?_|(refine Sb.h ?_ ?_ ?_<;>(try intro hgd)<;>try exact Xy))<;>simp -implicitDefEqProofs (maxSteps:=2000000) [hP,hN,g0,g1,g2,hb7,hb8,hb9,hbS,hbW,hbV,e1,e2,e3,e4,e5,hpp,hsep,hst2,hpa,hpb,hxa,hxb,i1,i2,ht0]<;>try refine Ya ?_)|refine X2 ?_ ?_|(refine Xd ?_ ?_<;>intro hcd<;>try exact Xx))
    all_goals exact ⟨rfl,⟨_,rfl,_,rfl⟩,by intro kb h;simp only [List.mem_cons,List.not_mem_nil,or_false] at h;rcases h with rfl|rfl|rfl<;>simp [hbS,hbW,hbV]⟩
   rw [if_neg ht0] at hRo
   have hok:=hRk.2 _ hRo
   rw [hRo] at hrun
   simp only at hrun
   have ht2 : (t==0)=false:=by simp;omega
   have hgL:=g130 A s.w lo.2 t (by rw [hs.wl];exact hA'.2.1) hs.w (by rw [hs.wl];exact i1) htr.1 htr.2
   have hgR:=g130 B' s.v hi'.2 t (by rw [hs.vl];exact hB'.2.1) hs.v (by rw [hs.vl];exact i2) htr.1 htr.2
   with_reducible repeat' (first|refine Sp.h ?_|((refine WP.share (hn:=[]) (pre:=[_,_,_,_,_,_,_]) (post:=[]) rfl rfl rfl ?_);simp -implicitDefEqProofs (maxSteps:=2000000) [hP,hN,g0,g1,g2,hb7,hb8,hb9,hbS,hbW,hbV,e1,e2,e3,e4,e5,hpp,hsep,hst2,hpa,hpb,hxa,hxb,i1,i2,ht0,ht2])|((first|refine Wd ?_|refine Ss.h ?_|refine Sc.h (c1) ?_|refine Sc.h (c2) ?_|refine Sc.h (c3) ?_|refine Sc.h (c4) ?_|refine Sc.h (c5) ?_|refine Sc.h (c6) ?_|refine Sc.h (c7) ?_|refine Sc.h (c8) ?_|refine Sc.h (c9) ?_|refine Sc.h (c10) ?_|(refine Sb.h ?_ ?_ ?_<;>(try intro hgd)<;>try exact Xy))<;>simp -implicitDefEqProofs (maxSteps:=2000000) [hP,hN,g0,g1,g2,hb7,hb8,hb9,hbS,hbW,hbV,e1,e2,e3,e4,e5,hpp,hsep,hst2,hpa,hpb,hxa,hxb,i1,i2,ht0,ht2]<;>try refine Ya ?_)|refine X2 ?_ ?_|(refine Xd ?_ ?_<;>intro hcd<;>try exact Xx))
   simp only [ShareK,hP]
   refine ⟨_,_,_,_,_,fun _=>2000000,rfl,hgL,rfl,?_⟩
   refine ⟨by simp [renA,renA1],by simp [okG,okG1],by simp,by intro kb h;simp only [List.mem_cons,List.not_mem_nil,or_false] at h;subst h;simp [hbW,renB],by rw [hN];rfl,?_⟩
   simp -implicitDefEqProofs (maxSteps:=2000000) [hP,hN,shareW,renB,evR,hbW]
   with_reducible repeat' (first|refine Sp.h ?_|((refine WP.share (hn:=[]) (pre:=[_,_,_,_,_,_,_]) (post:=[]) rfl rfl rfl ?_);simp -implicitDefEqProofs (maxSteps:=2000000) [hP,hN,g0,g1,g2,hb7,hb8,hb9,hbS,hbW,hbV,shareW,renB,e1,e2,e3,e4,e5,hpp,hsep,hst2,hpa,hpb,hxa,hxb,i1,i2,ht0,ht2])|((first|refine Wd ?_|refine Ss.h ?_|refine Sc.h (c1) ?_|refine Sc.h (c2) ?_|refine Sc.h (c3) ?_|refine Sc.h (c4) ?_|refine Sc.h (c5) ?_|refine Sc.h (c6) ?_|refine Sc.h (c7) ?_|refine Sc.h (c8) ?_|refine Sc.h (c9) ?_|refine Sc.h (c10) ?_|(refine Sb.h ?_ ?_ ?_<;>(try intro hgd)<;>try exact Xy))<;>simp -implicitDefEqProofs (maxSteps:=2000000) [hP,hN,g0,g1,g2,hb7,hb8,hb9,hbS,hbW,hbV,shareW,renB,e1,e2,e3,e4,e5,hpp,hsep,hst2,hpa,hpb,hxa,hxb,i1,i2,ht0,ht2]<;>try refine Ya ?_)|refine X2 ?_ ?_|(refine Xd ?_ ?_<;>intro hcd<;>try exact Xx))
   simp only [ShareK,hP]
   refine ⟨_,_,_,_,_,fun _=>2000001,rfl,hgR,rfl,?_⟩
   refine ⟨by simp [renA,renA1],by simp [okG,okG1],by simp,by intro kb h;simp only [List.mem_cons,List.not_mem_nil,or_false] at h;subst h;simp [hbV,renB],by rw [hN];rfl,?_⟩
   simp -implicitDefEqProofs (maxSteps:=2000000) [hP,hN,shareW,renB,evR,hbW,hbV]
   have hwr : IntKind.i64.wrap ((s.r : Int)+1)=(s.r : Int)+1:=wr_id (by omega) (by omega)
   with_reducible repeat' (first|refine Sp.h ?_|((first|refine Wd ?_|refine Ss.h ?_|refine Sc.h (c1) ?_|(refine Sb.h ?_ ?_ ?_<;>(try intro hgd)<;>try exact Xy))<;>simp -implicitDefEqProofs (maxSteps:=2000000) [hP,hN,g0,g1,g2,hb7,hb8,hb9,hbS,hbW,hbV,hwr,shareW,renB,e1,e2,e3,e4,e5,hpp,hsep,hst2,hpa,hpb,hxa,hxb,i1,i2,ht0,ht2]<;>try refine Ya ?_)|refine X2 ?_ ?_|(refine Xd ?_ ?_<;>intro hcd<;>try exact Xx))
   refine ⟨by omega,⟨gatW s.w lo.2 t,gatW s.v hi'.2 t,n,s.r+1⟩,hok,by simp only;omega,hrun,⟨(gat_len _ _ _).symm,(gat_len _ _ _).symm,rfl,rfl,rfl,by simp only;omega⟩,rfl,rfl⟩
end Go.Ab
namespace Go.Ab
open Go.Proofs
def ns0 (a b : List Vc) : NSt:=⟨(List.replicate a.length 0).set 0 65536,(List.replicate b.length 0).set 0 65536,(0,0,0),0⟩
theorem w0_ok {n : Nat} (h : 1≤n) : WgOk ((List.replicate n 0).set 0 65536):=by
 constructor
 ·intro k hk
  rcases List.mem_or_eq_of_mem_set hk with h|rfl
  ·have:=List.eq_of_mem_replicate h;omega
  ·decide
 ·rw [wtot_all,sum_set (y:=0) (by rw [List.getElem?_replicate,if_pos (by omega)])]
  have : (List.replicate n (0 : Int)).sum=0:=by simp
  omega
theorem ns0_ok {a b : List Vc} (ha : 1≤a.length) (hb : 1≤b.length) : NsOk a b (ns0 a b):=⟨w0_ok ha,w0_ok hb,by simp [ns0],by simp [ns0]⟩
def nrOkB (a b : List Vc) (rho steps : Int) : Bool:=nusB a && nusB b && fromB rho 0 2097152 && fromB steps 0 64
def nrRes (a b : List Vc) (rho steps : Int) : Int × NSt:=if nrOkB a b rho steps then nrRun a b rho steps.toNat (steps.toNat+1) (ns0 a b) else (0,⟨[],[],(0,0,0),0⟩)
abbrev encNr (x : Int × NSt) : PV:=.agg [Z x.1,Z x.2.n.1,Z x.2.n.2.1,Z x.2.n.2.2,zs x.2.w,zs x.2.v,Z x.2.r]
set_option maxHeartbeats 16000000 in
theorem d41 (a b : List Vc) (rho steps : Int) (ha : a.length≤9223372036854775807) (hb : b.length≤9223372036854775807) : DetH Tryz.prog 41 [.pv (vecs a),.pv (vecs b),.pv (Z rho),.pv (Z steps)] [] [] (.pv (encNr (nrRes a b rho steps))):=by
 have cua:=d75 a ha
 have cub:=d75 b hb
 have hB : nrOkB a b rho steps=(nusB a && nusB b && fromB rho 0 2097152 && fromB steps 0 64):=rfl
 have hR : nrRes a b rho steps=if nrOkB a b rho steps then nrRun a b rho steps.toNat (steps.toNat+1) (ns0 a b) else (0,⟨[],[],(0,0,0),0⟩):=rfl
 cases hua : nusB a with
 |false=>
  rw [hua] at cua hB
  simp only [Bool.false_and] at hB
  rw [hB] at hR
  simp only [Bool.false_eq_true,if_false] at hR
  rw [hR]
  refine detP_of Tryz.func41 rfl (by kernel_rfl) (by simp [Tryz.f41]) rfl ?_
  intro C hP hN
  simp only [Tryz.f41] at hN ⊢
  with_reducible repeat' (first|refine Sp.h ?_|((first|refine Ss.h ?_|refine Sc.h (cua) ?_|refine Sc.h (cub) ?_|(refine Sb.h ?_ ?_ ?_<;>(try intro hgd)<;>try exact Xy))<;>simp -implicitDefEqProofs (maxSteps:=2000000) [hP,hN])|refine X2 ?_ ?_|(refine Xd ?_ ?_<;>intro hcd<;>try exact Xx))
 |true=>
 cases hub : nusB b with
 |false=>
  rw [hua] at cua hB
  rw [hub] at cub hB
  simp only [Bool.and_false,Bool.false_and] at hB
  rw [hB] at hR
  simp only [Bool.false_eq_true,if_false] at hR
  rw [hR]
  refine detP_of Tryz.func41 rfl (by kernel_rfl) (by simp [Tryz.f41]) rfl ?_
  intro C hP hN
  simp only [Tryz.f41] at hN ⊢
  with_reducible repeat' (first|refine Sp.h ?_|((first|refine Ss.h ?_|refine Sc.h (cua) ?_|refine Sc.h (cub) ?_|(refine Sb.h ?_ ?_ ?_<;>(try intro hgd)<;>try exact Xy))<;>simp -implicitDefEqProofs (maxSteps:=2000000) [hP,hN])|refine X2 ?_ ?_|(refine Xd ?_ ?_<;>intro hcd<;>try exact Xx))
 |true=>
 rw [hua] at cua hB
 rw [hub] at cub hB
 simp only [Bool.and_self,Bool.true_and] at hB
 by_cases hg : rho < 0∨2097152 < rho∨steps < 0∨64 < steps
 ·have hf : (fromB rho 0 2097152 && fromB steps 0 64)=false:=by
   simp only [fromB]
   rcases hg with h|h|h|h
   ·rw [decide_eq_false (show ¬ 0≤rho by omega)];simp
   ·rw [decide_eq_false (show ¬ rho≤2097152 by omega)];simp
   ·rw [decide_eq_false (show ¬ 0≤steps by omega)];simp
   ·rw [decide_eq_false (show ¬ steps≤64 by omega)];simp
  rw [hf] at hB
  rw [hB] at hR
  simp only [Bool.false_eq_true,if_false] at hR
  rw [hR]
  rcases hg with h|h|h|h
  ·skip
   refine detP_of Tryz.func41 rfl (by kernel_rfl) (by simp [Tryz.f41]) rfl ?_
   intro C hP hN
   simp only [Tryz.f41] at hN ⊢
   with_reducible repeat' (first|refine Sp.h ?_|((first|refine Ss.h ?_|refine Sc.h (cua) ?_|refine Sc.h (cub) ?_|(refine Sb.h ?_ ?_ ?_<;>(try intro hgd)<;>try exact Xy))<;>simp -implicitDefEqProofs (maxSteps:=2000000) [hP,hN,h])|refine X2 ?_ ?_|(refine Xd ?_ ?_<;>intro hcd<;>try exact Xx))
  ·skip
   refine detP_of Tryz.func41 rfl (by kernel_rfl) (by simp [Tryz.f41]) rfl ?_
   intro C hP hN
   simp only [Tryz.f41] at hN ⊢
   with_reducible repeat' (first|refine Sp.h ?_|((first|refine Ss.h ?_|refine Sc.h (cua) ?_|refine Sc.h (cub) ?_|(refine Sb.h ?_ ?_ ?_<;>(try intro hgd)<;>try exact Xy))<;>simp -implicitDefEqProofs (maxSteps:=2000000) [hP,hN,h])|refine X2 ?_ ?_|(refine Xd ?_ ?_<;>intro hcd<;>try exact Xx))
  ·skip
   refine detP_of Tryz.func41 rfl (by kernel_rfl) (by simp [Tryz.f41]) rfl ?_
   intro C hP hN
   simp only [Tryz.f41] at hN ⊢
   with_reducible repeat' (first|refine Sp.h ?_|((first|refine Ss.h ?_|refine Sc.h (cua) ?_|refine Sc.h (cub) ?_|(refine Sb.h ?_ ?_ ?_<;>(try intro hgd)<;>try exact Xy))<;>simp -implicitDefEqProofs (maxSteps:=2000000) [hP,hN,h])|refine X2 ?_ ?_|(refine Xd ?_ ?_<;>intro hcd<;>try exact Xx))
  ·skip
   refine detP_of Tryz.func41 rfl (by kernel_rfl) (by simp [Tryz.f41]) rfl ?_
   intro C hP hN
   simp only [Tryz.f41] at hN ⊢
   with_reducible repeat' (first|refine Sp.h ?_|((first|refine Ss.h ?_|refine Sc.h (cua) ?_|refine Sc.h (cub) ?_|(refine Sb.h ?_ ?_ ?_<;>(try intro hgd)<;>try exact Xy))<;>simp -implicitDefEqProofs (maxSteps:=2000000) [hP,hN,h])|refine X2 ?_ ?_|(refine Xd ?_ ?_<;>intro hcd<;>try exact Xx))
 have hf : (fromB rho 0 2097152 && fromB steps 0 64)=true:=by
  simp only [fromB,Bool.and_eq_true,decide_eq_true_eq];omega
 rw [hf] at hB
 rw [hB] at hR
 simp only [if_true] at hR
 obtain ⟨m,hm⟩ : ∃ m : Nat,steps=m:=⟨steps.toNat,by omega⟩
 subst hm
 simp only [Int.toNat_natCast] at hR
 have ia:=nusB_iff.1 hua
 have ib:=nusB_iff.1 hub
 have c1:=sr76 a ia.1 ia.2.1
 have c2:=sr76 b ib.1 ib.2.1
 have hs0:=ns0_ok ia.1 ib.1
 have hend:=nrRun_ok (rho:=rho) (steps:=m) hua hub (m+1) (ns0 a b) hs0
 have hgr:=g77 a b rho m (ns0 a b) hua hub (by omega) (by omega) hs0 rfl
 generalize nrRun a b rho m (m+1) (ns0 a b)=RR at *
 rw [hR]
 have h1 : ¬ rho < 0:=by omega
 have h2 : ¬ 2097152 < rho:=by omega
 have h3 : ¬ (m : Int) < 0:=by omega
 have h4 : ¬ 64 < (m : Int):=by omega
 refine detP_of Tryz.func41 rfl (by kernel_rfl) (by simp [Tryz.f41]) rfl ?_
 intro C hP hN
 simp only [Tryz.f41] at hN ⊢
 with_reducible repeat' (first|refine Sp.h ?_|((refine WP.share (hn:=[]) (pre:=[_,_]) (post:=[_]) rfl rfl rfl ?_);simp -implicitDefEqProofs (maxSteps:=2000000) [hP,hN,h1,h2,h4])|((first|refine Ss.h ?_|refine Sc.h (cua) ?_|refine Sc.h (cub) ?_|refine Sc.h (c1) ?_|refine Sc.h (c2) ?_|(refine Sb.h ?_ ?_ ?_<;>(try intro hgd)<;>try exact Xy))<;>simp -implicitDefEqProofs (maxSteps:=2000000) [hP,hN,h1,h2,h4])|refine X2 ?_ ?_|(refine Xd ?_ ?_<;>intro hcd<;>try exact Xx))
 simp only [ShareK,hP]
 refine ⟨_,_,_,_,_,fun q=>if q=1000000 then 9 else if q=2000000 then 37 else 40,rfl,hgr,rfl,?_⟩
 refine ⟨by simp [renA,renA1],by simp [okG,okG1],by simp,by intro kb h;simp only [List.mem_cons,List.not_mem_nil,or_false] at h;rcases h with rfl|rfl|rfl<;>simp [renB,renA1,ownOf,ns0],by rw [hN];rfl,?_⟩
 simp -implicitDefEqProofs (maxSteps:=2000000) [hP,hN,shareW,renB,renA1,ownOf]
 have hwl:=hend.wl
 have hvl:=hend.vl
 with_reducible repeat' (first|refine Sp.h ?_|((first|refine Ss.h ?_|(refine Sb.h ?_ ?_ ?_<;>(try intro hgd)<;>try exact Xy))<;>simp -implicitDefEqProofs (maxSteps:=2000000) [hP,hN,shareW,renB,renA1,ownOf,hwl,hvl])|refine X2 ?_ ?_|(refine Xd ?_ ?_<;>intro hcd<;>try exact Xx))
end Go.Ab
namespace Go.Ab
open Go.Proofs
set_option maxRecDepth 100000 in
@[simp] theorem quiet72 : QuietFn Tryz.prog 72:=by
 refine ⟨by kernel_rfl,fun args w=>?_⟩
 refine callsD_of_wpS Tryz.func72 rfl fun c₀ cs hu=>?_
 apply wpS_seq
 apply wpS_region
 have hk : ∀ k,k < Tryz.f72.ntmps→k < args.size+(Tryz.f72.ntmps - args.size):=by intro k h;omega
 rw [Tryz.ntmps72] at hk
 have h0:=hk 0 (by decide)
 have h1:=hk 1 (by decide)
 have h2:=hk 2 (by decide)
 have h3:=hk 3 (by decide)
 simp [wpOpsS,go_sem,recoverD,hu,Tryz.ntmps72,Exit.thenS,h0,h1,h2,h3]
 refine wpS_cond (t:=false) (by simp [Act.eval,h0,h1,h2,h3]) ?_
 simp only [Bool.false_eq_true,if_false]
 refine wpS_of_wp (wp_skip ?_)
 cases c₀
 simp_all [bodyPostS,results,Tryz.results72]
set_option maxRecDepth 100000 in
@[simp] theorem quiet169 : QuietFn Tryz.prog 169:=by
 refine ⟨by kernel_rfl,fun args w=>?_⟩
 refine callsD_of_wpS Tryz.func169 rfl fun c₀ cs hu=>?_
 apply wpS_seq
 apply wpS_region
 have hk : ∀ k,k < Tryz.f169.ntmps→k < args.size+(Tryz.f169.ntmps - args.size):=by intro k h;omega
 rw [Tryz.ntmps169] at hk
 have h0:=hk 0 (by decide)
 have h1:=hk 1 (by decide)
 have h2:=hk 2 (by decide)
 have h3:=hk 3 (by decide)
 simp [wpOpsS,go_sem,recoverD,hu,Tryz.ntmps169,Exit.thenS,h0,h1,h2,h3]
 refine wpS_cond (t:=false) (by simp [Act.eval,h0,h1,h2,h3]) ?_
 simp only [Bool.false_eq_true,if_false]
 refine wpS_of_wp (wp_skip ?_)
 cases c₀
 simp_all [bodyPostS,results,Tryz.results169]
def sumVc (l : List Vc) : Nat→Vc
 |0=>(0,0,0)
 |i+1=>match l[i]? with
  |some p=>((sumVc l i).1+p.1,(sumVc l i).2.1+p.2.1,(sumVc l i).2.2+p.2.2)
  |none=>sumVc l i
theorem sumVc_rng {l : List Vc} (hl : l.all (nearV 268435456)=true) : ∀ i : Nat,smV ((i : Int) * 268435456) (sumVc l i)
 |0=>by simp [sumVc,smV]
 |i+1=>by
  obtain ⟨i1,i2,i3⟩:=sumVc_rng hl i
  simp only [sumVc]
  split
  ·rename_i p hp
   obtain ⟨a,b,c⟩:=near_sm (List.all_eq_true.1 hl p (List.mem_of_getElem? hp))
   exact ⟨⟨by simp only;omega,by simp only;omega⟩,⟨by simp only;omega,by simp only;omega⟩,⟨by simp only;omega,by simp only;omega⟩⟩
  ·exact ⟨⟨by omega,by omega⟩,⟨by omega,by omega⟩,⟨by omega,by omega⟩⟩
def addP3 (s p : Vc) (j : Nat) : List AV:=[.pv (Z (if 0 < j then s.1+p.1 else s.1)),.pv (Z (if 1 < j then s.2.1+p.2.1 else s.2.1)),.pv (Z (if 2 < j then s.2.2+p.2.2 else s.2.2))]
set_option maxHeartbeats 16000000 in
theorem d170 (l : List Vc) (h8 : l.length≤8) (hl : l.all (nearV 268435456)=true) : DetH Tryz.prog 170 [.pv (vecs l)] [] [] (.pv (encVec (sumVc l l.length))):=by
 refine detP_of Tryz.func170 rfl (by kernel_rfl) (by simp [Tryz.f170]) rfl ?_
 intro C hP hN
 simp only [Tryz.f170] at hN ⊢
 with_reducible repeat' (first|refine Sp.h ?_|((first|refine Wd ?_|refine Ss.h ?_|(refine Sb.h ?_ ?_ ?_<;>(try intro hgd)<;>try exact Xy))<;>simp -implicitDefEqProofs (maxSteps:=2000000) [hP,hN]<;>try refine Ya ?_)|refine X2 ?_ ?_|(refine Xd ?_ ?_<;>intro hcd<;>try exact Xx))
 refine WP.loopN [5] l.length (fun i st=>st.t 2=.ptr 2 0∧st.h 2=some (.box [.pv (Z 0),.pv (Z 0),.pv (Z 0)] true false)∧st.t 3=.ptr 3 0∧st.h 3=some (.box [.pv (Z (sumVc l i).1),.pv (Z (sumVc l i).2.1),.pv (Z (sumVc l i).2.2)] true false)∧st.t 7=.pv (vecs l)∧st.t 8=.pv (Z l.length)∧st.t 9=.pv (Z i)∧st.h 5=none) (by simp [sumVc]) ?_
 rintro i st hi ⟨g2,hb2,g3,hb3,g7,g8,g9,hb5⟩
 by_cases hlt : i < l.length
 ·have hwr:=wr_succ hlt (by omega)
  generalize hxe : l[i]=p at *
  have hx : l[i]?=some p:=by rw [List.getElem?_eq_getElem hlt,hxe]
  have r1:=sumVc_rng hl (i+1)
  have hp:=near_sm (List.all_eq_true.1 hl p (List.mem_of_getElem? hx))
  have hS : sumVc l (i+1)=((sumVc l i).1+p.1,(sumVc l i).2.1+p.2.1,(sumVc l i).2.2+p.2.2):=by simp only [sumVc,hx]
  generalize sumVc l i=S at *
  generalize sumVc l (i+1)=S' at *
  subst hS
  obtain ⟨q1,q2,q3⟩:=r1
  simp only at q1 q2 q3
  have v1 : IntKind.i64.wrap (S.1+p.1)=S.1+p.1:=wr_id (by omega) (by omega)
  have v2 : IntKind.i64.wrap (S.2.1+p.2.1)=S.2.1+p.2.1:=wr_id (by omega) (by omega)
  have v3 : IntKind.i64.wrap (S.2.2+p.2.2)=S.2.2+p.2.2:=wr_id (by omega) (by omega)
  clear q1 q2 q3 hp
  have hbeg : [AV.pv (Z S.1),AV.pv (Z S.2.1),AV.pv (Z S.2.2)]=addP3 S p 0:=rfl
  rw [hbeg] at hb3
  with_reducible repeat' (first|refine Sp.h ?_|((first|refine Wd ?_|refine Ss.h ?_|(refine Sb.h ?_ ?_ ?_<;>(try intro hgd)<;>try exact Xy))<;>simp -implicitDefEqProofs (maxSteps:=2000000) [hP,hN,g2,hb2,g3,g7,g8,g9,hb5,hb3,hlt,hx,hxe]<;>try refine Ya ?_)|refine X2 ?_ ?_|(refine Xd ?_ ?_<;>intro hcd<;>try exact Xx))
  refine WP.loopN [] 3 (fun j st=>st.t 2=.ptr 2 0∧st.h 2=some (.box [.pv (Z 0),.pv (Z 0),.pv (Z 0)] true false)∧st.t 3=.ptr 3 0∧st.h 3=some (.box (addP3 S p j) true false)∧st.t 5=.ptr 5 0∧st.h 5=some (.box [.pv (Z p.1),.pv (Z p.2.1),.pv (Z p.2.2)] true false)∧st.t 7=.pv (vecs l)∧st.t 8=.pv (Z l.length)∧st.t 9=.pv (Z i)∧st.t 13=.pv (Z j)) (by simp [g2,hb2,g3,g7,g8,g9,hb3,addP3]) ?_
  clear g2 hb2 g3 g7 g8 g9 hb3 hb5
  rintro j st hj ⟨g2,hb2,g3,hb3,g5,hb5,g7,g8,g9,g13⟩
  rcases fin3' hj with rfl|rfl|rfl|rfl
  all_goals (simp [addP3] at hb3 g13)
  ·skip
   with_reducible repeat' (first|refine Sp.h ?_|((first|refine Wd ?_|refine Ss.h ?_|(refine Sb.h ?_ ?_ ?_<;>(try intro hgd)<;>try exact Xy))<;>simp -implicitDefEqProofs (maxSteps:=2000000) [hP,hN,g2,hb2,g3,hb3,g5,hb5,g7,g8,g9,g13,v1,addP3]<;>try refine Ya ?_)|refine X2 ?_ ?_|(refine Xd ?_ ?_<;>intro hcd<;>try exact Xx))
  ·skip
   with_reducible repeat' (first|refine Sp.h ?_|((first|refine Wd ?_|refine Ss.h ?_|(refine Sb.h ?_ ?_ ?_<;>(try intro hgd)<;>try exact Xy))<;>simp -implicitDefEqProofs (maxSteps:=2000000) [hP,hN,g2,hb2,g3,hb3,g5,hb5,g7,g8,g9,g13,v2,addP3]<;>try refine Ya ?_)|refine X2 ?_ ?_|(refine Xd ?_ ?_<;>intro hcd<;>try exact Xx))
  ·skip
   with_reducible repeat' (first|refine Sp.h ?_|((first|refine Wd ?_|refine Ss.h ?_|(refine Sb.h ?_ ?_ ?_<;>(try intro hgd)<;>try exact Xy))<;>simp -implicitDefEqProofs (maxSteps:=2000000) [hP,hN,g2,hb2,g3,hb3,g5,hb5,g7,g8,g9,g13,v3,addP3]<;>try refine Ya ?_)|refine X2 ?_ ?_|(refine Xd ?_ ?_<;>intro hcd<;>try exact Xx))
  ·skip
   with_reducible repeat' (first|refine Sp.h ?_|((first|refine Wd ?_|refine Ss.h ?_|(refine Sb.h ?_ ?_ ?_<;>(try intro hgd)<;>try exact Xy))<;>simp -implicitDefEqProofs (maxSteps:=2000000) [hP,hN,g2,hb2,g3,hb3,g5,hb5,g7,g8,g9,g13,hlt,hwr,addP3]<;>try refine Ya ?_)|refine X2 ?_ ?_|(refine Xd ?_ ?_<;>intro hcd<;>try exact Xx))
 ·have hin : i=l.length:=by omega
  subst hin
  with_reducible repeat' (first|refine Sp.h ?_|((first|refine Wd ?_|refine Ss.h ?_|(refine Sb.h ?_ ?_ ?_<;>(try intro hgd)<;>try exact Xy))<;>simp -implicitDefEqProofs (maxSteps:=2000000) [hP,hN,g2,hb2,g3,hb3,g7,g8,g9]<;>try refine Ya ?_)|refine X2 ?_ ?_|(refine Xd ?_ ?_<;>intro hcd<;>try exact Xx))
abbrev axesL : List Vc:=[(1,0,0),(-1,0,0),(0,1,0),(0,-1,0),(0,0,1),(0,0,-1)]
theorem d121 : DetH Tryz.prog 121 [] [] [] (.pv (vecs axesL)):=by
 refine detP_of Tryz.func121 rfl (by kernel_rfl) (by simp [Tryz.f121]) rfl ?_
 intro C hP hN
 simp only [Tryz.f121] at hN ⊢
 with_reducible repeat' (first|refine Sp.h ?_|((first|refine Ss.h ?_|(refine Sb.h ?_ ?_ ?_<;>(try intro hgd)<;>try exact Xy))<;>simp -implicitDefEqProofs (maxSteps:=2000000) [hP,hN])|refine X2 ?_ ?_|(refine Xd ?_ ?_<;>intro hcd<;>try exact Xx))
theorem centers_near {l : List IVc} : (centers l).all (nearV 268435456)=true:=by
 unfold centers
 split
 ·rename_i h
  have hp:=(placedB_all h).1
  rw [List.all_eq_true] at hp ⊢
  intro x hx
  obtain ⟨v,hv,rfl⟩:=List.mem_map.1 hx
  have h1:=hp v hv
  rw [placedV_iff] at h1
  obtain ⟨a,b,c⟩:=h1
  have hm : ∀ x : Iv,placedI x=true→inB (midW x) 268435456=true:=fun x hx=>by
   rw [placedI_iff] at hx
   rw [inB_iff]
   unfold midW
   split<;>omega
  rw [nearV_iff]
  exact ⟨hm _ a,hm _ b,hm _ c⟩
 ·rfl
theorem centers_len {l : List IVc} (h : placedB l=true) : (centers l).length=l.length:=by simp [centers,h]
def meanV (a b : List IVc) : Vc:=((sumVc (centers a) a.length).1 * b.length - (sumVc (centers b) b.length).1 * a.length,(sumVc (centers a) a.length).2.1 * b.length - (sumVc (centers b) b.length).2.1 * a.length,(sumVc (centers a) a.length).2.2 * b.length - (sumVc (centers b) b.length).2.2 * a.length)
def meanN (a b : List IVc) : Vc:=if placedB a && placedB b then normalV (meanV a b) else (0,0,0)
def meanB (a b : List IVc) : Bool:=placedB a && placedB b && nz (normalV (meanV a b))
theorem sum8 {l : List IVc} (h : placedB l=true) : smV 2147483648 (sumVc (centers l) l.length):=by
 have h1:=sumVc_rng (centers_near (l:=l)) l.length
 have h2:=(placedB_all h).2.1
 exact sm_to h1 (by omega)
theorem mean_sm {a b : List IVc} (ha : placedB a=true) (hb : placedB b=true) : smV 1099511627776 (meanV a b):=by
 obtain ⟨s1,s2,s3⟩:=sum8 ha
 obtain ⟨t1,t2,t3⟩:=sum8 hb
 have h2:=(placedB_all ha).2.1
 have h3:=(placedB_all hb).2.1
 have e : ∀ x : Int,-2147483648≤x∧x≤2147483648→∀ n : Nat,n≤8→-17179869184≤x * n∧x * n≤17179869184:=fun x hx n hn=>by
  have:=mul_rng (a:=x) (b:=(n : Int)) 2147483648 8 (by omega) (by omega) (by omega) (by omega)
  omega
 have a1:=e _ s1 _ h3
 have a2:=e _ s2 _ h3
 have a3:=e _ s3 _ h3
 have b1:=e _ t1 _ h2
 have b2:=e _ t2 _ h2
 have b3:=e _ t3 _ h2
 unfold meanV
 exact ⟨by simp only;omega,by simp only;omega,by simp only;omega⟩
def meK (v : Vc) (j : Nat) : List AV:=[.pv (Z (if 0 < j then v.1 else 0)),.pv (Z (if 1 < j then v.2.1 else 0)),.pv (Z (if 2 < j then v.2.2 else 0))]
set_option maxHeartbeats 16000000 in
theorem d120 (a b : List IVc) (ha : a.length≤9223372036854775807) (hb : b.length≤9223372036854775807) : DetH Tryz.prog 120 [.pv (ivcs a),.pv (ivcs b)] [] [] (.pv (.tup [encVec (meanN a b),B (meanB a b)])):=by
 have ca:=d78 a ha
 have cb:=d78 b hb
 have hN : meanN a b=if placedB a && placedB b then normalV (meanV a b) else (0,0,0):=rfl
 have hM : meanB a b=(placedB a && placedB b && nz (normalV (meanV a b))):=rfl
 rw [hN,hM]
 cases hpa : placedB a with
 |false=>
  rw [hpa] at ca
  refine detP_of Tryz.func120 rfl (by kernel_rfl) (by simp [Tryz.f120]) rfl ?_
  intro C hP hN
  simp only [Tryz.f120] at hN ⊢
  with_reducible repeat' (first|refine Sp.h ?_|((first|refine Wd ?_|refine Ss.h ?_|refine Sc.h (ca) ?_|refine Sc.h (cb) ?_|(refine Sb.h ?_ ?_ ?_<;>(try intro hgd)<;>try exact Xy))<;>simp -implicitDefEqProofs (maxSteps:=2000000) [hP,hN]<;>try refine Ya ?_)|refine X2 ?_ ?_|(refine Xd ?_ ?_<;>intro hcd<;>try exact Xx))
 |true=>
 rw [hpa] at ca
 cases hpb : placedB b with
 |false=>
  rw [hpb] at cb
  refine detP_of Tryz.func120 rfl (by kernel_rfl) (by simp [Tryz.f120]) rfl ?_
  intro C hP hN
  simp only [Tryz.f120] at hN ⊢
  with_reducible repeat' (first|refine Sp.h ?_|((first|refine Wd ?_|refine Ss.h ?_|refine Sc.h (ca) ?_|refine Sc.h (cb) ?_|(refine Sb.h ?_ ?_ ?_<;>(try intro hgd)<;>try exact Xy))<;>simp -implicitDefEqProofs (maxSteps:=2000000) [hP,hN]<;>try refine Ya ?_)|refine X2 ?_ ?_|(refine Xd ?_ ?_<;>intro hcd<;>try exact Xx))
 |true=>
 rw [hpb] at cb
 have c1:=d42 a ha
 have c2:=d42 b hb
 have c3:=d170 (centers a) (by rw [centers_len hpa];exact (placedB_all hpa).2.1) centers_near
 have c4:=d170 (centers b) (by rw [centers_len hpb];exact (placedB_all hpb).2.1) centers_near
 rw [centers_len hpa] at c3
 rw [centers_len hpb] at c4
 have hms:=mean_sm hpa hpb
 have c5:=d126 (meanV a b) hms
 obtain ⟨s1,s2,s3⟩:=sum8 hpa
 obtain ⟨t1,t2,t3⟩:=sum8 hpb
 have h2:=(placedB_all hpa).2.1
 have h3:=(placedB_all hpb).2.1
 have hmv : meanV a b=((sumVc (centers a) a.length).1 * b.length - (sumVc (centers b) b.length).1 * a.length,(sumVc (centers a) a.length).2.1 * b.length - (sumVc (centers b) b.length).2.1 * a.length,(sumVc (centers a) a.length).2.2 * b.length - (sumVc (centers b) b.length).2.2 * a.length):=rfl
 simp only [Bool.and_self,if_true,Bool.true_and]
 have e : ∀ x : Int,-2147483648≤x∧x≤2147483648→∀ n : Nat,n≤8→-17179869184≤x * n∧x * n≤17179869184:=fun x hx n hn=>by
  have:=mul_rng (a:=x) (b:=(n : Int)) 2147483648 8 (by omega) (by omega) (by omega) (by omega)
  omega
 generalize sumVc (centers a) a.length=S at *
 generalize sumVc (centers b) b.length=T at *
 generalize meanV a b=V at *
 have f1:=e _ s1 _ h3
 have f2:=e _ s2 _ h3
 have f3:=e _ s3 _ h3
 have k1:=e _ t1 _ h2
 have k2:=e _ t2 _ h2
 have k3:=e _ t3 _ h2
 clear e
 have V1 : S.1 * b.length - T.1 * a.length=V.1:=by rw [hmv]
 have V2 : S.2.1 * b.length - T.2.1 * a.length=V.2.1:=by rw [hmv]
 have V3 : S.2.2 * b.length - T.2.2 * a.length=V.2.2:=by rw [hmv]
 clear hmv
 have m01 : IntKind.i64.wrap (S.1 * b.length)=S.1 * b.length:=wr_id (by omega) (by omega)
 have m02 : IntKind.i64.wrap (T.1 * a.length)=T.1 * a.length:=wr_id (by omega) (by omega)
 have w0 : IntKind.i64.wrap (S.1 * b.length - T.1 * a.length)=V.1:=(wr_id (by omega) (by omega)).trans V1
 have m11 : IntKind.i64.wrap (S.2.1 * b.length)=S.2.1 * b.length:=wr_id (by omega) (by omega)
 have m12 : IntKind.i64.wrap (T.2.1 * a.length)=T.2.1 * a.length:=wr_id (by omega) (by omega)
 have w1 : IntKind.i64.wrap (S.2.1 * b.length - T.2.1 * a.length)=V.2.1:=(wr_id (by omega) (by omega)).trans V2
 have m21 : IntKind.i64.wrap (S.2.2 * b.length)=S.2.2 * b.length:=wr_id (by omega) (by omega)
 have m22 : IntKind.i64.wrap (T.2.2 * a.length)=T.2.2 * a.length:=wr_id (by omega) (by omega)
 have w2 : IntKind.i64.wrap (S.2.2 * b.length - T.2.2 * a.length)=V.2.2:=(wr_id (by omega) (by omega)).trans V3
 generalize normalV V=n at *
 have wa : IntKind.i64.wrap (a.length : Int)=(a.length : Int):=wr_id (by omega) (by omega)
 have wb : IntKind.i64.wrap (b.length : Int)=(b.length : Int):=wr_id (by omega) (by omega)
 refine detP_of Tryz.func120 rfl (by kernel_rfl) (by simp [Tryz.f120]) rfl ?_
 intro C hP hN
 simp only [Tryz.f120] at hN ⊢
 with_reducible repeat' (first|refine Sp.h ?_|((first|refine Wd ?_|refine Ss.h ?_|refine Sc.h (ca) ?_|refine Sc.h (cb) ?_|refine Sc.h (c1) ?_|refine Sc.h (c2) ?_|refine Sc.h (c3) ?_|refine Sc.h (c4) ?_|(refine Sb.h ?_ ?_ ?_<;>(try intro hgd)<;>try exact Xy))<;>simp -implicitDefEqProofs (maxSteps:=2000000) [hP,hN]<;>try refine Ya ?_)|refine X2 ?_ ?_|(refine Xd ?_ ?_<;>intro hcd<;>try exact Xx))
 refine WP.loopN [] 3 (fun k st=>st.t 0=.pv (ivcs a)∧st.t 1=.pv (ivcs b)∧st.t 4=.ptr 4 0∧st.h 4=some (.box [.pv (Z 0),.pv (Z 0),.pv (Z 0)] true false)∧st.t 5=.ptr 5 0∧st.h 5=some (.box [.pv (B false)] true false)∧st.t 6=.ptr 6 0∧st.h 6=some (.box [.pv (Z S.1),.pv (Z S.2.1),.pv (Z S.2.2)] true false)∧st.t 7=.ptr 7 0∧st.h 7=some (.box [.pv (Z T.1),.pv (Z T.2.1),.pv (Z T.2.2)] true false)∧st.t 8=.ptr 8 0∧st.h 8=some (.box (meK V k) true false)∧st.t 26=.pv (Z k)) (by simp [meK]) ?_
 rintro k st hk ⟨g0,g1,g4,hb4,g5,hb5,g6,hb6,g7,hb7,g8,hb8,g26⟩
 rcases fin3' hk with rfl|rfl|rfl|rfl
 all_goals (simp [meK] at hb8 g26)
 ·skip
  with_reducible repeat' (first|refine Sp.h ?_|((first|refine Wd ?_|refine Ss.h ?_|(refine Sb.h ?_ ?_ ?_<;>(try intro hgd)<;>try exact Xy))<;>simp -implicitDefEqProofs (maxSteps:=2000000) [hP,hN,g6,hb6,g7,hb7,g8,hb8,g0,g1,g4,g5,hb4,hb5,g26,m01,m02,w0,wa,wb,meK]<;>try refine Ya ?_)|refine X2 ?_ ?_|(refine Xd ?_ ?_<;>intro hcd<;>try exact Xx))
 ·skip
  with_reducible repeat' (first|refine Sp.h ?_|((first|refine Wd ?_|refine Ss.h ?_|(refine Sb.h ?_ ?_ ?_<;>(try intro hgd)<;>try exact Xy))<;>simp -implicitDefEqProofs (maxSteps:=2000000) [hP,hN,g6,hb6,g7,hb7,g8,hb8,g0,g1,g4,g5,hb4,hb5,g26,m11,m12,w1,wa,wb,meK]<;>try refine Ya ?_)|refine X2 ?_ ?_|(refine Xd ?_ ?_<;>intro hcd<;>try exact Xx))
 ·skip
  with_reducible repeat' (first|refine Sp.h ?_|((first|refine Wd ?_|refine Ss.h ?_|(refine Sb.h ?_ ?_ ?_<;>(try intro hgd)<;>try exact Xy))<;>simp -implicitDefEqProofs (maxSteps:=2000000) [hP,hN,g6,hb6,g7,hb7,g8,hb8,g0,g1,g4,g5,hb4,hb5,g26,m21,m22,w2,wa,wb,meK]<;>try refine Ya ?_)|refine X2 ?_ ?_|(refine Xd ?_ ?_<;>intro hcd<;>try exact Xx))
 ·skip
  with_reducible repeat' (first|refine Sp.h ?_|((first|refine Wd ?_|refine Ss.h ?_|refine Sc.h (c5) ?_|(refine Sb.h ?_ ?_ ?_<;>(try intro hgd)<;>try exact Xy))<;>simp -implicitDefEqProofs (maxSteps:=2000000) [hP,hN,g6,hb6,g7,hb7,g8,hb8,g0,g1,g4,g5,hb4,hb5,g26]<;>try refine Ya ?_)|refine X2 ?_ ?_|(refine Xd ?_ ?_<;>intro hcd<;>try exact Xx))
end Go.Ab
