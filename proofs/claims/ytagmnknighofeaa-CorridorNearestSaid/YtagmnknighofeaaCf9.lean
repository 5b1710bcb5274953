/- Contracts: robots. -/
import Derived.Test.YtagmnknighofeaaCf8
set_option linter.all false
namespace Go.Ab
open Go.Proofs
structure Ms where
  link : Int
  mass : Int
  px : Int
  py : Int
  pz : Int
abbrev encM (m : Ms) : PV := .val (.agg #[.int .i64 m.link, .int .i64 m.mass, .int .i64 m.px, .int .i64 m.py, .int .i64 m.pz])
def jSt (l : List Int) (m : Nat) : Nat → Nat
  | 0 => m
  | i + 1 => jEnd l (jSt l m i) i
theorem jN5_le (l : List Int) (n i : Nat) : jN5 l n i ≤ n + 6 := by
  have l1 := nn_le l n
  have l2 := nn_le l (nn l n)
  have l3 := nn_le l (nn l (nn l n))
  have l4 := nn_le l (nn l (nn l (nn l n)))
  have l5 := nn_le l (nn l (nn l (nn l (nn l n))))
  have l6 := nn_le l (nn l (nn l (nn l (nn l (nn l n)))))
  unfold jN5 jN4; split <;> omega
theorem jEnd_le (l : List Int) (n i : Nat) : jEnd l n i ≤ n + 9 := by
  have h := jN5_le l n i
  have l1 := nn_le l (jN5 l n i)
  have l2 := nn_le l (nn l (jN5 l n i))
  have l3 := nn_le l (nn l (nn l (jN5 l n i)))
  unfold jEnd; split
  · omega
  · split <;> omega
theorem jSt_le (l : List Int) (m i : Nat) : jSt l m i ≤ m + 9 * i := by
  induction i with
  | zero => simp [jSt]
  | succ i ih => have := jEnd_le l (jSt l m i) i; simp only [jSt]; omega
def jsF (l : List Int) (m k : Nat) : List J := (List.range k).map fun i => jointF l (jSt l m i) i
theorem jsF_succ (l : List Int) (m k : Nat) : (jsF l m (k + 1)).map encJ = (jsF l m k).map encJ ++ [encJ (jointF l (jSt l m k) k)] := by simp [jsF, List.range_succ]
theorem jsF_len (l : List Int) (m k : Nat) : (jsF l m k).length = k := by simp [jsF]
def mSt (l : List Int) (m : Nat) : Nat → Nat
  | 0 => m
  | i + 1 => nn l (nn l (nn l (nn l (mSt l m i))))
theorem mSt_le (l : List Int) (m i : Nat) : mSt l m i ≤ m + 4 * i := by
  induction i with
  | zero => simp [mSt]
  | succ i ih =>
    have l1 := nn_le l (mSt l m i)
    have l2 := nn_le l (nn l (mSt l m i))
    have l3 := nn_le l (nn l (nn l (mSt l m i)))
    have l4 := nn_le l (nn l (nn l (nn l (mSt l m i))))
    simp only [mSt]; omega
def massF (l : List Int) (m : Nat) (n : Int) : Ms where
  link := nx l m n
  mass := wr (1 + nx l (nn l m) 9000)
  px := wr (wr (nx l (nn l (nn l m)) 7 - 3) * 32768)
  py := 0
  pz := wr (wr (nx l (nn l (nn l (nn l m))) 5 - 2) * 32768)
def msF (l : List Int) (m : Nat) (n : Int) (k : Nat) : List Ms := (List.range k).map fun i => massF l (mSt l m i) n
theorem msF_succ (l : List Int) (m : Nat) (n : Int) (k : Nat) : (msF l m n (k + 1)).map encM = (msF l m n k).map encM ++ [encM (massF l (mSt l m k) n)] := by simp [msF, List.range_succ]
theorem msF_len (l : List Int) (m : Nat) (n : Int) (k : Nat) : (msF l m n k).length = k := by simp [msF]
abbrev nilV : AV := .pv (.val (.slice none 0 0))
def rN (l : List Int) (n : Nat) : Nat := (1 + nx l n 3).toNat
def rM (l : List Int) (n : Nat) : Nat := jSt l (nn l n) (rN l n)
def rK (l : List Int) (n : Nat) : Nat := (nx l (rM l n) 3).toNat
def rJs (l : List Int) (n : Nat) : List J := jsF l (nn l n) (rN l n)
def rMs (l : List Int) (n : Nat) : List Ms := msF l (nn l (rM l n)) (rN l n) (rK l n)
def rEnd (l : List Int) (n : Nat) : Nat := mSt l (nn l (rM l n)) (rK l n)
abbrev encR (js : List J) (ms : List Ms) : PV := .agg [.sl (js.map encJ), .sl (ms.map encM)]
end Go.Ab
