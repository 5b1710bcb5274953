/- Contracts: joints. -/
import Derived.Test.YtagmnknighofeaaCf7
set_option linter.all false
namespace Go.Ab
open Go.Proofs
structure J where
  name : ByteArray
  kind : Int
  parent : Int
  ox : Int
  oy : Int
  oz : Int
  lo : Int
  hi : Int
  w : Int
  sp : Int
  ac : Int
  tq : Int
abbrev encJ (j : J) : PV := .val (.agg #[.string j.name, .int .i64 j.kind, .int .i64 j.parent, .int .i64 j.ox, .int .i64 j.oy, .int .i64 j.oz, .int .i64 j.lo, .int .i64 j.hi, .int .i64 j.w, .int .i64 j.sp, .int .i64 j.ac, .int .i64 j.tq])
def jN4 (l : List Int) (n : Nat) : Nat := nn l (nn l (nn l (nn l n)))
def jN5 (l : List Int) (n i : Nat) : Nat := if 0 < i then nn l (nn l (jN4 l n)) else jN4 l n
def jKind (l : List Int) (n : Nat) : Int := kindOf (nx l (nn l (nn l n)) 8)
def jLo (l : List Int) (n i : Nat) : Int := if jKind l n = 0 then 0 else if jKind l n = 4 ∨ jKind l n = 5 then wr (wr (-nx l (jN5 l n i) 3) * 65536) else wr ((wr (wr (-nx l (jN5 l n i) 5) * 65536)).tdiv 8)
def jHi (l : List Int) (n i : Nat) : Int := if jKind l n = 0 then 0 else if jKind l n = 4 ∨ jKind l n = 5 then wr (nx l (nn l (jN5 l n i)) 4 * 32768) else wr (wr ((wr (wr (1 + nx l (nn l (jN5 l n i)) 4) * 65536)).tdiv 8) + nx l (nn l (nn l (jN5 l n i))) 3)
def jEnd (l : List Int) (n i : Nat) : Nat := if jKind l n = 0 then jN5 l n i else if jKind l n = 4 ∨ jKind l n = 5 then nn l (nn l (jN5 l n i)) else nn l (nn l (nn l (jN5 l n i)))
def jointF (l : List Int) (n i : Nat) : J where
  name := letB i
  kind := jKind l n
  parent := if nx l (nn l (nn l (nn l n))) 4 = 1 then -1 else wr ((i : Int) - 1)
  ox := if 0 < i then 131072 else 0
  oy := if 0 < i then wr (wr (nx l (jN4 l n) 5 - 2) * 32768) else 0
  oz := if 0 < i then wr (wr (nx l (nn l (jN4 l n)) 3 - 1) * 32768) else 0
  lo := jLo l n i
  hi := jHi l n i
  w := wr (1 + nx l n 4)
  sp := 65536
  ac := wr (65536 + nx l (nn l n) 3)
  tq := 327680
theorem nn_le2 {l : List Int} {n k : Nat} (h : n + 1 ≤ k) : nn l n ≤ k := Nat.le_trans (nn_le l n) h
theorem nn_lt {l : List Int} {n k : Nat} (h : n + 1 < k) : nn l n < k := Nat.lt_of_le_of_lt (nn_le l n) h
end Go.Ab
