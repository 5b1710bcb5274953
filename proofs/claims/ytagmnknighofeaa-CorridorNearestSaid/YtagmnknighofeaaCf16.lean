/- Contracts: the rest of config and of its reference. -/
import Derived.Test.YtagmnknighofeaaPl5
import Derived.Test.YtagmnknighofeaaCf14
set_option linter.all false
namespace Go.Ab
open Go.Proofs
def inJ (j : J) (x : Int) : Bool := decide (j.lo ≤ x) && decide (x ≤ j.hi)
def limJ (j : J) : Int × Int := (j.lo, j.hi)
def insideR (js : List J) (ms : List Ms) (c : List Int) : Bool := decide (checkR js ms = 0) && decide (js.length = c.length) && allZ inJ js c
def limitsR (js : List J) (ms : List Ms) : List (Int × Int) := if checkR js ms = 0 then js.map limJ else []
theorem checkR_len {js : List J} {ms : List Ms} (h : checkR js ms = 0) : 0 < js.length ∧ js.length ≤ 10 := by
  unfold checkR at h
  split at h
  · omega
  · omega
def insideB (js : List J) (ms : List Ms) (b : List (Int × Int)) : Bool := decide (checkR js ms = 0) && decide (js.length = b.length) && allZ (fun j x => withinI x (limJ j)) js b
end Go.Ab
