/- Contracts: distances. -/
import Derived.Test.YtagmnknighofeaaCfS
import Derived.Test.YtagmnknighofeaaPl4
set_option linter.all false
namespace Go.Ab
open Go.Proofs
def dTerm (j : J) (a b : Int) : Int := wr (j.w * max (wr (b - a)) (wr (a - b)))
def distT (js : List J) (p q : List Int) : Nat → Int
  | 0 => 0
  | i + 1 => match js[i]?, p[i]?, q[i]? with
    | some j, some a, some b => wr (distT js p q i + dTerm j a b)
    | _, _, _ => distT js p q i
def distOk (js : List J) (ms : List Ms) (p q : List Int) : Bool := decide (p.length = js.length) && decide (q.length = js.length) && allB smallB p && allB smallB q && decide (checkR js ms = 0)
def distR (js : List J) (ms : List Ms) (p q : List Int) : Int := if distOk js ms p q then distT js p q js.length else 0
theorem distT_step {js : List J} {p q : List Int} {i : Nat} (h1 : i < js.length) (h2 : i < p.length) (h3 : i < q.length) : distT js p q (i + 1) = wr (distT js p q i + dTerm js[i] p[i] q[i]) := by
  simp [distT, h1, h2, h3]
end Go.Ab
