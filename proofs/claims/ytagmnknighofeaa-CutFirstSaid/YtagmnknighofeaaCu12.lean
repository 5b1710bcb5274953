/- Contracts: the first meeting of a polyline with Colliding leaves: the reference. -/
import Derived.Test.YtagmnknighofeaaCu11
set_option linter.all false
namespace Go.Ab
open Go.Proofs
theorem col_kind {t : Tr} (hv : validT t = true) {i : Nat} {c : Cel} (hc : t.cells[i]? = some c) : colB c = (c.v.kind == 2) := by
  unfold colB
  cases hl : leafB c with
  | true => simp
  | false =>
    have := innerB_iff.1 ((cell_low hv hc).2 hl)
    have hz := this.2.2.2.2.2
    simp only [zeroB, Bool.and_eq_true, beq_iff_eq] at hz
    simp [hz.1.1]
end Go.Ab
