/- The seat's program: what the rows' closing asks of it. -/
import Derived.Test.YtagmnknighofeaaRows
import Derived.Test.YtagmnknighofeaaClA
import Derived.Test.YtagmnknighofeaaCfA
set_option linter.all false
namespace Go.Ab
open Go.Proofs Go.Proofs.Ytagmnknighofeaa
theorem own : ownKnob Try.prog.godebug = none := by kernel_rfl
theorem kids : Kids Try.prog (· < Try.prog.types.size) := kids_rows (by kernel_rfl) (by kernel_rfl)
theorem full : ∀ t e, t < Try.prog.types.size → Try.prog.underlying t = some (.slice e) → 0 < Try.prog.cellsOf e := slices_full_of Try.prog (by kernel_rfl)
section
variable {H : Type}
theorem rd_int : Reads H Try.prog 3 (fun i => .val (.int .i64 i)) (fun i => IntKind.i64.min ≤ i ∧ i ≤ IntKind.i64.max) (fun _ => 1) := reads_int Try.underlying3
theorem rd_ints : Reads H Try.prog 26 (fun l : List Int => .sl (l.map fun i => .val (.int .i64 i))) (fun l => l.length ≤ 9223372036854775807 ∧ ∀ a ∈ l, IntKind.i64.min ≤ a ∧ a ≤ IntKind.i64.max) (fun l => (l.map fun _ => 1).sum + 1) := reads_slice Try.underlying26 rd_int
end
end Go.Ab
