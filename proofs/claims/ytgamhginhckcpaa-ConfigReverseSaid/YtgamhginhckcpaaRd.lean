/- The seat's program: what the rows' closing asks of it. -/
import Derived.Test.YtgamhginhckcpaaRows
import Derived.Test.YtgamhginhckcpaaCl3
set_option linter.all false
namespace Go.Ab
open Go.Proofs Go.Proofs.Ytgamhginhckcpaa
theorem own : ownKnob Try.prog.godebug = none := by kernel_rfl
theorem kids : Kids Try.prog (· < Try.prog.types.size) := kids_rows (by kernel_rfl) (by kernel_rfl)
theorem full : ∀ t e, t < Try.prog.types.size → Try.prog.underlying t = some (.slice e) → 0 < Try.prog.cellsOf e := slices_full_of Try.prog (by kernel_rfl)
end Go.Ab
