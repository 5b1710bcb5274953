/- Contracts: the entry of a motion into a box, III: the reference. -/
import Derived.Test.YtagmnknighofeaaCu9
set_option linter.all false
namespace Go.Ab
open Go.Proofs
end Go.Ab
