/- Trees as arguments. -/
import Derived.Test.YtagmnknighofeaaRd
import Derived.Test.YtagmnknighofeaaTrA
set_option linter.all false
namespace Go.Ab
open Go.Proofs Go.Proofs.Ytagmnknighofeaa
section
variable {H : Type}
end
end Go.Ab
