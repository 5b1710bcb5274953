/- The contracts and facts that the laws of this seat need, in one text (Rd). -/
import Derived.Test.YtfpagjchfipjkaaGreatV12
import Derived.Test.YtfpagjchfipjkaaGreatRows
set_option linter.all false
set_option maxRecDepth 10000
namespace Go.Ab
open IntKind (i64)
open Go.Proofs.Tryz
open Go.Proofs Go.Proofs.YtfpagjchfipjkaaGreat
theorem own:ownKnob prog.godebug=none:=by kernel_rfl
theorem kids:Kids prog (·< prog.types.size):=kids_rows (by kernel_rfl) (by kernel_rfl)
theorem full:∀t e,t<prog.types.size->prog.underlying t=some (.slice e)->0<prog.cellsOf e:=slices_full_of prog (by kernel_rfl)
section
variable {H:Type}
theorem BM:Bd H prog 3 (λi=>.val (.int .i64 i)) (λi=>i64.min<=i/\i<=i64.max) (λ_=>1):=J6 Tryz.underlying3
theorem y5:Bd H prog 25 (λl:List Int=>.sl (l.map λi=>.val (.int .i64 i))) (λl=>l.length<=9223372036854775807/\∀a∈l,i64.min<=a/\a<=i64.max) (λl=>(l.map λ_=>1).sum+1):=GK Tryz.underlying25 BM
end
end Go.Ab
