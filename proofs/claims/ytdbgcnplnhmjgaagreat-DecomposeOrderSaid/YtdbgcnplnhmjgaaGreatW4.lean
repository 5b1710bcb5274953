/- The contracts and facts that the laws of this seat need, in one text (Ty, CfA). -/
import Derived.Test.YtdbgcnplnhmjgaaGreatW3
import Derived.Test.YtdbgcnplnhmjgaaGreatProg
set_option linter.all false
set_option maxRecDepth 10000
set_option maxHeartbeats 16000000
namespace Go.Ab
open IntKind (i64)
open Go.Proofs.Tryz
open Go.Proofs
variable {aft:Array Edge}{dst:Option Nat}{g:Option (Nat×Bool)}{i n:Nat}{k:Int}{α β:Type}{ρ:Operand->AV}{f:α->β->Bool}{p:α->Bool}{xs:List α}{ys:List β}
abbrev Bs(f:FuncId)(r:PV):Prop:=bf prog f [] [] [] (.pv r)
abbrev bk(f:FuncId)(a r:PV):Prop:=bf prog f [.pv a] [] [] (.pv r)
abbrev aO(f:FuncId)(a b r:PV):Prop:=bf prog f [.pv a,.pv b] [] [] (.pv r)
abbrev mm(f:FuncId)(a b c r:PV):Prop:=bf prog f [.pv a,.pv b,.pv c] [] [] (.pv r)
abbrev zS(f:FuncId)(a b c d r:PV):Prop:=bf prog f [.pv a,.pv b,.pv c,.pv d] [] [] (.pv r)
abbrev xL(f:FuncId)(a b c d e r:PV):Prop:=bf prog f [.pv a,.pv b,.pv c,.pv d,.pv e] [] [] (.pv r)
abbrev Kk(f:FuncId)(a b c d e g r:PV):Prop:=bf prog f [.pv a,.pv b,.pv c,.pv d,.pv e,.pv g] [] [] (.pv r)
@[simp] theorem WF:ak prog 2=some ⟨1,(some (.int .i64 0)),.one⟩/\dU prog 2=some .i64/\ak prog 3=some ⟨1,(some (.int .i64 0)),.one⟩/\dU prog 3=some .i64/\ak prog 4=some ⟨1,(some (.bool false)),.one⟩/\ak prog 5=some ⟨1,(some (.int .u8 0)),.one⟩/\dU prog 5=some .u8/\ak prog 6=some ⟨1,(some (.int .u8 0)),.one⟩/\dU prog 6=some .u8/\ak prog 7=some ⟨4,(some (.agg #[.int .i64 0,.int .i64 0,.bool false,.int .u8 0])),.struct [(0,1),(1,1),(2,1),(3,1)]⟩/\ak prog 8=some ⟨4,(some (.agg #[.int .i64 0,.int .i64 0,.bool false,.int .u8 0])),.struct [(0,1),(1,1),(2,1),(3,1)]⟩/\ak prog 9=some ⟨1,(some (.string ByteArray.empty)),.one⟩/\ii prog 9=some none/\ak prog 10=some ⟨1,(some (.string ByteArray.empty)),.one⟩/\ii prog 10=some none/\ak prog 11=some ⟨1,(some (.string ByteArray.empty)),.one⟩/\ii prog 11=some none/\ak prog 12=some ⟨1,(some (.int .u64 0)),.one⟩/\dU prog 12=some .u64/\ak prog 13=some ⟨2,(some (.agg #[.string ByteArray.empty,.int .u64 0])),.struct [(0,1),(1,1)]⟩/\ak prog 14=some ⟨2,(some (.agg #[.string ByteArray.empty,.int .u64 0])),.struct [(0,1),(1,1)]⟩/\ak prog 15=some ⟨1,(some (.pointer none)),.one⟩/\ak prog 16=some ⟨1,(some (.pointer none)),.one⟩/\ak prog 17=some ⟨1,(some (.pointer none)),.one⟩/\ak prog 18=some ⟨1,(some (.agg #[.pointer none])),.struct [(0,1)]⟩/\ak prog 19=some ⟨1,(some (.agg #[.pointer none])),.struct [(0,1)]⟩/\ak prog 21=some ⟨1,(some (.int .i32 0)),.one⟩/\dU prog 21=some .i32/\ak prog 22=some ⟨1,(some (.slice none 0 0)),.slice 81 12 104 (some (.agg #[.string ByteArray.empty,.int .i64 0,.int .i64 0,.int .i64 0,.int .i64 0,.int .i64 0,.int .i64 0,.int .i64 0,.int .i64 0,.int .i64 0,.int .i64 0,.int .i64 0]))⟩/\ak prog 23=some ⟨1,(some (.slice none 0 0)),.slice 122 5 40 (some (.agg #[.int .i64 0,.int .i64 0,.int .i64 0,.int .i64 0,.int .i64 0]))⟩/\ak prog 24=some ⟨2,(some (.agg #[.slice none 0 0,.slice none 0 0])),.struct [(0,1),(1,1)]⟩/\ak prog 25=some ⟨2,(some (.agg #[.slice none 0 0,.slice none 0 0])),.struct [(0,1),(1,1)]⟩/\ak prog 26=some ⟨1,(some (.slice none 0 0)),.slice 70 3 40 (some (.agg #[.int .i64 0,.int .i64 0,.slice none 0 0]))⟩/\ak prog 27=some ⟨1,(some (.slice none 0 0)),.slice 78 2 16 (some (.agg #[.int .i64 0,.int .i64 0]))⟩/\ak prog 28=some ⟨4,(some (.agg #[.slice none 0 0,.slice none 0 0,.slice none 0 0,.slice none 0 0])),.struct [(0,2),(2,1),(3,1)]⟩/\ak prog 29=some ⟨4,(some (.agg #[.slice none 0 0,.slice none 0 0,.slice none 0 0,.slice none 0 0])),.struct [(0,2),(2,1),(3,1)]⟩/\ak prog 30=some ⟨1,(some (.slice none 0 0)),.slice 2 1 8 (some (.int .i64 0))⟩:=by repeat' (first|kernel_rfl|refine ⟨by kernel_rfl,?_⟩)
@[simp] theorem Nk:ak prog 31=some ⟨1,(some (.slice none 0 0)),.slice 3 1 8 (some (.int .i64 0))⟩:=by kernel_rfl
@[simp] theorem V5:ak prog 39=some ⟨1,(some (.slice none 0 0)),.slice 50 2 16 (some (.agg #[.int .i64 0,.int .i64 0]))⟩/\ak prog 40=some ⟨1,(some (.slice none 0 0)),.slice 58 8 112 (some (.agg #[.int .i64 0,.int .i64 0,.int .i64 0,.int .i64 0,.slice none 0 0,.int .i64 0,.slice none 0 0,.slice none 0 0]))⟩/\ak prog 41=some ⟨2,(some (.agg #[.slice none 0 0,.slice none 0 0])),.struct [(0,1),(1,1)]⟩/\ak prog 42=some ⟨2,(some (.agg #[.slice none 0 0,.slice none 0 0])),.struct [(0,1),(1,1)]⟩/\ak prog 45=some ⟨1,(some (.slice none 0 0)),.slice 39 1 24 (some (.slice none 0 0))⟩/\ak prog 49=some ⟨2,(some (.agg #[.int .i64 0,.int .i64 0])),.struct [(0,1),(1,1)]⟩/\ak prog 50=some ⟨2,(some (.agg #[.int .i64 0,.int .i64 0])),.struct [(0,1),(1,1)]⟩/\ak prog 52=some ⟨1,(some (.slice none 0 0)),.slice 68 3 24 (some (.agg #[.int .i64 0,.int .i64 0,.int .i64 0]))⟩/\ak prog 53=some ⟨3,(some (.agg #[.int .i64 0,.slice none 0 0,.slice none 0 0])),.struct [(0,1),(1,1),(2,1)]⟩/\ak prog 54=some ⟨3,(some (.agg #[.int .i64 0,.slice none 0 0,.slice none 0 0])),.struct [(0,1),(1,1),(2,1)]⟩/\ak prog 55=some ⟨5,(some (.agg #[.int .i64 0,.slice none 0 0,.int .i64 0,.slice none 0 0,.slice none 0 0])),.struct [(0,1),(1,1),(2,3)]⟩/\ak prog 56=some ⟨5,(some (.agg #[.int .i64 0,.slice none 0 0,.int .i64 0,.slice none 0 0,.slice none 0 0])),.struct [(0,1),(1,1),(2,3)]⟩/\ak prog 57=some ⟨8,(some (.agg #[.int .i64 0,.int .i64 0,.int .i64 0,.int .i64 0,.slice none 0 0,.int .i64 0,.slice none 0 0,.slice none 0 0])),.struct [(0,1),(1,1),(2,1),(3,5)]⟩/\ak prog 58=some ⟨8,(some (.agg #[.int .i64 0,.int .i64 0,.int .i64 0,.int .i64 0,.slice none 0 0,.int .i64 0,.slice none 0 0,.slice none 0 0])),.struct [(0,1),(1,1),(2,1),(3,5)]⟩/\ak prog 67=some ⟨3,(some (.agg #[.int .i64 0,.int .i64 0,.int .i64 0])),.array 3 1⟩/\ii prog 67=some (some 3)/\ak prog 68=some ⟨3,(some (.agg #[.int .i64 0,.int .i64 0,.int .i64 0])),.array 3 1⟩/\ii prog 68=some (some 3)/\ak prog 69=some ⟨3,(some (.agg #[.int .i64 0,.int .i64 0,.slice none 0 0])),.struct [(0,1),(1,1),(2,1)]⟩/\ak prog 70=some ⟨3,(some (.agg #[.int .i64 0,.int .i64 0,.slice none 0 0])),.struct [(0,1),(1,1),(2,1)]⟩/\ak prog 71=some ⟨1,(some (.pointer none)),.one⟩/\ak prog 77=some ⟨2,(some (.agg #[.int .i64 0,.int .i64 0])),.struct [(0,1),(1,1)]⟩/\ak prog 78=some ⟨2,(some (.agg #[.int .i64 0,.int .i64 0])),.struct [(0,1),(1,1)]⟩/\ak prog 80=some ⟨12,(some (.agg #[.string ByteArray.empty,.int .i64 0,.int .i64 0,.int .i64 0,.int .i64 0,.int .i64 0,.int .i64 0,.int .i64 0,.int .i64 0,.int .i64 0,.int .i64 0,.int .i64 0])),.struct [(0,1),(1,1),(2,1),(3,3),(6,1),(7,1),(8,1),(9,1),(10,1),(11,1)]⟩/\ak prog 81=some ⟨12,(some (.agg #[.string ByteArray.empty,.int .i64 0,.int .i64 0,.int .i64 0,.int .i64 0,.int .i64 0,.int .i64 0,.int .i64 0,.int .i64 0,.int .i64 0,.int .i64 0,.int .i64 0])),.struct [(0,1),(1,1),(2,1),(3,3),(6,1),(7,1),(8,1),(9,1),(10,1),(11,1)]⟩/\ak prog 82=some ⟨1,(some (.int .i64 0)),.one⟩/\dU prog 82=some .i64/\ak prog 87=some ⟨1,(some (.pointer none)),.one⟩:=by repeat' (first|kernel_rfl|refine ⟨by kernel_rfl,?_⟩)
@[simp] theorem RI:ak prog 90=some ⟨1,(some (.slice none 0 0)),.slice 31 1 24 (some (.slice none 0 0))⟩:=by kernel_rfl
@[simp] theorem WD:ak prog 91=some ⟨5,(some (.agg #[.slice none 0 0,.slice none 0 0,.slice none 0 0,.slice none 0 0,.slice none 0 0])),.struct [(0,2),(2,1),(3,1),(4,1)]⟩/\ak prog 92=some ⟨5,(some (.agg #[.slice none 0 0,.slice none 0 0,.slice none 0 0,.slice none 0 0,.slice none 0 0])),.struct [(0,2),(2,1),(3,1),(4,1)]⟩/\ak prog 110=some ⟨1,(some (.slice none 0 0)),.slice 4 1 1 (some (.bool false))⟩/\ak prog 111=some ⟨3,(some (.agg #[.slice none 0 0,.slice none 0 0,.slice none 0 0])),.struct [(0,1),(1,1),(2,1)]⟩/\ak prog 112=some ⟨3,(some (.agg #[.slice none 0 0,.slice none 0 0,.slice none 0 0])),.struct [(0,1),(1,1),(2,1)]⟩/\ak prog 118=some ⟨2,(some (.agg #[.slice none 0 0,.int .i64 0])),.struct [(0,1),(1,1)]⟩/\ak prog 119=some ⟨2,(some (.agg #[.slice none 0 0,.int .i64 0])),.struct [(0,1),(1,1)]⟩/\ak prog 121=some ⟨5,(some (.agg #[.int .i64 0,.int .i64 0,.int .i64 0,.int .i64 0,.int .i64 0])),.struct [(0,1),(1,1),(2,3)]⟩/\ak prog 122=some ⟨5,(some (.agg #[.int .i64 0,.int .i64 0,.int .i64 0,.int .i64 0,.int .i64 0])),.struct [(0,1),(1,1),(2,3)]⟩/\ak prog 139=some ⟨1,(some (.nilFunc)),.one⟩/\ak prog 140=some ⟨4,(some (.agg #[.pointer none,.slice none 0 0,.slice none 0 0,.nilFunc])),.struct [(0,1),(1,1),(2,1),(3,1)]⟩/\ak prog 141=some ⟨4,(some (.agg #[.pointer none,.slice none 0 0,.slice none 0 0,.nilFunc])),.struct [(0,1),(1,1),(2,1),(3,1)]⟩/\ak prog 147=some ⟨1,(some (.slice none 0 0)),.slice 200 2 16 (some (.agg #[.int .i64 0,.int .i64 0]))⟩/\ak prog 148=some ⟨1,(some (.slice none 0 0)),.slice 153 1 24 (some (.slice none 0 0))⟩/\ak prog 149=some ⟨3,(some (.agg #[.slice none 0 0,.slice none 0 0,.slice none 0 0])),.struct [(0,1),(1,1),(2,1)]⟩/\ak prog 150=some ⟨3,(some (.agg #[.slice none 0 0,.slice none 0 0,.slice none 0 0])),.struct [(0,1),(1,1),(2,1)]⟩/\ak prog 153=some ⟨1,(some (.slice none 0 0)),.slice 216 6 48 (some (.agg #[.int .i64 0,.int .i64 0,.int .i64 0,.int .i64 0,.int .i64 0,.int .i64 0]))⟩/\ak prog 154=some ⟨4,(some (.agg #[.slice none 0 0,.slice none 0 0,.int .i64 0,.int .i64 0])),.struct [(0,1),(1,1),(2,1),(3,1)]⟩/\ak prog 155=some ⟨4,(some (.agg #[.slice none 0 0,.slice none 0 0,.int .i64 0,.int .i64 0])),.struct [(0,1),(1,1),(2,1),(3,1)]⟩/\ak prog 159=some ⟨7,(some (.agg #[.int .i64 0,.int .i64 0,.int .i64 0,.int .i64 0,.slice none 0 0,.slice none 0 0,.int .i64 0])),.struct [(0,1),(1,3),(4,1),(5,1),(6,1)]⟩/\ak prog 160=some ⟨7,(some (.agg #[.int .i64 0,.int .i64 0,.int .i64 0,.int .i64 0,.slice none 0 0,.slice none 0 0,.int .i64 0])),.struct [(0,1),(1,3),(4,1),(5,1),(6,1)]⟩/\ak prog 165=some ⟨3,(some (.agg #[.int .i64 0,.slice none 0 0,.slice none 0 0])),.struct [(0,3)]⟩/\ak prog 166=some ⟨3,(some (.agg #[.int .i64 0,.slice none 0 0,.slice none 0 0])),.struct [(0,3)]⟩/\ak prog 167=some ⟨1,(some (.agg #[.slice none 0 0])),.struct [(0,1)]⟩/\ak prog 168=some ⟨1,(some (.agg #[.slice none 0 0])),.struct [(0,1)]⟩/\ak prog 174=some ⟨1,(some (.slice none 0 0)),.slice 179 2 32 (some (.agg #[.slice none 0 0,.int .i64 0]))⟩/\ak prog 178=some ⟨2,(some (.agg #[.slice none 0 0,.int .i64 0])),.struct [(0,1),(1,1)]⟩/\ak prog 179=some ⟨2,(some (.agg #[.slice none 0 0,.int .i64 0])),.struct [(0,1),(1,1)]⟩/\ak prog 195=some ⟨1,(some (.nilFunc)),.one⟩/\ak prog 200=some ⟨2,(some (.agg #[.int .i64 0,.int .i64 0])),.struct [(0,1),(1,1)]⟩/\ak prog 202=some ⟨1,(some (.nilFunc)),.one⟩/\ak prog 205=some ⟨2,(some (.agg #[.slice none 0 0,.slice none 0 0])),.struct [(0,1),(1,1)]⟩/\ak prog 206=some ⟨2,(some (.agg #[.slice none 0 0,.slice none 0 0])),.struct [(0,1),(1,1)]⟩/\ak prog 208=some ⟨2,(some (.agg #[.slice none 0 0,.slice none 0 0])),.struct [(0,2)]⟩/\ak prog 209=some ⟨2,(some (.agg #[.slice none 0 0,.slice none 0 0])),.struct [(0,2)]⟩/\ak prog 210=some ⟨2,(some (.agg #[.slice none 0 0,.slice none 0 0])),.struct [(0,2)]⟩/\ak prog 211=some ⟨8,(some (.agg #[.slice none 0 0,.slice none 0 0,.slice none 0 0,.slice none 0 0,.int .i64 0,.int .i64 0,.int .i64 0,.int .i64 0])),.struct [(0,2),(2,2),(4,3),(7,1)]⟩/\ak prog 212=some ⟨8,(some (.agg #[.slice none 0 0,.slice none 0 0,.slice none 0 0,.slice none 0 0,.int .i64 0,.int .i64 0,.int .i64 0,.int .i64 0])),.struct [(0,2),(2,2),(4,3),(7,1)]⟩/\ak prog 215=some ⟨6,(some (.agg #[.int .i64 0,.int .i64 0,.int .i64 0,.int .i64 0,.int .i64 0,.int .i64 0])),.array 3 2⟩/\ii prog 215=none/\tN prog 215=some (3,2)/\ak prog 216=some ⟨6,(some (.agg #[.int .i64 0,.int .i64 0,.int .i64 0,.int .i64 0,.int .i64 0,.int .i64 0])),.array 3 2⟩/\ii prog 216=none/\tN prog 216=some (3,2)/\ak prog 220=some ⟨1,(some (.nilIface)),.one⟩/\ak prog 230=some ⟨1,(some (.nilFunc)),.one⟩/\ak prog 242=some ⟨1,(some (.slice none 0 0)),.slice 247 24 192 (some (.agg #[.int .i64 0,.int .i64 0,.int .i64 0,.int .i64 0,.int .i64 0,.int .i64 0,.int .i64 0,.int .i64 0,.int .i64 0,.int .i64 0,.int .i64 0,.int .i64 0,.int .i64 0,.int .i64 0,.int .i64 0,.int .i64 0,.int .i64 0,.int .i64 0,.int .i64 0,.int .i64 0,.int .i64 0,.int .i64 0,.int .i64 0,.int .i64 0]))⟩/\ak prog 244=some ⟨18,(some (.agg #[.int .i64 0,.int .i64 0,.int .i64 0,.int .i64 0,.int .i64 0,.int .i64 0,.int .i64 0,.int .i64 0,.int .i64 0,.int .i64 0,.int .i64 0,.int .i64 0,.int .i64 0,.int .i64 0,.int .i64 0,.int .i64 0,.int .i64 0,.int .i64 0])),.array 3 6⟩/\ii prog 244=none/\tN prog 244=some (3,6)/\ak prog 245=some ⟨18,(some (.agg #[.int .i64 0,.int .i64 0,.int .i64 0,.int .i64 0,.int .i64 0,.int .i64 0,.int .i64 0,.int .i64 0,.int .i64 0,.int .i64 0,.int .i64 0,.int .i64 0,.int .i64 0,.int .i64 0,.int .i64 0,.int .i64 0,.int .i64 0,.int .i64 0])),.array 3 6⟩/\ii prog 245=none/\tN prog 245=some (3,6)/\ak prog 246=some ⟨24,(some (.agg #[.int .i64 0,.int .i64 0,.int .i64 0,.int .i64 0,.int .i64 0,.int .i64 0,.int .i64 0,.int .i64 0,.int .i64 0,.int .i64 0,.int .i64 0,.int .i64 0,.int .i64 0,.int .i64 0,.int .i64 0,.int .i64 0,.int .i64 0,.int .i64 0,.int .i64 0,.int .i64 0,.int .i64 0,.int .i64 0,.int .i64 0,.int .i64 0])),.struct [(0,18),(18,6)]⟩/\ak prog 247=some ⟨24,(some (.agg #[.int .i64 0,.int .i64 0,.int .i64 0,.int .i64 0,.int .i64 0,.int .i64 0,.int .i64 0,.int .i64 0,.int .i64 0,.int .i64 0,.int .i64 0,.int .i64 0,.int .i64 0,.int .i64 0,.int .i64 0,.int .i64 0,.int .i64 0,.int .i64 0,.int .i64 0,.int .i64 0,.int .i64 0,.int .i64 0,.int .i64 0,.int .i64 0])),.struct [(0,18),(18,6)]⟩/\ak prog 254=some ⟨2,(some (.agg #[.slice none 0 0,.int .i64 0])),.struct [(0,1),(1,1)]⟩/\ak prog 255=some ⟨2,(some (.agg #[.slice none 0 0,.int .i64 0])),.struct [(0,1),(1,1)]⟩/\ak prog 256=some ⟨4,(some (.agg #[.slice none 0 0,.int .i64 0,.slice none 0 0,.int .i64 0])),.struct [(0,2),(2,2)]⟩/\ak prog 257=some ⟨4,(some (.agg #[.slice none 0 0,.int .i64 0,.slice none 0 0,.int .i64 0])),.struct [(0,2),(2,2)]⟩/\ak prog 259=some ⟨1,(some (.pointer none)),.one⟩:=by repeat' (first|kernel_rfl|refine ⟨by kernel_rfl,?_⟩)
@[simp] theorem UU:ak prog 297=some ⟨1,(some (.nilFunc)),.one⟩/\ak prog 298=some ⟨1,(some (.agg #[.nilFunc])),.struct [(0,1)]⟩/\ak prog 299=some ⟨1,(some (.agg #[.nilFunc])),.struct [(0,1)]⟩/\ak prog 310=some ⟨1,(some (.int .i64 0)),.one⟩/\dU prog 310=some .i64/\ak prog 313=some ⟨1,(some (.nilFunc)),.one⟩/\ak prog 314=some ⟨2,(some (.agg #[.nilFunc,.nilFunc])),.struct [(0,1),(1,1)]⟩/\ak prog 315=some ⟨2,(some (.agg #[.nilFunc,.nilFunc])),.struct [(0,1),(1,1)]⟩/\ak prog 319=some ⟨1,(some (.int .u64 0)),.one⟩/\dU prog 319=some .u64/\ak prog 321=some ⟨4,(some (.agg #[.int .i64 0,.int .i64 0,.int .i64 0,.int .i64 0])),.array 4 1⟩/\ii prog 321=some (some 4)/\ak prog 322=some ⟨1,(some (.int .u64 0)),.one⟩/\dU prog 322=some .u64/\ak prog 326=some ⟨11,(some (.agg #[.int .i64 0,.int .i64 0,.int .i64 0,.int .i64 0,.int .i64 0,.int .i64 0,.int .i64 0,.int .i64 0,.int .i64 0,.int .i64 0,.int .i64 0])),.array 11 1⟩/\ii prog 326=some (some 11)/\ak prog 329=some ⟨11,(some (.agg #[.int .i64 0,.int .i64 0,.int .i64 0,.int .i64 0,.int .i64 0,.int .i64 0,.int .i64 0,.int .i64 0,.int .i64 0,.int .i64 0,.int .i64 0])),.array 11 1⟩/\ii prog 329=some (some 11)/\ak prog 333=some ⟨4,(some (.agg #[.pointer none,.pointer none,.pointer none,.string ByteArray.empty])),.struct [(0,1),(1,1),(2,1),(3,1)]⟩/\ak prog 334=some ⟨4,(some (.agg #[.pointer none,.pointer none,.pointer none,.string ByteArray.empty])),.struct [(0,1),(1,1),(2,1),(3,1)]⟩/\ak prog 335=some ⟨0,(some (.agg #[])),.array 0 1⟩/\ii prog 335=some (some 0)/\ak prog 336=some ⟨0,(some (.agg #[])),.struct [(0,0)]⟩/\ak prog 337=some ⟨0,(some (.agg #[])),.struct [(0,0)]⟩/\ak prog 339=some ⟨1,(some (.int .u32 0)),.one⟩/\dU prog 339=some .u32/\ak prog 340=some ⟨1,(some (.int .u8 0)),.one⟩/\dU prog 340=some .u8/\ak prog 341=some ⟨1,(some (.int .u8 0)),.one⟩/\dU prog 341=some .u8/\ak prog 342=some ⟨1,(some (.nilFunc)),.one⟩/\ak prog 343=some ⟨1,(some (.pointer none)),.one⟩/\ak prog 344=some ⟨1,(some (.int .i32 0)),.one⟩/\dU prog 344=some .i32/\ak prog 345=some ⟨1,(some (.int .i32 0)),.one⟩/\dU prog 345=some .i32/\ak prog 346=some ⟨11,(some (.agg #[.int .u64 0,.int .u64 0,.int .u32 0,.int .u8 0,.int .u8 0,.int .u8 0,.int .u8 0,.nilFunc,.pointer none,.int .i32 0,.int .i32 0])),.struct [(0,1),(1,1),(2,1),(3,1),(4,1),(5,1),(6,1),(7,1),(8,1),(9,1),(10,1)]⟩/\ak prog 347=some ⟨11,(some (.agg #[.int .u64 0,.int .u64 0,.int .u32 0,.int .u8 0,.int .u8 0,.int .u8 0,.int .u8 0,.nilFunc,.pointer none,.int .i32 0,.int .i32 0])),.struct [(0,1),(1,1),(2,1),(3,1),(4,1),(5,1),(6,1),(7,1),(8,1),(9,1),(10,1)]⟩:=by repeat' (first|kernel_rfl|refine ⟨by kernel_rfl,?_⟩)
abbrev I(lo hi:Int):PV:=.val (.agg #[.int .i64 lo,.int .i64 hi])
abbrev aP(x:Int×Int):PV:=I x.1 x.2
abbrev B(b:Bool):PV:=.val (.bool b)
abbrev Z(n:Int):PV:=.val (.int .i64 n)
abbrev wr(n:Int):Int:=i64.wrap n
def aw(lo hi:Int):Bool:=decide (-2147483648<=lo)&&decide (lo<=hi)&&decide (hi<=2147483648)
theorem Sj(a b c d:Int):ao prog (Op.equal 50 (.agg #[.int .i64 a,.int .i64 b]) (.agg #[.int .i64 c,.int .i64 d]))=some (a==c&&b==d):=by
 have hf:(prog.fieldsOf 50).toList=[(prog.fieldsOf 50)[0]!,(prog.fieldsOf 50)[1]!]:=by kernel_rfl
 show ao prog (Op.equalIn (9999+1) 50 _ _)=_;rw[AU 9999 50 _ _ (by kernel_rfl) (by kernel_rfl),hf]
 have h:=wD (P:=prog) (d:=9999) (xs:=#[.int .i64 a,.int .i64 b]) (ys:=#[.int .i64 c,.int .i64 d]) (f:=(prog.fieldsOf 50)[0]!) (fs:=[(prog.fieldsOf 50)[1]!]) (a:=.int .i64 a) (b:=.int .i64 c) (by decide +kernel) (by kernel_rfl) (by kernel_rfl) (vu 9998 _ .i64 .i64 a c (by kernel_rfl))
  (wD (by decide +kernel) (a:=.int .i64 b) (b:=.int .i64 d) (by kernel_rfl) (by kernel_rfl) (vu 9998 _ .i64 .i64 b d (by kernel_rfl)) GF)
 rw[h];simp
def jv(P:Program)(o:Oper)(ρ:Operand->AV):Option cX:=bF P o ρ
def wG(x:AV):Option (Int×Int):=match x with
 |.pv (.val (.agg vs))=>match vs.toList with
  |[.int .i64 a,.int .i64 b]=>some (a,b)
  |_=>none
 |_=>none
theorem qH{x:AV}{a b:Int}(h:wG x=some (a,b)):x=.pv (I a b):=by
 unfold wG at h;split at h
 .split at h
  .rename_i vs _ d e c
   injection h with h;injection h with h1 h2;subst h1;subst h2;rw[<-Array.toArray_toList (xs:=vs),c]
  .cases h
 .cases h
def Id(x y:AV)(fb:Option cX):Option cX:=match wG x,wG y with
 |some (a,b),some (c,d)=>some (.pv (.val (.bool !(a==c&&b==d))),[])
 |_,_=>fb
@[simp] theorem Oi(a b c d:Int)(fb:Option cX):Id (.pv (.val (.agg #[.int .i64 a,.int .i64 b]))) (.pv (.val (.agg #[.int .i64 c,.int .i64 d]))) fb=some (.pv (.val (.bool !(a==c&&b==d))),[]):=rfl
@[simp] theorem Vz{ty:TypeId}{pos:String}(x y:Operand):
 bF prog ⟨dst,.binOp .neq 50 x y 50,ty,pos,aft,g⟩ ρ=Id (ρ x) (ρ y) (jv prog ⟨dst,.binOp .neq 50 x y 50,ty,pos,aft,g⟩ ρ):=by
 unfold Id;split
 .rename_i a b c d e f
  exact zi rfl (qH e) (qH f) (by kernel_rfl) (Sj a b c d)
 .rfl
theorem jT(lo hi:Int):bk 143 (I lo hi) (B (aw lo hi)):=by
 refine Dp func143 λC hP hN=>?_
 with_reducible repeat' (first|refine Sp.h ?_|((first|refine Ss.h ?_|(refine Sb.h ?_ ?_ ?_<;>(try intro hgd)<;>try exact Xy))<;>simp -implicitDefEqProofs (maxSteps:=2000000) [hP,hN])|refine X2 ?_ ?_|(refine Xd ?_ ?_<;>intro hcd<;>try exact Xx))
 all_goals (first|(simp_all[aw];done)|((try simp_all[aw])<;>(try omega)<;>grind))
theorem oA(lo hi:Int):bk 39 (I lo hi) (B (aw lo hi)):=by
 refine Dp func39 λC hP hN=>?_
 with_reducible repeat' (first|refine Sp.h ?_|((first|refine Ss.h ?_|(refine Sb.h ?_ ?_ ?_<;>(try intro hgd)<;>try exact Xy))<;>simp -implicitDefEqProofs (maxSteps:=2000000) [hP,hN])|refine X2 ?_ ?_|(refine Xd ?_ ?_<;>intro hcd<;>try exact Xx))
 all_goals (first|(simp_all[aw];done)|((try simp_all[aw])<;>(try omega)<;>grind))
theorem yb(a b c d:Int):aO 176 (I a b) (I c d) (B (aw a b&&aw c d)):=by
 refine Dp func176 λC hP hN=>?_
 with_reducible repeat' (first|refine Sp.h ?_|((first|refine Ss.h ?_|refine Sc.h (jT _ _) ?_|(refine Sb.h ?_ ?_ ?_<;>(try intro hgd)<;>try exact Xy))<;>simp -implicitDefEqProofs (maxSteps:=2000000) [hP,hN])|refine X2 ?_ ?_|(refine Xd ?_ ?_<;>intro hcd<;>try exact Xx))
 all_goals (first|(simp_all;done)|((try simp_all)<;>(try omega)<;>grind))
theorem Pa(a b c d:Int):aO 129 (I a b) (I c d) (B (aw a b&&aw c d&&decide (c<=a)&&decide (b<=d))):=by
 refine Dp func129 λC hP hN=>?_
 with_reducible repeat' (first|refine Sp.h ?_|((first|refine Ss.h ?_|refine Sc.h (yb _ _ _ _) ?_|(refine Sb.h ?_ ?_ ?_<;>(try intro hgd)<;>try exact Xy))<;>simp -implicitDefEqProofs (maxSteps:=2000000) [hP,hN])|refine X2 ?_ ?_|(refine Xd ?_ ?_<;>intro hcd<;>try exact Xx))
 all_goals (first|(simp_all;done)|((try simp_all)<;>(try omega)<;>grind))
theorem Pb(a b c d:Int):aO 228 (I a b) (I c d) (B (aw a b&&aw c d&&decide (c<=a)&&decide (b<=d))):=by
 refine Dp func228 λC hP hN=>?_
 with_reducible repeat' (first|refine Sp.h ?_|((first|refine Ss.h ?_|refine Sc.h (oA _ _) ?_|(refine Sb.h ?_ ?_ ?_<;>(try intro hgd)<;>try exact Xy))<;>simp -implicitDefEqProofs (maxSteps:=2000000) [hP,hN])|refine X2 ?_ ?_|(refine Xd ?_ ?_<;>intro hcd<;>try exact Xx))
 all_goals (first|(simp_all;done)|((try simp_all)<;>(try omega)<;>grind))
def pG(n k:Int):Int:=if n.tmod k<0 then wr (n.tmod k+k)else n.tmod k
theorem Oj(n k:Int)(a:k≠0):aO 10 (Z n) (Z k) (Z (pG n k)):=by
 refine Dp func10 λC hP hN=>?_
 with_reducible repeat' (first|refine Sp.h ?_|((first|refine Ss.h ?_|(refine Sb.h ?_ ?_ ?_<;>(try intro hgd)<;>try exact Xy))<;>simp -implicitDefEqProofs (maxSteps:=2000000) [hP,hN,a])|refine X2 ?_ ?_|(refine Xd ?_ ?_<;>intro hcd<;>try exact Xx))
 all_goals (first|(simp_all[pG];done)|((try simp_all[pG])<;>(try omega)<;>grind))
@[simp] theorem RW(a b:Int):(if b<a then b else a)=min a b:=by split<;>omega
@[simp] theorem RX(a b:Int):(if a<b then b else a)=max a b:=by split<;>omega
theorem aa{n:Int}(h1:-9223372036854775808<=n:=by omega)(a:n<9223372036854775808:=by omega):wr n=n:=by
 rw[wr,IntKind.wrap_i64];omega
theorem ND(a:k<64):min k.toNat 64=k.toNat:=by omega
theorem Lu:i64.bits=64:=rfl
theorem Pc(a:Int):bk 309 (Z a) (Z (min (max a (-2147483648)) 2147483648)):=by
 refine Dp func309 λC hP hN=>?_;exact Gy
 all_goals (first|(simp_all;done)|((try simp_all)<;>(try omega)<;>grind))
theorem Lv(a b:Int):aO 298 (Z a) (Z b) (I (min (max a (-2147483648)) 2147483648) (min (max b (-2147483648)) 2147483648)):=by
 refine Dp func298 λC hP hN=>?_;have c:=@Pc;exact GS trivial
 all_goals (first|(simp_all;done)|((try simp_all)<;>(try omega)<;>grind))
theorem Pd(a:Int):bk 275 (Z a) (I (min (max a (-2147483648)) 2147483648) (min (max a (-2147483648)) 2147483648)):=by
 refine Dp func275 λC hP hN=>?_;have b:=@Lv;exact GS trivial
 all_goals (first|(simp_all;done)|((try simp_all)<;>(try omega)<;>grind))
theorem Pe(a k:Int)(h:0<=k)(b:k<64):aO 183 (Z a) (Z k) (Z (a.fdiv (2^k.toNat))):=by
 refine Dp func183 λC hP hN=>?_;exact GS (be h @Lu (ND b))
 all_goals (first|(simp_all;done)|((try simp_all)<;>(try omega)<;>grind))
def gR(x y:Int×Int):Int×Int:=if aw x.1 x.2&&aw y.1 y.2 then(min x.1 y.1,max x.2 y.2)else(0,0)
theorem Fo(a b c d:Int):aO 335 (I a b) (I c d) (aP (gR (a,b) (c,d))):=by
 refine Dp func335 λC hP hN=>?_
 with_reducible repeat' (first|refine Sp.h ?_|((first|refine Ss.h ?_|refine Sc.h (yb _ _ _ _) ?_|(refine Sb.h ?_ ?_ ?_<;>(try intro hgd)<;>try exact Xy))<;>simp -implicitDefEqProofs (maxSteps:=2000000) [hP,hN])|refine X2 ?_ ?_|(refine Xd ?_ ?_<;>intro hcd<;>try exact Xx))
 all_goals (first|(simp_all[gR];done)|((try simp_all[gR])<;>(try omega)<;>grind))
theorem Fp(a b c d:Int):aO 326 (I a b) (I c d) (aP (gR (a,b) (c,d))):=by
 refine Dp func326 λC hP hN=>?_
 with_reducible repeat' (first|refine Sp.h ?_|((first|refine Ss.h ?_|refine Sc.h (oA _ _) ?_|(refine Sb.h ?_ ?_ ?_<;>(try intro hgd)<;>try exact Xy))<;>simp -implicitDefEqProofs (maxSteps:=2000000) [hP,hN])|refine X2 ?_ ?_|(refine Xd ?_ ?_<;>intro hcd<;>try exact Xx))
 all_goals (first|(simp_all[gR];done)|((try simp_all[gR])<;>(try omega)<;>grind))
theorem vw(a b:Int):bk 136 (I a b) (Z (if aw a b then wr (b-a)else 0)):=by
 refine Dp func136 λC hP hN=>?_
 with_reducible repeat' (first|refine Sp.h ?_|((first|refine Ss.h ?_|refine Sc.h (jT _ _) ?_|(refine Sb.h ?_ ?_ ?_<;>(try intro hgd)<;>try exact Xy))<;>simp -implicitDefEqProofs (maxSteps:=2000000) [hP,hN])|refine X2 ?_ ?_|(refine Xd ?_ ?_<;>intro hcd<;>try exact Xx))
 all_goals (first|(simp_all;done)|((try simp_all)<;>(try omega)<;>grind))
theorem Lx(a b:Int):bk 137 (I a b) (Z (if aw a b then(wr (a+b)).fdiv 2 else 0)):=by
 refine Dp func137 λC hP hN=>?_
 with_reducible repeat' (first|refine Sp.h ?_|((first|refine Ss.h ?_|refine Sc.h (jT _ _) ?_|refine Sc.h (Pe _ _ (by decide) (by decide)) ?_|(refine Sb.h ?_ ?_ ?_<;>(try intro hgd)<;>try exact Xy))<;>simp -implicitDefEqProofs (maxSteps:=2000000) [hP,hN])|refine X2 ?_ ?_|(refine Xd ?_ ?_<;>intro hcd<;>try exact Xx))
 all_goals (first|(simp_all;done)|((try simp_all)<;>(try omega)<;>grind))
theorem Ly(a b x:Int):aO 189 (I a b) (Z x) (B (aw a b&&decide (a<=x)&&decide (x<=b))):=by
 refine Dp func189 λC hP hN=>?_
 with_reducible repeat' (first|refine Sp.h ?_|((first|refine Ss.h ?_|refine Sc.h (jT _ _) ?_|(refine Sb.h ?_ ?_ ?_<;>(try intro hgd)<;>try exact Xy))<;>simp -implicitDefEqProofs (maxSteps:=2000000) [hP,hN])|refine X2 ?_ ?_|(refine Xd ?_ ?_<;>intro hcd<;>try exact Xx))
 all_goals (first|(simp_all;done)|((try simp_all)<;>(try omega)<;>grind))
theorem Pf(a b x:Int):aO 114 (I a b) (Z x) (B (aw a b&&decide (a<=x)&&decide (x<=b))):=by
 refine Dp func114 λC hP hN=>?_
 with_reducible repeat' (first|refine Sp.h ?_|((first|refine Ss.h ?_|refine Sc.h (oA _ _) ?_|(refine Sb.h ?_ ?_ ?_<;>(try intro hgd)<;>try exact Xy))<;>simp -implicitDefEqProofs (maxSteps:=2000000) [hP,hN])|refine X2 ?_ ?_|(refine Xd ?_ ?_<;>intro hcd<;>try exact Xx))
 all_goals (first|(simp_all;done)|((try simp_all)<;>(try omega)<;>grind))
theorem Lz(a b c d:Int):aO 187 (I a b) (I c d) (.tup (if aw a b&&aw c d&&decide (max a c<=min b d)then[I (max a c) (min b d),B true]else[I 0 0,B false])):=by
 refine Dp func187 λC hP hN=>?_
 with_reducible repeat' (first|refine Sp.h ?_|((first|refine Ss.h ?_|refine Sc.h (yb _ _ _ _) ?_|(refine Sb.h ?_ ?_ ?_<;>(try intro hgd)<;>try exact Xy))<;>simp -implicitDefEqProofs (maxSteps:=2000000) [hP,hN])|refine X2 ?_ ?_|(refine Xd ?_ ?_<;>intro hcd<;>try exact Xx))
 all_goals (first|(simp_all;done)|((try simp_all)<;>(try omega)<;>grind))
theorem Pg(a b c d:Int):aO 166 (I a b) (I c d) (.tup (if aw a b&&aw c d&&decide (max a c<=min b d)then[I (max a c) (min b d),B true]else[I 0 0,B false])):=by
 refine Dp func166 λC hP hN=>?_
 with_reducible repeat' (first|refine Sp.h ?_|((first|refine Ss.h ?_|refine Sc.h (oA _ _) ?_|(refine Sb.h ?_ ?_ ?_<;>(try intro hgd)<;>try exact Xy))<;>simp -implicitDefEqProofs (maxSteps:=2000000) [hP,hN])|refine X2 ?_ ?_|(refine Xd ?_ ?_<;>intro hcd<;>try exact Xx))
 all_goals (first|(simp_all;done)|((try simp_all)<;>(try omega)<;>grind))
abbrev zs(xs:List Int):PV:=.sl (xs.map Z)
abbrev iv(xs:List (Int×Int)):PV:=.sl (xs.map aP)
abbrev Fv(f:FuncId):PV:=.val (.func (.func f) #[] #[])
theorem vz(h:n<=16777216):n<=9223372036854775807:=by omega
theorem am(h:i<n)(hn:n<=9223372036854775807):i64.wrap ((i:Int)+1)=(i:Int)+1:=by rw[IntKind.wrap_i64];omega
def oE(p:α->Bool)(xs:List α):Int:=match xs.findIdx? p with
 |some i=>i
 |none=>-1
theorem qI(b:i<xs.length)(hq:∀j x,j<i->xs[j]?=some x->p x=false)(hp:p xs[i]=true):oE p xs=i:=by
 have:xs.findIdx? p=some i:=by
  rw[Wc];refine⟨b,hp,λj c=>?_⟩
  have a:j<xs.length:=by omega
  rw[hq j xs[j] c (an a)];simp
 simp[oE,this]
theorem vA(hq:∀(j:Nat) x,xs[j]?=some x->p x=false):oE p xs=-1:=by
 have:xs.findIdx? p=none:=by
  rw[List.findIdx?_eq_none_iff];intro x b;obtain⟨j,a,rfl⟩:=Vk.1 b;exact hq j _ (an a)
 simp[oE,this]
theorem t5(p:α->Bool)(xs:List α):decide (0<=oE p xs)=xs.any p:=by
 unfold oE
 cases h:xs.findIdx? p with
 |none=>
  rw[List.findIdx?_eq_none_iff]at h
  have:xs.any p=false:=by
   rw[VP];intro x b;rw[h x b];simp
  simp[this]
 |some i=>
  rw[Wc]at h;obtain⟨a,hp,_⟩:=h;have:xs.any p=true:=VY.2 ⟨xs[i],Ul a,hp⟩;simp[this]
theorem pH(b:i<xs.length)(hq:∀j x,j<i->xs[j]?=some x->p x=false)(hp:p xs[i]=false):∀j x,j<i+1->xs[j]?=some x->p x=false:=by
 intro j x c a;by_cases e:j=i
 .subst e;rw[an b]at a;injection a with a;subst a;exact hp
 .exact hq j x (by omega) a
theorem yc(b:¬i<xs.length)(hq:∀j x,j<i->xs[j]?=some x->p x=false):∀(j:Nat) x,xs[j]?=some x->p x=false:=by
 intro j x a;have:=(th.1 a).1;exact hq j x (by omega) a
theorem Ph(f:FuncId)(p:Int×Int->Bool)(xs:List (Int×Int))(d:xs.length<=9223372036854775807)(hf:∀x,bf prog f [.pv (aP x)] [] [] (.pv (B (p x)))):aO 242 (iv xs) (Fv f) (Z (oE p xs)):=by
 refine Dp func242 λC hP hN=>?_;refine Gz ?_;refine WP.loopN [] xs.length (λi st=>st.t 0=.pv (iv xs)/\st.t 1=.pv (Fv f)/\st.t 7=.pv (Z xs.length)/\st.t 8=.pv (Z i)/\∀j x,j<i->xs[j]?=some x->p x=false) (by simp) ?_;rintro i st hi ⟨b,c,h7,h8,hq⟩;by_cases a:i<xs.length
 .have e:=am a d
  with_reducible repeat' (first|refine Sp.h ?_|((first|refine Ss.h ?_|refine Sc.h (hf _) ?_|(refine Sb.h ?_ ?_ ?_<;>(try intro hgd)<;>try exact Xy))<;>simp -implicitDefEqProofs (maxSteps:=2000000) [hP,hN,b,c,h7,h8,a,e])|refine X2 ?_ ?_|(refine Xd ?_ ?_<;>intro hcd<;>try exact Xx))
  .exact(qI a hq hcd).symm
  .simpa using pH a hq hcd
 .skip
  refine Gz ?_;exact(vA (yc a hq)).symm
theorem LC(f:FuncId)(p:Int×Int->Bool)(xs:List (Int×Int))(a:xs.length<=9223372036854775807)(hf:∀x,bf prog f [.pv (aP x)] [] [] (.pv (B (p x)))):aO 181 (iv xs) (Fv f) (B (xs.any p)):=by
 refine Dp func181 λC hP hN=>?_;have b:=Ph _ _ _ a hf;refine GT trivial ?_
 all_goals (first|(simp_all[t5];done)|((try simp_all[t5])<;>(try omega)<;>grind))
def bi(p:α->Bool)(xs:List α):Bool:=xs.all p
theorem Ej(p:α->Bool)(xs:List α):(xs.any λx=>!p x)=!bi p xs:=by simp[bi,List.any_eq_not_all_not]
abbrev vI(x:Int×Int):Bool:=aw x.1 x.2
theorem Pi(x:Int×Int):bk 182 (aP x) (B (!aw x.1 x.2)):=by
 refine Dp func182 λC hP hN=>?_;have a:=@jT;exact GS trivial
 all_goals (first|(simp_all;done)|((try simp_all)<;>(try omega)<;>grind))
theorem vB(xs:List (Int×Int))(a:xs.length<=9223372036854775807):bk 135 (iv xs) (B (bi vI xs)):=by
 refine Dp func135 λC hP hN=>?_;have b:=LC _ _ _ a Pi;exact GS (Ej vI xs)
 all_goals (first|(simp_all;done)|((try simp_all)<;>(try omega)<;>grind))
def GI(x:Int):Bool:=decide (-2147483648<=x)&&decide (x<=2147483648)
theorem Ie{T L:List PV}{v:PV}(a:L.length=T.length)(h:∀j,j<i->L[j]?=T[j]?)(b:T[i]?=some v):∀j,j<i+1->(L.set i v)[j]?=T[j]?:=by
 intro j c;have hi:i<T.length:=(th.1 b).1;by_cases e:j=i
 .subst e;rw[b,List.getElem?_set_self (by omega)]
 .rw[List.getElem?_set_ne (by omega)];exact h j (by omega)
theorem If{T L:List PV}(a:L.length=T.length)(h:∀j,j<i->L[j]?=T[j]?)(hi:T.length<=i):L=T:=by
 apply UF;intro j;by_cases e:j<i
 .exact h j e
 .rw[Ua (by omega),Ua (by omega)]
theorem vD(a:i<xs.length)(hp:p xs[i]=false):bi p xs=false:=by
 rw[bi,Vw];exact⟨xs[i],Ul a,by simp[hp]⟩
theorem t6(a:i<xs.length)(h:bi p (xs.take i)=true)(hp:p xs[i]=true):bi p (xs.take (i+1))=true:=by
 unfold bi at *;rw[UK a,List.all_append,h];simp[hp]
theorem t7(a:¬i<xs.length)(h:bi p (xs.take i)=true):bi p xs=true:=by
 rwa [Up (by omega)]at h
theorem Bw{f:α->β}(a:i<xs.length):(xs.map f).take i++[f xs[i]]=(xs.map f).take (i+1):=by
 rw[UK (by simpa using a)];simp
theorem GJ(hn:xs.length=n)(hi:¬i<n):xs.take i=xs:=Up (by omega)
def eX(f:α->β->Bool)(xs:List α)(ys:List β):Bool:=(List.zipWith f xs ys).all id
def gp(f:α->β->Bool)(xs:List α)(ys:List β)(i:Nat):Bool:=((List.zipWith f xs ys).take i).all id
theorem kD(b:i<xs.length)(a:i<ys.length)(hp:f xs[i] ys[i]=false):eX f xs ys=false:=
 vD (p:=id) (xs:=List.zipWith f xs ys) (i:=i) (by simp;omega) (by simpa using hp)
theorem lG(b:i<xs.length)(a:i<ys.length)(h:gp f xs ys i=true)(hp:f xs[i] ys[i]=true):gp f xs ys (i+1)=true:=
 t6 (p:=id) (xs:=List.zipWith f xs ys) (i:=i) (by simp;omega) h (by simpa using hp)
theorem lH(a:¬i<xs.length)(h:gp f xs ys i=true):eX f xs ys=true:=
 t7 (p:=id) (xs:=List.zipWith f xs ys) (i:=i) (by simp;omega) h
theorem ik(xs:List (Int×Int))(d:xs.length<=9223372036854775807):bk 100 (iv xs) (B (bi vI xs)):=by
 refine Dp func100 λC hP hN=>?_;refine Gz ?_;refine WP.loopN [] xs.length (λi st=>st.t 0=.pv (iv xs)/\st.t 3=.pv (Z i)/\bi vI (xs.take i)=true) (by simp[bi]) ?_;rintro i st hi ⟨b,c,hq⟩;by_cases a:i<xs.length
 .have e:=am a d
  have hF:vI xs[i]=false->bi vI xs=false:=vD a;have hS:vI xs[i]=true->bi vI (xs.take (i+1))=true:=t6 a hq
  with_reducible repeat' (first|refine Sp.h ?_|((first|refine Ss.h ?_|refine Sc.h (oA _ _) ?_|(refine Sb.h ?_ ?_ ?_<;>(try intro hgd)<;>try exact Xy))<;>simp -implicitDefEqProofs (maxSteps:=2000000) [hP,hN,b,c,a,e])|refine X2 ?_ ?_|(refine Xd ?_ ?_<;>intro hcd<;>try exact Xx))
  all_goals first|(rw[hF];simp_all[GI];try omega)|(rw[hS];simp_all[GI];try omega)
 .skip
  refine Gz ?_;simp[t7 a hq]
def dS(x y:Int×Int):Bool:=aw x.1 x.2&&aw y.1 y.2&&decide (y.1<=x.1)&&decide (x.2<=y.2)
def mY(x:Int×Int)(c:Int):Bool:=aw x.1 x.2&&decide (x.1<=c)&&decide (c<=x.2)
def nq(xs ys:List (Int×Int)):Bool:=bi vI xs&&bi vI ys&&decide (xs.length=ys.length)&&eX dS xs ys
def yd(xs:List (Int×Int))(ys:List Int):Bool:=bi vI xs&&decide (xs.length=ys.length)&&eX mY xs ys
theorem Pj(xs:List (Int×Int))(ys:List (Int×Int))(e:xs.length<=9223372036854775807)(g:ys.length<=9223372036854775807):aO 162 (iv xs) (iv ys) (B (nq xs ys)):=by
 refine Dp func162 λC hP hN=>?_
 cases c:bi vI xs with
 |false=>
  have j:=ik _ e;have k:=ik _ g;refine GT c ?_
  all_goals simp[nq,c]
 |true=>
  cases d:bi vI ys with
  |false=>
   have j:=ik _ e;have k:=ik _ g;refine GT (gA c d) ?_
   all_goals simp[nq,c,d]
  |true=>
   by_cases f:xs.length=ys.length
   .skip
    have j:=ik _ e;have k:=ik _ g;refine GT (be c d f) ?_;refine WP.loopN [] xs.length (λi st=>st.t 0=.pv (iv xs)/\st.t 1=.pv (iv ys)/\st.t 5=.pv (Z i)/\gp dS xs ys i=true) (by simp[gp]) ?_;rintro i st hi ⟨l,m,n,hq⟩;by_cases b:i<xs.length
    .have o:=am b e
     have a:i<ys.length:=by omega
     have hF:dS xs[i] ys[i]=false->eX dS xs ys=false:=kD b a;have hS:dS xs[i] ys[i]=true->gp dS xs ys (i+1)=true:=lG b a hq
     with_reducible repeat' (first|refine Sp.h ?_|((first|refine Wd ?_|refine Ss.h ?_|refine Sc.h (Pb _ _ _ _) ?_|(refine Sb.h ?_ ?_ ?_<;>(try intro hgd)<;>try exact Xy))<;>simp -implicitDefEqProofs (maxSteps:=2000000) [hP,hN,l,m,n,b,a,o]<;>try refine Ya ?_)|refine X2 ?_ ?_|(refine Xd ?_ ?_<;>intro hcd<;>try exact Xx))
     all_goals first|(rw[nq,hF (by simp only[dS]<;>grind)];simp;done)|(rw[hS (by simp only[dS]<;>grind)];done)
    .have a:¬i<ys.length:=by omega
     refine GT (so l m n b a) ?_
     all_goals simp[nq,c,d,f,lH b hq]
   .skip
    have j:=ik _ e;have k:=ik _ g;refine GT (be c d f) ?_
    all_goals simp[nq,c,d,f]
theorem JU(xs:List (Int×Int))(ys:List (Int))(e:xs.length<=9223372036854775807)(m:ys.length<=9223372036854775807):aO 54 (iv xs) (zs ys) (B (yd xs ys)):=by
 refine Dp func54 λC hP hN=>?_
 cases c:bi vI xs with
 |false=>
  have f:=ik _ e;refine GT c ?_
  all_goals simp[yd,c]
 |true=>
  by_cases d:xs.length=ys.length
  .skip
   have f:=ik _ e;refine GT (gA c d) ?_;refine WP.loopN [] xs.length (λi st=>st.t 0=.pv (iv xs)/\st.t 1=.pv (zs ys)/\st.t 5=.pv (Z i)/\gp mY xs ys i=true) (by simp[gp]) ?_;rintro i st hi ⟨g,j,k,hq⟩;by_cases b:i<xs.length
   .have l:=am b e
    have a:i<ys.length:=by omega
    have hF:mY xs[i] ys[i]=false->eX mY xs ys=false:=kD b a;have hS:mY xs[i] ys[i]=true->gp mY xs ys (i+1)=true:=lG b a hq
    with_reducible repeat' (first|refine Sp.h ?_|((first|refine Wd ?_|refine Ss.h ?_|refine Sc.h (Pf _ _ _) ?_|(refine Sb.h ?_ ?_ ?_<;>(try intro hgd)<;>try exact Xy))<;>simp -implicitDefEqProofs (maxSteps:=2000000) [hP,hN,g,j,k,b,a,l]<;>try refine Ya ?_)|refine X2 ?_ ?_|(refine Xd ?_ ?_<;>intro hcd<;>try exact Xx))
    all_goals first|(rw[yd,hF (by simp only[mY]<;>grind)];simp;done)|(rw[hS (by simp only[mY]<;>grind)];done)
   .have a:¬i<ys.length:=by omega
    refine Gz ?_
    all_goals simp[yd,c,d,lH b hq]
  .skip
   have f:=ik _ e;refine GT (gA c d) ?_
   all_goals simp[yd,c,d]
def dH(x:Int×Int):Int:=if aw x.1 x.2 then wr (x.2-x.1)else 0
def jr(x:Int×Int):Int:=if aw x.1 x.2 then(wr (x.1+x.2)).fdiv 2 else 0
def bD(xs:List (Int×Int))(j:Int):Bool:=decide (0<=j)&&bi vI xs&&(match xs[j.toNat]? with|some x=>decide (2<=dH x)|none=>false)
def aT(xs:List (Int×Int))(j:Int):List (Int×Int):=if bD xs j then(match xs[j.toNat]? with|some x=>xs.set j.toNat (x.1,jr x)|none=>[])else[]
def aU(xs:List (Int×Int))(j:Int):List (Int×Int):=if bD xs j then(match xs[j.toNat]? with|some x=>xs.set j.toNat (jr x,x.2)|none=>[])else[]
theorem Ok(xs:List (Int×Int))(j:Int)(f:xs.length<=16777216):aO 78 (iv xs) (Z j) (.tup [iv (aT xs j),iv (aU xs j),B (bD xs j)]):=by
 refine Dp func78 λC hP hN=>?_;by_cases k:0<=j
 .obtain⟨n,rfl⟩:=Vm k
  by_cases b:n<xs.length
  .cases e:bi vI xs with
   |false=>
    have i:=vB _ (vz f);refine GT (gA b e) ?_
    all_goals simp[aT,aU,bD,e]
   |true=>
    have d:=an b;generalize g:xs[n]=x at d;by_cases c:dH x<2
    .have a:=c
     simp only[dH]at a;have i:=vB _ (vz f);have o:=@vw;refine GT (so b e d g a) ?_
     all_goals simp[aT,aU,bD,e,d,Int.not_le.2 c]
    .have a:=c
     simp only[dH]at a;have i:=vB _ (vz f);have o:=@vw;have p:=@Lx;refine GT (zAa b e d g a (show(16:Int)*xs.length<=281474976710656 by omega) (show(xs.length:Int)<=9223372036854775807 by omega)) ?_
     have l:bD xs (n:Int)=true:=by simp[bD,e,d,Int.not_lt.1 c]
     have m:List.take xs.length (List.map aP xs)=List.map aP xs:=Up (by simp);simp[aT,aU,l,d,m,Vv,jr]
  .skip
   have i:=vB _ (vz f);refine GT b ?_
   all_goals (have d:xs[n]?=none:=Ua (by omega));simp[aT,aU,bD,d]
 .skip
  have i:=vB _ (vz f);refine GT (gA k (show j<0 by omega)) ?_
  all_goals simp[aT,aU,bD,k]
def nx(l:List Int)(n:Nat)(k:Int):Int:=match l[n]? with
 |some x=>pG x k
 |none=>0
def nn(l:List Int)(n:Nat):Nat:=if n<l.length then n+1 else n
abbrev vE(l:List Int)(n:Nat):List PV:=[zs l,Z n]
theorem Ol(l:List Int):bf prog 21 [.pv (zs l)] [] [] (.box (vE l 0)):=by
 refine Dp func21 λC hP hN=>?_;exact Gy
 all_goals (first|(simp_all;done)|((try simp_all)<;>(try omega)<;>grind))
theorem kE(l:List Int)(n:Nat):nn l n<=n+1:=by unfold nn;split<;>omega
theorem zm(l:List Int)(n:Nat)(k:Int)(c:k≠0)(hn:n<1000000):bf prog 23 [.bx 0,.pv (Z k)] [vE l n] [vE l (nn l n)] (.pv (Z (nx l n k))):=by
 have d:i64.wrap ((n:Int)+1)=(n:Int)+1:=by rw[IntKind.wrap_i64];omega
 have b:i64.wrap (n:Int)=n:=by rw[IntKind.wrap_i64];omega
 refine Ah func23 rfl (by kernel_rfl) (by simp[f23]) rfl (by intro i j h;rcases i with _|_|_|i<;>simp_all) ?_;intro C hP hN;simp only[f23]at hN|-;by_cases a:n<l.length
 .skip
  with_reducible repeat' (first|refine Sp.h ?_|((first|refine Wd ?_|refine Ss.h ?_|refine Sc.h (Oj _ _ c) ?_|(refine Sb.h ?_ ?_ ?_<;>(try intro hgd)<;>try exact Xy))<;>simp -implicitDefEqProofs (maxSteps:=2000000) [hP,hN,vE,a,d,b,Nat.not_le.2 a]<;>try refine Ya ?_)|refine X2 ?_ ?_|(refine Xd ?_ ?_<;>intro hcd<;>try exact Xx))
  simp[nn,nx,a]
 .skip
  refine Gz ?_;simp[nn,nx,a]
theorem gz(l:List Int)(n:Nat)(a:0<k)(b:k<4611686018427387904):0<=nx l n k/\nx l n k<k:=by
 unfold nx;split
 .rename_i x _
  have c:-k<x.tmod k:=by have:=Wa x a;omega
  have d:x.tmod k<k:=VL x a;unfold pG;split
  .rw[aa (by omega) (by omega)];omega
  .omega
 .omega
def Ai(i:Nat):ByteArray:=⟨#[UInt8.ofNat (97+i)]⟩
abbrev zn:Value:=.string ⟨#[97,98,99,100,101,102,103,104,105,106]⟩
def zo(i:Nat):Operand->AV:=λx=>match x with
 |.tmp 3=>.pv (Z i)
 |.tmp 5=>.pv (Z ((i:Int)+1))
 |_=>.pv (.val zn)
section
variable {dst:Option Nat} {ty:TypeId} {pos:String} {aft:Array Edge} {g:Option (Nat×Bool)} {ρ:Operand->AV}
theorem Kw:bF prog ⟨dst,.slice 9 (.const zn) (some (.tmp 3)) (some (.tmp 5)) none,ty,pos,aft,g⟩ (zo 0)=some (.pv (.val (.string (Ai 0))),[]):=by kernel_rfl
theorem Kx:bF prog ⟨dst,.slice 9 (.const zn) (some (.tmp 3)) (some (.tmp 5)) none,ty,pos,aft,g⟩ (zo 1)=some (.pv (.val (.string (Ai 1))),[]):=by kernel_rfl
theorem Ky:bF prog ⟨dst,.slice 9 (.const zn) (some (.tmp 3)) (some (.tmp 5)) none,ty,pos,aft,g⟩ (zo 2)=some (.pv (.val (.string (Ai 2))),[]):=by kernel_rfl
theorem NE(i:Nat)(e:i<3)(b:ρ (.const zn)=.pv (.val zn))(c:ρ (.tmp 3)=.pv (Z i))(d:ρ (.tmp 5)=.pv (Z ((i:Int)+1))):
 bF prog ⟨dst,.slice 9 (.const zn) (some (.tmp 3)) (some (.tmp 5)) none,ty,pos,aft,g⟩ ρ=some (.pv (.val (.string (Ai i))),[]):=by
 have h:bF prog ⟨dst,.slice 9 (.const zn) (some (.tmp 3)) (some (.tmp 5)) none,ty,pos,aft,g⟩ ρ=bF prog ⟨dst,.slice 9 (.const zn) (some (.tmp 3)) (some (.tmp 5)) none,ty,pos,aft,g⟩ (zo i):=by
  refine rA (by intro _ _ h;cases h) ?_;intro x a;simp[Op.operands]at a;rcases a with rfl|rfl|rfl
  .exact b
  .exact c
  .exact d
 rw[h]
 have:i=0\/i=1\/i=2:=by omega
 rcases this with rfl|rfl|rfl
 .exact Kw
 .exact Kx
 .exact Ky
end
theorem Om(i:Nat)(a:i<3):bk 56 (Z i) (.val (.string (Ai i))):=by
 have b:i64.wrap ((i:Int)+1)=(i:Int)+1:=by rw[IntKind.wrap_i64];omega
 refine Dp func56 λC hP hN=>?_;refine GT b ?_;rw[NE i a rfl (by simp) (by simp)];simp[hP,hN];exact Gy
structure J where
 name:ByteArray
 kind:Int
 parent:Int
 ox:Int
 oy:Int
 oz:Int
 lo:Int
 hi:Int
 w:Int
 sp:Int
 ac:Int
 tq:Int
abbrev bR(j:J):PV:=.val (.agg #[.string j.name,.int .i64 j.kind,.int .i64 j.parent,.int .i64 j.ox,.int .i64 j.oy,.int .i64 j.oz,.int .i64 j.lo,.int .i64 j.hi,.int .i64 j.w,.int .i64 j.sp,.int .i64 j.ac,.int .i64 j.tq])
structure Ms where
 link:Int
 mass:Int
 px:Int
 py:Int
 pz:Int
abbrev dC(m:Ms):PV:=.val (.agg #[.int .i64 m.link,.int .i64 m.mass,.int .i64 m.px,.int .i64 m.py,.int .i64 m.pz])
abbrev sM:AV:=.pv (.val (.slice none 0 0))
abbrev gP(js:List J)(ms:List Ms):PV:=.agg [.sl (js.map bR),.sl (ms.map dC)]
def BE(l:List Int)(m:Nat):Nat:=if nx l m 6=0 then nn l m else if nx l m 6=1 then nn l m else nn l (nn l m)
def qh(l:List Int):Nat->Nat
 |0=>0
 |i+1=>BE l (qh l i)
theorem LD(l:List Int)(i:Nat):qh l i<=2*i:=by
 induction i with
 |zero=>simp[qh]
 |succ i ih=>
  have a:=kE l (qh l i);have b:=kE l (nn l (qh l i));simp only[qh,BE];split
  .omega
  .split<;>omega
def Fq(l:List Int)(m:Nat)(lo hi:Int):Int:=if nx l m 6=0 then lo else if nx l m 6=1 then hi else wr (lo+nx l (nn l m) (hi-lo+1))
def lI(l:List Int)(js:List J):List Int:=js.mapIdx λi j=>Fq l (qh l i) j.lo j.hi
def AZ(j:J):Prop:=-1000000<=j.lo/\j.lo<=j.hi/\j.hi<=1000000
theorem Ig{l:List Int}{js:List J}(a:i<js.length):((lI l js).map Z).take i++[Z (Fq l (qh l i) js[i].lo js[i].hi)]=((lI l js).map Z).take (i+1):=by
 rw[UK (by simpa[lI]using a)];simp[lI]
theorem On(l:List Int)(js:List J)(ms:List Ms)(r:js.length<=1000)(o:∀j∈js,AZ j):aO 12 (gP js ms) (zs l) (zs (lI l js)):=by
 refine Dp func12 λC hP hN=>?_;have v:=@Ol;refine sh [6] @vE.eq_1 ?_
 refine WP.loopN [] js.length (λi st=>st.t 2=.ptr 2 0/\st.t 5=.ptr 11 0/\st.t 6=.arr 6 i/\st.t 7=.pv (Z i)/\st.h 2=some (.box [.pv (.sl (js.map bR)),.pv (.sl (ms.map dC))] true false)/\
  st.h 11=some (.box [.pv (zs l),.pv (Z (qh l i))] true false)/\st.h 6=some (.row 2 1 (((lI l js).map Z).take i) 0)) (by simp[qh]) ?_
 rintro i st hi ⟨m,h5,h6,h7,c,a,d⟩
 have k:min i (lI l js).length=i:=by simp[lI];omega
 by_cases b:i<js.length
 .have q:i64.wrap ((i:Int)+1)=(i:Int)+1:=by rw[IntKind.wrap_i64];omega
  have s:=LD l i;have u:=kE l (qh l i);have p:=Ig (l:=l) b;have e:=o js[i] (Ul b)
  have f:i64.wrap (js[i].hi-js[i].lo)=js[i].hi-js[i].lo:=by unfold AZ at e;rw[IntKind.wrap_i64];omega
  have g:i64.wrap (js[i].hi-js[i].lo+1)=js[i].hi-js[i].lo+1:=by unfold AZ at e;rw[IntKind.wrap_i64];omega
  have hS:qh l (i+1)=BE l (qh l i):=rfl
  have n:js[i].hi-js[i].lo+1≠0:=by unfold AZ at e;omega
  with_reducible repeat' (first|refine Sp.h ?_|((first|refine Wd ?_|refine Ss.h ?_|refine Sc.h (zm l _ 6 (by decide) (by omega)) ?_|refine Sc.h (zm l _ _ n (by omega)) ?_|(refine Sb.h ?_ ?_ ?_<;>(try intro hgd)<;>try exact Xy))<;>simp -implicitDefEqProofs (maxSteps:=2000000) [hP,hN,m,h5,h6,h7,c,a,d,k,b,q,f,g,hS,show(i+1)*8<=140737488355328 by omega,show i<=9223372036854775806 by omega]<;>try refine Ya ?_)|refine X2 ?_ ?_|(refine Xd ?_ ?_<;>intro hcd<;>try exact Xx))
  all_goals (rw[<-p];clear p o c a d m h5 h6 h7 hP hN f g q hS;simp_all[BE,Fq])
 .skip
  refine GT (zAb m h5 h6 h7 c a d (gA k b)) ?_;exact GJ (by simp[lI]) b
theorem DR(x:Int)(b:0<k)(a:k<4611686018427387904):0<=pG x k/\pG x k<k:=by
 have:=gz [x] 0 b a;simpa[nx]using this
theorem Ek{P:Program}(d:Nat)(t:TypeId)(a b:Bool)(h:P.underlying t=some .bool):ao P (Op.equalIn (d+1) t (.bool a) (.bool b))=some (a==b):=by
 simp only[Op.equalIn,ah,jE h,Ub];rfl
def BF(x y:AV):Option (Bool×Bool):=match x,y with
 |.pv (.val (.bool a)),.pv (.val (.bool b))=>some (a,b)
 |_,_=>none
def Ih(x y:AV)(fb:Option cX):Option cX:=match BF x y with
 |some (a,b)=>some (.pv (.val (.bool (a==b))),[])
 |none=>fb
@[simp] theorem Oo(a b:Bool)(fb:Option cX):Ih (.pv (.val (.bool a))) (.pv (.val (.bool b))) fb=some (.pv (.val (.bool (a==b))),[]):=rfl
@[simp] theorem Sk{ty:TypeId}{pos:String}(x y:Operand):
 bF prog ⟨dst,.binOp .eql 4 x y 4,ty,pos,aft,g⟩ ρ=Ih (ρ x) (ρ y) (jv prog ⟨dst,.binOp .eql 4 x y 4,ty,pos,aft,g⟩ ρ):=by
 unfold Ih;split
 .rename_i a b h
  unfold BF at h;split at h
  .rename_i c d i j
   injection h with h;injection h with e f;subst e;subst f;refine eh (by simp[Op.operands,i,j,fp]) ?_;unfold execOp;simp only[(bS i).2,(bS j).2]
   have e:ao prog (eqGuard .eql 4 x y (.bool c) (.bool d))=some ():=by kernel_rfl
   have f:ao prog (binOp .eql 4 (.bool c) (.bool d))=some (.bool (c==d)):=by
    simp only[binOp,ah];rw[show ao prog (Op.equal 4 (.bool c) (.bool d))=some (c==d) from Ek 9999 4 c d Tryz.underlying4];rfl
   simp only[ah,e,f,Ub];rfl
  .cases h
 .rfl
theorem Pk(f:FuncId)(p:Int×Int->Int->Bool)(xs:List (Int×Int))(ys:List (Int))(q:xs.length<=9223372036854775807)(hf:∀a b,bf prog f [.pv (aP a),.pv (Z b)] [] [] (.pv (B (p a b)))):mm 188 (.sl (xs.map aP)) (.sl (ys.map Z)) (Fv f) (B (decide (xs.length=ys.length)&&eX p xs ys)):=by
 refine Dp func188 λC hP hN=>?_;by_cases k:xs.length=ys.length
 .skip
  refine Gz ?_;refine WP.loopN [8] xs.length (λi st=>st.t 0=.pv (.sl (xs.map aP))/\st.t 1=.pv (.sl (ys.map Z))/\st.t 2=.pv (Fv f)/\st.t 14=.pv (.sl (xs.map aP))/\st.t 15=.pv (Z xs.length)/\st.t 16=.pv (Z i)/\st.h 8=none/\gp p xs ys i=true) (by simp[gp,k]) ?_;rintro i st hi ⟨l,m,n,e,g,j,o,hq⟩;by_cases c:i<xs.length
  .have r:=am c q
   have d:i<ys.length:=by omega
   have hF:p xs[i] ys[i]=false->eX p xs ys=false:=kD c d;have hS:p xs[i] ys[i]=true->gp p xs ys (i+1)=true:=lG c d hq
   with_reducible repeat' (first|refine Sp.h ?_|((first|refine Wd ?_|refine Ss.h ?_|refine Sc.h (hf _ _) ?_|(refine Sb.h ?_ ?_ ?_<;>(try intro hgd)<;>try exact Xy))<;>simp -implicitDefEqProofs (maxSteps:=2000000) [hP,hN,l,m,n,e,g,j,o,c,d,r]<;>try refine Ya ?_)|refine X2 ?_ ?_|(refine Xd ?_ ?_<;>intro hcd<;>try exact Xx))
   all_goals first|exact hF (by simpa using hcd)|simpa using hS (by simpa using hcd)
  .skip
   refine Gz ?_
   all_goals simp[k,lH c hq]
 .skip
  exact Gy
  all_goals simp[k]
theorem Pl(f:FuncId)(p:Int×Int->Int×Int->Bool)(xs:List (Int×Int))(ys:List (Int×Int))(q:xs.length<=9223372036854775807)(hf:∀a b,bf prog f [.pv (aP a),.pv (aP b)] [] [] (.pv (B (p a b)))):mm 185 (.sl (xs.map aP)) (.sl (ys.map aP)) (Fv f) (B (decide (xs.length=ys.length)&&eX p xs ys)):=by
 refine Dp func185 λC hP hN=>?_;by_cases k:xs.length=ys.length
 .skip
  refine Gz ?_;refine WP.loopN [8] xs.length (λi st=>st.t 0=.pv (.sl (xs.map aP))/\st.t 1=.pv (.sl (ys.map aP))/\st.t 2=.pv (Fv f)/\st.t 14=.pv (.sl (xs.map aP))/\st.t 15=.pv (Z xs.length)/\st.t 16=.pv (Z i)/\st.h 8=none/\gp p xs ys i=true) (by simp[gp,k]) ?_;rintro i st hi ⟨l,m,n,e,g,j,o,hq⟩;by_cases c:i<xs.length
  .have r:=am c q
   have d:i<ys.length:=by omega
   have hF:p xs[i] ys[i]=false->eX p xs ys=false:=kD c d;have hS:p xs[i] ys[i]=true->gp p xs ys (i+1)=true:=lG c d hq
   with_reducible repeat' (first|refine Sp.h ?_|((first|refine Wd ?_|refine Ss.h ?_|refine Sc.h (hf _ _) ?_|(refine Sb.h ?_ ?_ ?_<;>(try intro hgd)<;>try exact Xy))<;>simp -implicitDefEqProofs (maxSteps:=2000000) [hP,hN,l,m,n,e,g,j,o,c,d,r]<;>try refine Ya ?_)|refine X2 ?_ ?_|(refine Xd ?_ ?_<;>intro hcd<;>try exact Xx))
   all_goals first|exact hF (by simpa using hcd)|simpa using hS (by simpa using hcd)
  .skip
   refine Gz ?_
   all_goals simp[k,lH c hq]
 .skip
  exact Gy
  all_goals simp[k]
theorem Sl(f:FuncId)(g:J->Int×Int)(xs:List (J))(p:xs.length<=16777216)(hf:∀a,bf prog f [.pv (bR a)] [] [] (.pv (aP (g a)))):aO 71 (.sl (xs.map bR)) (Fv f) (.sl ((xs.map g).map aP)):=by
 refine Dp func71 λC hP hN=>?_;refine GT (be p (show(16:Int)*xs.length<=281474976710656 by omega) (show(xs.length:Int)<=9223372036854775807 by omega)) ?_
 refine WP.loopN [7] xs.length (λi st=>st.t 0=.pv (.sl (xs.map bR))/\st.t 1=.pv (Fv f)/\st.t 5=.arr 10 xs.length/\st.t 11=.pv (.sl (xs.map bR))/\st.t 12=.pv (Z xs.length)/\st.t 13=.pv (Z i)/\st.h 7=none/\
  ∃L,st.h 10=some (.row 50 2 L 0)/\L.length=xs.length/\∀j,j<i->L[j]?=((xs.map g).map aP)[j]?) (by simp) ?_
 rintro i st hi ⟨l,m,h5,h11,d,e,o,L,hL,c,hq⟩
 have n:L.length=((xs.map g).map aP).length:=by simp[c]
 by_cases b:i<xs.length
 .have q:=am b (vz p)
  have k:i<L.length:=by omega
  with_reducible repeat' (first|refine Sp.h ?_|((first|refine Ss.h ?_|refine Sc.h (hf _) ?_|(refine Sb.h ?_ ?_ ?_<;>(try intro hgd)<;>try exact Xy))<;>simp -implicitDefEqProofs (maxSteps:=2000000) [hP,hN,l,m,h5,h11,d,e,o,hL,c,b,k,q])|refine X2 ?_ ?_|(refine Xd ?_ ?_<;>intro hcd<;>try exact Xx))
  simpa using Ie n hq (v:=aP (g xs[i])) (by simp[b])
 .skip
  refine GT (zAc l m h5 h11 d e o hL c b) ?_;simpa using If n hq (by simp;omega)
theorem Pm(a:Int×Int)(b:Int):bf prog 189 [.pv (aP a),.pv (Z b)] [] [] (.pv (B (mY a b))):=Ly a.1 a.2 b
theorem Kz(a b:Int×Int):bf prog 129 [.pv (aP a),.pv (aP b)] [] [] (.pv (B (dS a b))):=Pa a.1 a.2 b.1 b.2
def jU(xs:List (Int×Int))(ys:List Int):Bool:=decide (xs.length=ys.length)&&eX mY xs ys
def oF(xs ys:List (Int×Int)):Bool:=decide (xs.length=ys.length)&&eX dS xs ys
def im(x y:Int×Int):Bool:=aw x.1 x.2&&aw y.1 y.2&&decide (max x.1 y.1<=min x.2 y.2)
def bn(xs ys:List (Int×Int)):Bool:=decide (xs.length=ys.length)&&eX im xs ys
theorem LE(xs:List (Int×Int))(ys:List Int)(a:xs.length<=9223372036854775807):aO 142 (iv xs) (zs ys) (B (jU xs ys)):=by
 refine Dp func142 λC hP hN=>?_
 with_reducible repeat' (first|refine Sp.h ?_|((first|refine Ss.h ?_|refine Sc.h (Pk _ mY _ _ a Pm) ?_|(refine Sb.h ?_ ?_ ?_<;>(try intro hgd)<;>try exact Xy))<;>simp -implicitDefEqProofs (maxSteps:=2000000) [hP,hN])|refine X2 ?_ ?_|(refine Xd ?_ ?_<;>intro hcd<;>try exact Xx))
 all_goals (first|(simp_all[jU];done)|((try simp_all[jU])<;>(try omega)<;>grind))
theorem Pn(x y:Int×Int):aO 186 (aP x) (aP y) (B (im x y)):=by
 refine Dp func186 λC hP hN=>?_
 cases h:im x y with
 |true=>
  have a:(aw x.1 x.2&&aw y.1 y.2&&decide (max x.1 y.1<=min x.2 y.2))=true:=h;have b:=@Lz;exact GS a
 |false=>
  have a:(aw x.1 x.2&&aw y.1 y.2&&decide (max x.1 y.1<=min x.2 y.2))=false:=h;have b:=@Lz;exact GS a
theorem Po(xs ys:List (Int×Int))(a:xs.length<=9223372036854775807):aO 140 (iv xs) (iv ys) (B (bn xs ys)):=by
 refine Dp func140 λC hP hN=>?_
 with_reducible repeat' (first|refine Sp.h ?_|((first|refine Ss.h ?_|refine Sc.h (Pl _ im _ _ a Pn) ?_|(refine Sb.h ?_ ?_ ?_<;>(try intro hgd)<;>try exact Xy))<;>simp -implicitDefEqProofs (maxSteps:=2000000) [hP,hN])|refine X2 ?_ ?_|(refine Xd ?_ ?_<;>intro hcd<;>try exact Xx))
 all_goals (first|(simp_all[bn];done)|((try simp_all[bn])<;>(try omega)<;>grind))
end Go.Ab
