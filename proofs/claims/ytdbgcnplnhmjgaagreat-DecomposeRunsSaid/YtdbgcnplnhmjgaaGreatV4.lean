/- The contracts and facts that the laws of this seat need, in one text (Ty, CfA). -/
import Derived.Test.YtdbgcnplnhmjgaaGreatV3
import Derived.Test.YtdbgcnplnhmjgaaGreatProg
set_option linter.all false
set_option maxRecDepth 10000
set_option maxHeartbeats 16000000
namespace Go.Ab
open IntKind (i64)
open Go.Proofs.Tryz
open Go.Proofs
variable {aft:Array Edge}{dst:Option Nat}{g:Option (Nat×Bool)}{i n:Nat}{k:Int}{α β:Type}{ρ:Operand->AV}{f:α->β->Bool}{p:α->Bool}{xs:List α}{ys:List β}
abbrev Cn(f:FuncId)(r:PV):Prop:=aQ prog f [] [] [] (.pv r)
abbrev bh(f:FuncId)(a r:PV):Prop:=aQ prog f [.pv a] [] [] (.pv r)
abbrev aH(f:FuncId)(a b r:PV):Prop:=aQ prog f [.pv a,.pv b] [] [] (.pv r)
abbrev mW(f:FuncId)(a b c r:PV):Prop:=aQ prog f [.pv a,.pv b,.pv c] [] [] (.pv r)
abbrev EG(f:FuncId)(a b c d r:PV):Prop:=aQ prog f [.pv a,.pv b,.pv c,.pv d] [] [] (.pv r)
abbrev uw(f:FuncId)(a b c d e r:PV):Prop:=aQ prog f [.pv a,.pv b,.pv c,.pv d,.pv e] [] [] (.pv r)
abbrev LO(f:FuncId)(a b c d e g r:PV):Prop:=aQ prog f [.pv a,.pv b,.pv c,.pv d,.pv e,.pv g] [] [] (.pv r)
@[simp] theorem YA:al prog 2=some ⟨1,(some (.int .i64 0)),.one⟩/\dU prog 2=some .i64/\al prog 3=some ⟨1,(some (.int .i64 0)),.one⟩/\dU prog 3=some .i64/\al prog 4=some ⟨1,(some (.bool false)),.one⟩/\al prog 5=some ⟨1,(some (.int .u8 0)),.one⟩/\dU prog 5=some .u8/\al prog 6=some ⟨1,(some (.int .u8 0)),.one⟩/\dU prog 6=some .u8/\al prog 7=some ⟨4,(some (.agg #[.int .i64 0,.int .i64 0,.bool false,.int .u8 0])),.struct [(0,1),(1,1),(2,1),(3,1)]⟩/\al prog 8=some ⟨4,(some (.agg #[.int .i64 0,.int .i64 0,.bool false,.int .u8 0])),.struct [(0,1),(1,1),(2,1),(3,1)]⟩/\al prog 9=some ⟨1,(some (.string ByteArray.empty)),.one⟩/\ic prog 9=some none/\al prog 10=some ⟨1,(some (.string ByteArray.empty)),.one⟩/\ic prog 10=some none/\al prog 11=some ⟨1,(some (.string ByteArray.empty)),.one⟩/\ic prog 11=some none/\al prog 12=some ⟨1,(some (.int .u64 0)),.one⟩/\dU prog 12=some .u64/\al prog 13=some ⟨2,(some (.agg #[.string ByteArray.empty,.int .u64 0])),.struct [(0,1),(1,1)]⟩/\al prog 14=some ⟨2,(some (.agg #[.string ByteArray.empty,.int .u64 0])),.struct [(0,1),(1,1)]⟩/\al prog 15=some ⟨1,(some (.pointer none)),.one⟩/\al prog 16=some ⟨1,(some (.pointer none)),.one⟩/\al prog 17=some ⟨1,(some (.pointer none)),.one⟩/\al prog 18=some ⟨1,(some (.agg #[.pointer none])),.struct [(0,1)]⟩/\al prog 19=some ⟨1,(some (.agg #[.pointer none])),.struct [(0,1)]⟩/\al prog 21=some ⟨1,(some (.int .i32 0)),.one⟩/\dU prog 21=some .i32/\al prog 22=some ⟨1,(some (.slice none 0 0)),.slice 81 12 104 (some (.agg #[.string ByteArray.empty,.int .i64 0,.int .i64 0,.int .i64 0,.int .i64 0,.int .i64 0,.int .i64 0,.int .i64 0,.int .i64 0,.int .i64 0,.int .i64 0,.int .i64 0]))⟩/\al prog 23=some ⟨1,(some (.slice none 0 0)),.slice 122 5 40 (some (.agg #[.int .i64 0,.int .i64 0,.int .i64 0,.int .i64 0,.int .i64 0]))⟩/\al prog 24=some ⟨2,(some (.agg #[.slice none 0 0,.slice none 0 0])),.struct [(0,1),(1,1)]⟩/\al prog 25=some ⟨2,(some (.agg #[.slice none 0 0,.slice none 0 0])),.struct [(0,1),(1,1)]⟩/\al prog 26=some ⟨1,(some (.slice none 0 0)),.slice 70 3 40 (some (.agg #[.int .i64 0,.int .i64 0,.slice none 0 0]))⟩/\al prog 27=some ⟨1,(some (.slice none 0 0)),.slice 78 2 16 (some (.agg #[.int .i64 0,.int .i64 0]))⟩/\al prog 28=some ⟨4,(some (.agg #[.slice none 0 0,.slice none 0 0,.slice none 0 0,.slice none 0 0])),.struct [(0,2),(2,1),(3,1)]⟩/\al prog 29=some ⟨4,(some (.agg #[.slice none 0 0,.slice none 0 0,.slice none 0 0,.slice none 0 0])),.struct [(0,2),(2,1),(3,1)]⟩/\al prog 30=some ⟨1,(some (.slice none 0 0)),.slice 2 1 8 (some (.int .i64 0))⟩:=by repeat' (first|kernel_rfl|refine ⟨by kernel_rfl,?_⟩)
@[simp] theorem O7:al prog 31=some ⟨1,(some (.slice none 0 0)),.slice 3 1 8 (some (.int .i64 0))⟩:=by kernel_rfl
@[simp] theorem X4:al prog 39=some ⟨1,(some (.slice none 0 0)),.slice 50 2 16 (some (.agg #[.int .i64 0,.int .i64 0]))⟩/\al prog 40=some ⟨1,(some (.slice none 0 0)),.slice 58 8 112 (some (.agg #[.int .i64 0,.int .i64 0,.int .i64 0,.int .i64 0,.slice none 0 0,.int .i64 0,.slice none 0 0,.slice none 0 0]))⟩/\al prog 41=some ⟨2,(some (.agg #[.slice none 0 0,.slice none 0 0])),.struct [(0,1),(1,1)]⟩/\al prog 42=some ⟨2,(some (.agg #[.slice none 0 0,.slice none 0 0])),.struct [(0,1),(1,1)]⟩/\al prog 45=some ⟨1,(some (.slice none 0 0)),.slice 39 1 24 (some (.slice none 0 0))⟩/\al prog 49=some ⟨2,(some (.agg #[.int .i64 0,.int .i64 0])),.struct [(0,1),(1,1)]⟩/\al prog 50=some ⟨2,(some (.agg #[.int .i64 0,.int .i64 0])),.struct [(0,1),(1,1)]⟩/\al prog 52=some ⟨1,(some (.slice none 0 0)),.slice 68 3 24 (some (.agg #[.int .i64 0,.int .i64 0,.int .i64 0]))⟩/\al prog 53=some ⟨3,(some (.agg #[.int .i64 0,.slice none 0 0,.slice none 0 0])),.struct [(0,1),(1,1),(2,1)]⟩/\al prog 54=some ⟨3,(some (.agg #[.int .i64 0,.slice none 0 0,.slice none 0 0])),.struct [(0,1),(1,1),(2,1)]⟩/\al prog 55=some ⟨5,(some (.agg #[.int .i64 0,.slice none 0 0,.int .i64 0,.slice none 0 0,.slice none 0 0])),.struct [(0,1),(1,1),(2,3)]⟩/\al prog 56=some ⟨5,(some (.agg #[.int .i64 0,.slice none 0 0,.int .i64 0,.slice none 0 0,.slice none 0 0])),.struct [(0,1),(1,1),(2,3)]⟩/\al prog 57=some ⟨8,(some (.agg #[.int .i64 0,.int .i64 0,.int .i64 0,.int .i64 0,.slice none 0 0,.int .i64 0,.slice none 0 0,.slice none 0 0])),.struct [(0,1),(1,1),(2,1),(3,5)]⟩/\al prog 58=some ⟨8,(some (.agg #[.int .i64 0,.int .i64 0,.int .i64 0,.int .i64 0,.slice none 0 0,.int .i64 0,.slice none 0 0,.slice none 0 0])),.struct [(0,1),(1,1),(2,1),(3,5)]⟩/\al prog 67=some ⟨3,(some (.agg #[.int .i64 0,.int .i64 0,.int .i64 0])),.array 3 1⟩/\ic prog 67=some (some 3)/\al prog 68=some ⟨3,(some (.agg #[.int .i64 0,.int .i64 0,.int .i64 0])),.array 3 1⟩/\ic prog 68=some (some 3)/\al prog 69=some ⟨3,(some (.agg #[.int .i64 0,.int .i64 0,.slice none 0 0])),.struct [(0,1),(1,1),(2,1)]⟩/\al prog 70=some ⟨3,(some (.agg #[.int .i64 0,.int .i64 0,.slice none 0 0])),.struct [(0,1),(1,1),(2,1)]⟩/\al prog 71=some ⟨1,(some (.pointer none)),.one⟩/\al prog 77=some ⟨2,(some (.agg #[.int .i64 0,.int .i64 0])),.struct [(0,1),(1,1)]⟩/\al prog 78=some ⟨2,(some (.agg #[.int .i64 0,.int .i64 0])),.struct [(0,1),(1,1)]⟩/\al prog 80=some ⟨12,(some (.agg #[.string ByteArray.empty,.int .i64 0,.int .i64 0,.int .i64 0,.int .i64 0,.int .i64 0,.int .i64 0,.int .i64 0,.int .i64 0,.int .i64 0,.int .i64 0,.int .i64 0])),.struct [(0,1),(1,1),(2,1),(3,3),(6,1),(7,1),(8,1),(9,1),(10,1),(11,1)]⟩/\al prog 81=some ⟨12,(some (.agg #[.string ByteArray.empty,.int .i64 0,.int .i64 0,.int .i64 0,.int .i64 0,.int .i64 0,.int .i64 0,.int .i64 0,.int .i64 0,.int .i64 0,.int .i64 0,.int .i64 0])),.struct [(0,1),(1,1),(2,1),(3,3),(6,1),(7,1),(8,1),(9,1),(10,1),(11,1)]⟩/\al prog 82=some ⟨1,(some (.int .i64 0)),.one⟩/\dU prog 82=some .i64/\al prog 87=some ⟨1,(some (.pointer none)),.one⟩:=by repeat' (first|kernel_rfl|refine ⟨by kernel_rfl,?_⟩)
@[simp] theorem TC:al prog 90=some ⟨1,(some (.slice none 0 0)),.slice 31 1 24 (some (.slice none 0 0))⟩:=by kernel_rfl
@[simp] theorem Yy:al prog 91=some ⟨5,(some (.agg #[.slice none 0 0,.slice none 0 0,.slice none 0 0,.slice none 0 0,.slice none 0 0])),.struct [(0,2),(2,1),(3,1),(4,1)]⟩/\al prog 92=some ⟨5,(some (.agg #[.slice none 0 0,.slice none 0 0,.slice none 0 0,.slice none 0 0,.slice none 0 0])),.struct [(0,2),(2,1),(3,1),(4,1)]⟩/\al prog 110=some ⟨1,(some (.slice none 0 0)),.slice 4 1 1 (some (.bool false))⟩/\al prog 111=some ⟨3,(some (.agg #[.slice none 0 0,.slice none 0 0,.slice none 0 0])),.struct [(0,1),(1,1),(2,1)]⟩/\al prog 112=some ⟨3,(some (.agg #[.slice none 0 0,.slice none 0 0,.slice none 0 0])),.struct [(0,1),(1,1),(2,1)]⟩/\al prog 118=some ⟨2,(some (.agg #[.slice none 0 0,.int .i64 0])),.struct [(0,1),(1,1)]⟩/\al prog 119=some ⟨2,(some (.agg #[.slice none 0 0,.int .i64 0])),.struct [(0,1),(1,1)]⟩/\al prog 121=some ⟨5,(some (.agg #[.int .i64 0,.int .i64 0,.int .i64 0,.int .i64 0,.int .i64 0])),.struct [(0,1),(1,1),(2,3)]⟩/\al prog 122=some ⟨5,(some (.agg #[.int .i64 0,.int .i64 0,.int .i64 0,.int .i64 0,.int .i64 0])),.struct [(0,1),(1,1),(2,3)]⟩/\al prog 139=some ⟨1,(some (.nilFunc)),.one⟩/\al prog 140=some ⟨4,(some (.agg #[.pointer none,.slice none 0 0,.slice none 0 0,.nilFunc])),.struct [(0,1),(1,1),(2,1),(3,1)]⟩/\al prog 141=some ⟨4,(some (.agg #[.pointer none,.slice none 0 0,.slice none 0 0,.nilFunc])),.struct [(0,1),(1,1),(2,1),(3,1)]⟩/\al prog 147=some ⟨1,(some (.slice none 0 0)),.slice 200 2 16 (some (.agg #[.int .i64 0,.int .i64 0]))⟩/\al prog 148=some ⟨1,(some (.slice none 0 0)),.slice 153 1 24 (some (.slice none 0 0))⟩/\al prog 149=some ⟨3,(some (.agg #[.slice none 0 0,.slice none 0 0,.slice none 0 0])),.struct [(0,1),(1,1),(2,1)]⟩/\al prog 150=some ⟨3,(some (.agg #[.slice none 0 0,.slice none 0 0,.slice none 0 0])),.struct [(0,1),(1,1),(2,1)]⟩/\al prog 153=some ⟨1,(some (.slice none 0 0)),.slice 216 6 48 (some (.agg #[.int .i64 0,.int .i64 0,.int .i64 0,.int .i64 0,.int .i64 0,.int .i64 0]))⟩/\al prog 154=some ⟨4,(some (.agg #[.slice none 0 0,.slice none 0 0,.int .i64 0,.int .i64 0])),.struct [(0,1),(1,1),(2,1),(3,1)]⟩/\al prog 155=some ⟨4,(some (.agg #[.slice none 0 0,.slice none 0 0,.int .i64 0,.int .i64 0])),.struct [(0,1),(1,1),(2,1),(3,1)]⟩/\al prog 159=some ⟨7,(some (.agg #[.int .i64 0,.int .i64 0,.int .i64 0,.int .i64 0,.slice none 0 0,.slice none 0 0,.int .i64 0])),.struct [(0,1),(1,3),(4,1),(5,1),(6,1)]⟩/\al prog 160=some ⟨7,(some (.agg #[.int .i64 0,.int .i64 0,.int .i64 0,.int .i64 0,.slice none 0 0,.slice none 0 0,.int .i64 0])),.struct [(0,1),(1,3),(4,1),(5,1),(6,1)]⟩/\al prog 165=some ⟨3,(some (.agg #[.int .i64 0,.slice none 0 0,.slice none 0 0])),.struct [(0,3)]⟩/\al prog 166=some ⟨3,(some (.agg #[.int .i64 0,.slice none 0 0,.slice none 0 0])),.struct [(0,3)]⟩/\al prog 167=some ⟨1,(some (.agg #[.slice none 0 0])),.struct [(0,1)]⟩/\al prog 168=some ⟨1,(some (.agg #[.slice none 0 0])),.struct [(0,1)]⟩/\al prog 174=some ⟨1,(some (.slice none 0 0)),.slice 179 2 32 (some (.agg #[.slice none 0 0,.int .i64 0]))⟩/\al prog 178=some ⟨2,(some (.agg #[.slice none 0 0,.int .i64 0])),.struct [(0,1),(1,1)]⟩/\al prog 179=some ⟨2,(some (.agg #[.slice none 0 0,.int .i64 0])),.struct [(0,1),(1,1)]⟩/\al prog 182=some ⟨8,(some (.agg #[.int .i64 0,.int .i64 0,.int .i64 0,.int .i64 0,.int .i64 0,.int .i64 0,.int .i64 0,.int .i64 0])),.array 8 1⟩/\ic prog 182=some (some 8)/\al prog 195=some ⟨1,(some (.nilFunc)),.one⟩/\al prog 200=some ⟨2,(some (.agg #[.int .i64 0,.int .i64 0])),.struct [(0,1),(1,1)]⟩/\al prog 202=some ⟨1,(some (.nilFunc)),.one⟩/\al prog 205=some ⟨2,(some (.agg #[.slice none 0 0,.slice none 0 0])),.struct [(0,1),(1,1)]⟩/\al prog 206=some ⟨2,(some (.agg #[.slice none 0 0,.slice none 0 0])),.struct [(0,1),(1,1)]⟩/\al prog 208=some ⟨2,(some (.agg #[.slice none 0 0,.slice none 0 0])),.struct [(0,2)]⟩/\al prog 209=some ⟨2,(some (.agg #[.slice none 0 0,.slice none 0 0])),.struct [(0,2)]⟩/\al prog 210=some ⟨2,(some (.agg #[.slice none 0 0,.slice none 0 0])),.struct [(0,2)]⟩/\al prog 211=some ⟨8,(some (.agg #[.slice none 0 0,.slice none 0 0,.slice none 0 0,.slice none 0 0,.int .i64 0,.int .i64 0,.int .i64 0,.int .i64 0])),.struct [(0,2),(2,2),(4,3),(7,1)]⟩/\al prog 212=some ⟨8,(some (.agg #[.slice none 0 0,.slice none 0 0,.slice none 0 0,.slice none 0 0,.int .i64 0,.int .i64 0,.int .i64 0,.int .i64 0])),.struct [(0,2),(2,2),(4,3),(7,1)]⟩/\al prog 215=some ⟨6,(some (.agg #[.int .i64 0,.int .i64 0,.int .i64 0,.int .i64 0,.int .i64 0,.int .i64 0])),.array 3 2⟩/\ic prog 215=none/\uJ prog 215=some (3,2)/\al prog 216=some ⟨6,(some (.agg #[.int .i64 0,.int .i64 0,.int .i64 0,.int .i64 0,.int .i64 0,.int .i64 0])),.array 3 2⟩/\ic prog 216=none/\uJ prog 216=some (3,2)/\al prog 220=some ⟨1,(some (.nilIface)),.one⟩/\al prog 230=some ⟨1,(some (.nilFunc)),.one⟩/\al prog 242=some ⟨1,(some (.slice none 0 0)),.slice 247 24 192 (some (.agg #[.int .i64 0,.int .i64 0,.int .i64 0,.int .i64 0,.int .i64 0,.int .i64 0,.int .i64 0,.int .i64 0,.int .i64 0,.int .i64 0,.int .i64 0,.int .i64 0,.int .i64 0,.int .i64 0,.int .i64 0,.int .i64 0,.int .i64 0,.int .i64 0,.int .i64 0,.int .i64 0,.int .i64 0,.int .i64 0,.int .i64 0,.int .i64 0]))⟩/\al prog 244=some ⟨18,(some (.agg #[.int .i64 0,.int .i64 0,.int .i64 0,.int .i64 0,.int .i64 0,.int .i64 0,.int .i64 0,.int .i64 0,.int .i64 0,.int .i64 0,.int .i64 0,.int .i64 0,.int .i64 0,.int .i64 0,.int .i64 0,.int .i64 0,.int .i64 0,.int .i64 0])),.array 3 6⟩/\ic prog 244=none/\uJ prog 244=some (3,6)/\al prog 245=some ⟨18,(some (.agg #[.int .i64 0,.int .i64 0,.int .i64 0,.int .i64 0,.int .i64 0,.int .i64 0,.int .i64 0,.int .i64 0,.int .i64 0,.int .i64 0,.int .i64 0,.int .i64 0,.int .i64 0,.int .i64 0,.int .i64 0,.int .i64 0,.int .i64 0,.int .i64 0])),.array 3 6⟩/\ic prog 245=none/\uJ prog 245=some (3,6)/\al prog 246=some ⟨24,(some (.agg #[.int .i64 0,.int .i64 0,.int .i64 0,.int .i64 0,.int .i64 0,.int .i64 0,.int .i64 0,.int .i64 0,.int .i64 0,.int .i64 0,.int .i64 0,.int .i64 0,.int .i64 0,.int .i64 0,.int .i64 0,.int .i64 0,.int .i64 0,.int .i64 0,.int .i64 0,.int .i64 0,.int .i64 0,.int .i64 0,.int .i64 0,.int .i64 0])),.struct [(0,18),(18,6)]⟩/\al prog 247=some ⟨24,(some (.agg #[.int .i64 0,.int .i64 0,.int .i64 0,.int .i64 0,.int .i64 0,.int .i64 0,.int .i64 0,.int .i64 0,.int .i64 0,.int .i64 0,.int .i64 0,.int .i64 0,.int .i64 0,.int .i64 0,.int .i64 0,.int .i64 0,.int .i64 0,.int .i64 0,.int .i64 0,.int .i64 0,.int .i64 0,.int .i64 0,.int .i64 0,.int .i64 0])),.struct [(0,18),(18,6)]⟩/\al prog 254=some ⟨2,(some (.agg #[.slice none 0 0,.int .i64 0])),.struct [(0,1),(1,1)]⟩/\al prog 255=some ⟨2,(some (.agg #[.slice none 0 0,.int .i64 0])),.struct [(0,1),(1,1)]⟩/\al prog 256=some ⟨4,(some (.agg #[.slice none 0 0,.int .i64 0,.slice none 0 0,.int .i64 0])),.struct [(0,2),(2,2)]⟩:=by repeat' (first|kernel_rfl|refine ⟨by kernel_rfl,?_⟩)
@[simp] theorem WQ:al prog 257=some ⟨4,(some (.agg #[.slice none 0 0,.int .i64 0,.slice none 0 0,.int .i64 0])),.struct [(0,2),(2,2)]⟩/\al prog 259=some ⟨1,(some (.pointer none)),.one⟩/\al prog 297=some ⟨1,(some (.nilFunc)),.one⟩/\al prog 298=some ⟨1,(some (.agg #[.nilFunc])),.struct [(0,1)]⟩/\al prog 299=some ⟨1,(some (.agg #[.nilFunc])),.struct [(0,1)]⟩/\al prog 310=some ⟨1,(some (.int .i64 0)),.one⟩/\dU prog 310=some .i64/\al prog 313=some ⟨1,(some (.nilFunc)),.one⟩/\al prog 314=some ⟨2,(some (.agg #[.nilFunc,.nilFunc])),.struct [(0,1),(1,1)]⟩/\al prog 315=some ⟨2,(some (.agg #[.nilFunc,.nilFunc])),.struct [(0,1),(1,1)]⟩/\al prog 319=some ⟨1,(some (.int .u64 0)),.one⟩/\dU prog 319=some .u64/\al prog 321=some ⟨4,(some (.agg #[.int .i64 0,.int .i64 0,.int .i64 0,.int .i64 0])),.array 4 1⟩/\ic prog 321=some (some 4)/\al prog 322=some ⟨1,(some (.int .u64 0)),.one⟩/\dU prog 322=some .u64/\al prog 326=some ⟨11,(some (.agg #[.int .i64 0,.int .i64 0,.int .i64 0,.int .i64 0,.int .i64 0,.int .i64 0,.int .i64 0,.int .i64 0,.int .i64 0,.int .i64 0,.int .i64 0])),.array 11 1⟩/\ic prog 326=some (some 11)/\al prog 329=some ⟨11,(some (.agg #[.int .i64 0,.int .i64 0,.int .i64 0,.int .i64 0,.int .i64 0,.int .i64 0,.int .i64 0,.int .i64 0,.int .i64 0,.int .i64 0,.int .i64 0])),.array 11 1⟩/\ic prog 329=some (some 11)/\al prog 333=some ⟨4,(some (.agg #[.pointer none,.pointer none,.pointer none,.string ByteArray.empty])),.struct [(0,1),(1,1),(2,1),(3,1)]⟩/\al prog 334=some ⟨4,(some (.agg #[.pointer none,.pointer none,.pointer none,.string ByteArray.empty])),.struct [(0,1),(1,1),(2,1),(3,1)]⟩/\al prog 335=some ⟨0,(some (.agg #[])),.array 0 1⟩/\ic prog 335=some (some 0)/\al prog 336=some ⟨0,(some (.agg #[])),.struct [(0,0)]⟩/\al prog 337=some ⟨0,(some (.agg #[])),.struct [(0,0)]⟩/\al prog 339=some ⟨1,(some (.int .u32 0)),.one⟩/\dU prog 339=some .u32/\al prog 340=some ⟨1,(some (.int .u8 0)),.one⟩/\dU prog 340=some .u8/\al prog 341=some ⟨1,(some (.int .u8 0)),.one⟩/\dU prog 341=some .u8/\al prog 342=some ⟨1,(some (.nilFunc)),.one⟩/\al prog 343=some ⟨1,(some (.pointer none)),.one⟩/\al prog 344=some ⟨1,(some (.int .i32 0)),.one⟩/\dU prog 344=some .i32/\al prog 345=some ⟨1,(some (.int .i32 0)),.one⟩/\dU prog 345=some .i32/\al prog 346=some ⟨11,(some (.agg #[.int .u64 0,.int .u64 0,.int .u32 0,.int .u8 0,.int .u8 0,.int .u8 0,.int .u8 0,.nilFunc,.pointer none,.int .i32 0,.int .i32 0])),.struct [(0,1),(1,1),(2,1),(3,1),(4,1),(5,1),(6,1),(7,1),(8,1),(9,1),(10,1)]⟩/\al prog 347=some ⟨11,(some (.agg #[.int .u64 0,.int .u64 0,.int .u32 0,.int .u8 0,.int .u8 0,.int .u8 0,.int .u8 0,.nilFunc,.pointer none,.int .i32 0,.int .i32 0])),.struct [(0,1),(1,1),(2,1),(3,1),(4,1),(5,1),(6,1),(7,1),(8,1),(9,1),(10,1)]⟩:=by repeat' (first|kernel_rfl|refine ⟨by kernel_rfl,?_⟩)
abbrev I(lo hi:Int):PV:=.val (.agg #[.int .i64 lo,.int .i64 hi])
abbrev aN(x:Int×Int):PV:=I x.1 x.2
abbrev B(b:Bool):PV:=.val (.bool b)
abbrev Z(n:Int):PV:=.val (.int .i64 n)
abbrev wr(n:Int):Int:=i64.wrap n
def aw(lo hi:Int):Bool:=decide (-2147483648<=lo)&&decide (lo<=hi)&&decide (hi<=2147483648)
theorem Ua(a b c d:Int):am prog (Op.equal 50 (.agg #[.int .i64 a,.int .i64 b]) (.agg #[.int .i64 c,.int .i64 d]))=some (a==c&&b==d):=by
 have hf:(prog.fieldsOf 50).toList=[(prog.fieldsOf 50)[0]!,(prog.fieldsOf 50)[1]!]:=by kernel_rfl
 show am prog (Op.equalIn (9999+1) 50 _ _)=_;rw[BK 9999 50 _ _ (by kernel_rfl) (by kernel_rfl),hf]
 have h:=xM (P:=prog) (d:=9999) (xs:=#[.int .i64 a,.int .i64 b]) (ys:=#[.int .i64 c,.int .i64 d]) (f:=(prog.fieldsOf 50)[0]!) (fs:=[(prog.fieldsOf 50)[1]!]) (a:=.int .i64 a) (b:=.int .i64 c) (by decide +kernel) (by kernel_rfl) (by kernel_rfl) (wF 9998 _ .i64 .i64 a c (by kernel_rfl))
  (xM (by decide +kernel) (a:=.int .i64 b) (b:=.int .i64 d) (by kernel_rfl) (by kernel_rfl) (wF 9998 _ .i64 .i64 b d (by kernel_rfl)) HN)
 rw[h];simp
def jI(P:Program)(o:Oper)(ρ:Operand->AV):Option db:=bL P o ρ
def xR(x:AV):Option (Int×Int):=match x with
 |.pv (.val (.agg vs))=>match vs.toList with
  |[.int .i64 a,.int .i64 b]=>some (a,b)
  |_=>none
 |_=>none
theorem qZ{x:AV}{a b:Int}(h:xR x=some (a,b)):x=.pv (I a b):=by
 unfold xR at h;split at h
 .split at h
  .rename_i vs _ d e c
   injection h with h;injection h with h1 h2;subst h1;subst h2;rw[<-Array.toArray_toList (xs:=vs),c]
  .cases h
 .cases h
def Ju(x y:AV)(fb:Option db):Option db:=match xR x,xR y with
 |some (a,b),some (c,d)=>some (.pv (.val (.bool !(a==c&&b==d))),[])
 |_,_=>fb
@[simp] theorem P9(a b c d:Int)(fb:Option db):Ju (.pv (.val (.agg #[.int .i64 a,.int .i64 b]))) (.pv (.val (.agg #[.int .i64 c,.int .i64 d]))) fb=some (.pv (.val (.bool !(a==c&&b==d))),[]):=rfl
@[simp] theorem XA{ty:TypeId}{pos:String}(x y:Operand):
 bL prog ⟨dst,.binOp .neq 50 x y 50,ty,pos,aft,g⟩ ρ=Ju (ρ x) (ρ y) (jI prog ⟨dst,.binOp .neq 50 x y 50,ty,pos,aft,g⟩ ρ):=by
 unfold Ju;split
 .rename_i a b c d e f
  exact Ak rfl (qZ e) (qZ f) (by kernel_rfl) (Ua a b c d)
 .rfl
theorem j7(lo hi:Int):bh 143 (I lo hi) (B (aw lo hi)):=by
 refine Dp func143 λC hP hN=>?_
 with_reducible repeat' (first|refine Sp.h ?_|((first|refine Ss.h ?_|(refine Sb.h ?_ ?_ ?_<;>(try intro hgd)<;>try exact Xy))<;>simp -implicitDefEqProofs (maxSteps:=2000000) [hP,hN])|refine X2 ?_ ?_|(refine Xd ?_ ?_<;>intro hcd<;>try exact Xx))
 all_goals (first|(simp_all[aw];done)|((try simp_all[aw])<;>(try omega)<;>grind))
theorem oR(lo hi:Int):bh 39 (I lo hi) (B (aw lo hi)):=by
 refine Dp func39 λC hP hN=>?_
 with_reducible repeat' (first|refine Sp.h ?_|((first|refine Ss.h ?_|(refine Sb.h ?_ ?_ ?_<;>(try intro hgd)<;>try exact Xy))<;>simp -implicitDefEqProofs (maxSteps:=2000000) [hP,hN])|refine X2 ?_ ?_|(refine Xd ?_ ?_<;>intro hcd<;>try exact Xx))
 all_goals (first|(simp_all[aw];done)|((try simp_all[aw])<;>(try omega)<;>grind))
theorem zb(a b c d:Int):aH 176 (I a b) (I c d) (B (aw a b&&aw c d)):=by
 refine Dp func176 λC hP hN=>?_
 with_reducible repeat' (first|refine Sp.h ?_|((first|refine Ss.h ?_|refine Sc.h (j7 _ _) ?_|(refine Sb.h ?_ ?_ ?_<;>(try intro hgd)<;>try exact Xy))<;>simp -implicitDefEqProofs (maxSteps:=2000000) [hP,hN])|refine X2 ?_ ?_|(refine Xd ?_ ?_<;>intro hcd<;>try exact Xx))
 all_goals (first|(simp_all;done)|((try simp_all)<;>(try omega)<;>grind))
theorem QQ(a b c d:Int):aH 129 (I a b) (I c d) (B (aw a b&&aw c d&&decide (c<=a)&&decide (b<=d))):=by
 refine Dp func129 λC hP hN=>?_
 with_reducible repeat' (first|refine Sp.h ?_|((first|refine Ss.h ?_|refine Sc.h (zb _ _ _ _) ?_|(refine Sb.h ?_ ?_ ?_<;>(try intro hgd)<;>try exact Xy))<;>simp -implicitDefEqProofs (maxSteps:=2000000) [hP,hN])|refine X2 ?_ ?_|(refine Xd ?_ ?_<;>intro hcd<;>try exact Xx))
 all_goals (first|(simp_all;done)|((try simp_all)<;>(try omega)<;>grind))
theorem QR(a b c d:Int):aH 228 (I a b) (I c d) (B (aw a b&&aw c d&&decide (c<=a)&&decide (b<=d))):=by
 refine Dp func228 λC hP hN=>?_
 with_reducible repeat' (first|refine Sp.h ?_|((first|refine Ss.h ?_|refine Sc.h (oR _ _) ?_|(refine Sb.h ?_ ?_ ?_<;>(try intro hgd)<;>try exact Xy))<;>simp -implicitDefEqProofs (maxSteps:=2000000) [hP,hN])|refine X2 ?_ ?_|(refine Xd ?_ ?_<;>intro hcd<;>try exact Xx))
 all_goals (first|(simp_all;done)|((try simp_all)<;>(try omega)<;>grind))
def oo(n k:Int):Int:=if n.tmod k<0 then wr (n.tmod k+k)else n.tmod k
theorem Nf(n k:Int)(a:k≠0):aH 10 (Z n) (Z k) (Z (oo n k)):=by
 refine Dp func10 λC hP hN=>?_
 with_reducible repeat' (first|refine Sp.h ?_|((first|refine Ss.h ?_|(refine Sb.h ?_ ?_ ?_<;>(try intro hgd)<;>try exact Xy))<;>simp -implicitDefEqProofs (maxSteps:=2000000) [hP,hN,a])|refine X2 ?_ ?_|(refine Xd ?_ ?_<;>intro hcd<;>try exact Xx))
 all_goals (first|(simp_all[oo];done)|((try simp_all[oo])<;>(try omega)<;>grind))
@[simp] theorem TR(a b:Int):(if b<a then b else a)=min a b:=by split<;>omega
@[simp] theorem TS(a b:Int):(if a<b then b else a)=max a b:=by split<;>omega
theorem aa{n:Int}(h1:-9223372036854775808<=n:=by omega)(a:n<9223372036854775808:=by omega):wr n=n:=by
 rw[wr,IntKind.wrap_i64];omega
theorem Po(a:k<64):min k.toNat 64=k.toNat:=by omega
theorem Ng:i64.bits=64:=rfl
theorem QS(a:Int):bh 309 (Z a) (Z (min (max a (-2147483648)) 2147483648)):=by
 refine Dp func309 λC hP hN=>?_;exact Gy
 all_goals (first|(simp_all;done)|((try simp_all)<;>(try omega)<;>grind))
theorem Nh(a b:Int):aH 298 (Z a) (Z b) (I (min (max a (-2147483648)) 2147483648) (min (max b (-2147483648)) 2147483648)):=by
 refine Dp func298 λC hP hN=>?_;have c:=@QS;exact GS trivial
 all_goals (first|(simp_all;done)|((try simp_all)<;>(try omega)<;>grind))
theorem QT(a:Int):bh 275 (Z a) (I (min (max a (-2147483648)) 2147483648) (min (max a (-2147483648)) 2147483648)):=by
 refine Dp func275 λC hP hN=>?_;have b:=@Nh;exact GS trivial
 all_goals (first|(simp_all;done)|((try simp_all)<;>(try omega)<;>grind))
theorem QU(a k:Int)(h:0<=k)(b:k<64):aH 183 (Z a) (Z k) (Z (a.fdiv (2^k.toNat))):=by
 refine Dp func183 λC hP hN=>?_;exact GS (be h @Ng (Po b))
 all_goals (first|(simp_all;done)|((try simp_all)<;>(try omega)<;>grind))
def gZ(x y:Int×Int):Int×Int:=if aw x.1 x.2&&aw y.1 y.2 then(min x.1 y.1,max x.2 y.2)else(0,0)
theorem Gs(a b c d:Int):aH 335 (I a b) (I c d) (aN (gZ (a,b) (c,d))):=by
 refine Dp func335 λC hP hN=>?_
 with_reducible repeat' (first|refine Sp.h ?_|((first|refine Ss.h ?_|refine Sc.h (zb _ _ _ _) ?_|(refine Sb.h ?_ ?_ ?_<;>(try intro hgd)<;>try exact Xy))<;>simp -implicitDefEqProofs (maxSteps:=2000000) [hP,hN])|refine X2 ?_ ?_|(refine Xd ?_ ?_<;>intro hcd<;>try exact Xx))
 all_goals (first|(simp_all[gZ];done)|((try simp_all[gZ])<;>(try omega)<;>grind))
theorem Gt(a b c d:Int):aH 326 (I a b) (I c d) (aN (gZ (a,b) (c,d))):=by
 refine Dp func326 λC hP hN=>?_
 with_reducible repeat' (first|refine Sp.h ?_|((first|refine Ss.h ?_|refine Sc.h (oR _ _) ?_|(refine Sb.h ?_ ?_ ?_<;>(try intro hgd)<;>try exact Xy))<;>simp -implicitDefEqProofs (maxSteps:=2000000) [hP,hN])|refine X2 ?_ ?_|(refine Xd ?_ ?_<;>intro hcd<;>try exact Xx))
 all_goals (first|(simp_all[gZ];done)|((try simp_all[gZ])<;>(try omega)<;>grind))
theorem wG(a b:Int):bh 136 (I a b) (Z (if aw a b then wr (b-a)else 0)):=by
 refine Dp func136 λC hP hN=>?_
 with_reducible repeat' (first|refine Sp.h ?_|((first|refine Ss.h ?_|refine Sc.h (j7 _ _) ?_|(refine Sb.h ?_ ?_ ?_<;>(try intro hgd)<;>try exact Xy))<;>simp -implicitDefEqProofs (maxSteps:=2000000) [hP,hN])|refine X2 ?_ ?_|(refine Xd ?_ ?_<;>intro hcd<;>try exact Xx))
 all_goals (first|(simp_all;done)|((try simp_all)<;>(try omega)<;>grind))
theorem Ni(a b:Int):bh 137 (I a b) (Z (if aw a b then(wr (a+b)).fdiv 2 else 0)):=by
 refine Dp func137 λC hP hN=>?_
 with_reducible repeat' (first|refine Sp.h ?_|((first|refine Ss.h ?_|refine Sc.h (j7 _ _) ?_|refine Sc.h (QU _ _ (by decide) (by decide)) ?_|(refine Sb.h ?_ ?_ ?_<;>(try intro hgd)<;>try exact Xy))<;>simp -implicitDefEqProofs (maxSteps:=2000000) [hP,hN])|refine X2 ?_ ?_|(refine Xd ?_ ?_<;>intro hcd<;>try exact Xx))
 all_goals (first|(simp_all;done)|((try simp_all)<;>(try omega)<;>grind))
theorem Nj(a b x:Int):aH 189 (I a b) (Z x) (B (aw a b&&decide (a<=x)&&decide (x<=b))):=by
 refine Dp func189 λC hP hN=>?_
 with_reducible repeat' (first|refine Sp.h ?_|((first|refine Ss.h ?_|refine Sc.h (j7 _ _) ?_|(refine Sb.h ?_ ?_ ?_<;>(try intro hgd)<;>try exact Xy))<;>simp -implicitDefEqProofs (maxSteps:=2000000) [hP,hN])|refine X2 ?_ ?_|(refine Xd ?_ ?_<;>intro hcd<;>try exact Xx))
 all_goals (first|(simp_all;done)|((try simp_all)<;>(try omega)<;>grind))
theorem QV(a b x:Int):aH 114 (I a b) (Z x) (B (aw a b&&decide (a<=x)&&decide (x<=b))):=by
 refine Dp func114 λC hP hN=>?_
 with_reducible repeat' (first|refine Sp.h ?_|((first|refine Ss.h ?_|refine Sc.h (oR _ _) ?_|(refine Sb.h ?_ ?_ ?_<;>(try intro hgd)<;>try exact Xy))<;>simp -implicitDefEqProofs (maxSteps:=2000000) [hP,hN])|refine X2 ?_ ?_|(refine Xd ?_ ?_<;>intro hcd<;>try exact Xx))
 all_goals (first|(simp_all;done)|((try simp_all)<;>(try omega)<;>grind))
theorem Nk(a b c d:Int):aH 187 (I a b) (I c d) (.tup (if aw a b&&aw c d&&decide (max a c<=min b d)then[I (max a c) (min b d),B true]else[I 0 0,B false])):=by
 refine Dp func187 λC hP hN=>?_
 with_reducible repeat' (first|refine Sp.h ?_|((first|refine Ss.h ?_|refine Sc.h (zb _ _ _ _) ?_|(refine Sb.h ?_ ?_ ?_<;>(try intro hgd)<;>try exact Xy))<;>simp -implicitDefEqProofs (maxSteps:=2000000) [hP,hN])|refine X2 ?_ ?_|(refine Xd ?_ ?_<;>intro hcd<;>try exact Xx))
 all_goals (first|(simp_all;done)|((try simp_all)<;>(try omega)<;>grind))
theorem QW(a b c d:Int):aH 166 (I a b) (I c d) (.tup (if aw a b&&aw c d&&decide (max a c<=min b d)then[I (max a c) (min b d),B true]else[I 0 0,B false])):=by
 refine Dp func166 λC hP hN=>?_
 with_reducible repeat' (first|refine Sp.h ?_|((first|refine Ss.h ?_|refine Sc.h (oR _ _) ?_|(refine Sb.h ?_ ?_ ?_<;>(try intro hgd)<;>try exact Xy))<;>simp -implicitDefEqProofs (maxSteps:=2000000) [hP,hN])|refine X2 ?_ ?_|(refine Xd ?_ ?_<;>intro hcd<;>try exact Xx))
 all_goals (first|(simp_all;done)|((try simp_all)<;>(try omega)<;>grind))
abbrev zs(xs:List Int):PV:=.sl (xs.map Z)
abbrev iv(xs:List (Int×Int)):PV:=.sl (xs.map aN)
abbrev Fv(f:FuncId):PV:=.val (.func (.func f) #[] #[])
theorem wH(h:n<=16777216):n<=9223372036854775807:=by omega
theorem aj(h:i<n)(hn:n<=9223372036854775807):i64.wrap ((i:Int)+1)=(i:Int)+1:=by rw[IntKind.wrap_i64];omega
def oW(p:α->Bool)(xs:List α):Int:=match xs.findIdx? p with
 |some i=>i
 |none=>-1
theorem rc(b:i<xs.length)(hq:∀j x,j<i->xs[j]?=some x->p x=false)(hp:p xs[i]=true):oW p xs=i:=by
 have:xs.findIdx? p=some i:=by
  rw[X8];refine⟨b,hp,λj c=>?_⟩
  have a:j<xs.length:=by omega
  rw[hq j xs[j] c (an a)];simp
 simp[oW,this]
theorem wI(hq:∀(j:Nat) x,xs[j]?=some x->p x=false):oW p xs=-1:=by
 have:xs.findIdx? p=none:=by
  rw[List.findIdx?_eq_none_iff];intro x b;obtain⟨j,a,rfl⟩:=Xh.1 b;exact hq j _ (an a)
 simp[oW,this]
theorem uV(p:α->Bool)(xs:List α):decide (0<=oW p xs)=xs.any p:=by
 unfold oW
 cases h:xs.findIdx? p with
 |none=>
  rw[List.findIdx?_eq_none_iff]at h
  have:xs.any p=false:=by
   rw[XN];intro x b;rw[h x b];simp
  simp[this]
 |some i=>
  rw[X8]at h;obtain⟨a,hp,_⟩:=h;have:xs.any p=true:=XX.2 ⟨xs[i],Wb a,hp⟩;simp[this]
theorem p9(b:i<xs.length)(hq:∀j x,j<i->xs[j]?=some x->p x=false)(hp:p xs[i]=false):∀j x,j<i+1->xs[j]?=some x->p x=false:=by
 intro j x c a;by_cases e:j=i
 .subst e;rw[an b]at a;injection a with a;subst a;exact hp
 .exact hq j x (by omega) a
theorem zd(b:¬i<xs.length)(hq:∀j x,j<i->xs[j]?=some x->p x=false):∀(j:Nat) x,xs[j]?=some x->p x=false:=by
 intro j x a;have:=(th.1 a).1;exact hq j x (by omega) a
theorem QX(f:FuncId)(p:Int×Int->Bool)(xs:List (Int×Int))(d:xs.length<=9223372036854775807)(hf:∀x,aQ prog f [.pv (aN x)] [] [] (.pv (B (p x)))):aH 242 (iv xs) (Fv f) (Z (oW p xs)):=by
 refine Dp func242 λC hP hN=>?_;refine Gz ?_;refine WP.loopN [] xs.length (λi st=>st.t 0=.pv (iv xs)/\st.t 1=.pv (Fv f)/\st.t 7=.pv (Z xs.length)/\st.t 8=.pv (Z i)/\∀j x,j<i->xs[j]?=some x->p x=false) (by simp) ?_;rintro i st hi ⟨b,c,h7,h8,hq⟩;by_cases a:i<xs.length
 .have e:=aj a d
  with_reducible repeat' (first|refine Sp.h ?_|((first|refine Ss.h ?_|refine Sc.h (hf _) ?_|(refine Sb.h ?_ ?_ ?_<;>(try intro hgd)<;>try exact Xy))<;>simp -implicitDefEqProofs (maxSteps:=2000000) [hP,hN,b,c,h7,h8,a,e])|refine X2 ?_ ?_|(refine Xd ?_ ?_<;>intro hcd<;>try exact Xx))
  .exact(rc a hq hcd).symm
  .simpa using p9 a hq hcd
 .skip
  refine Gz ?_;exact(wI (zd a hq)).symm
theorem Nl(f:FuncId)(p:Int×Int->Bool)(xs:List (Int×Int))(a:xs.length<=9223372036854775807)(hf:∀x,aQ prog f [.pv (aN x)] [] [] (.pv (B (p x)))):aH 181 (iv xs) (Fv f) (B (xs.any p)):=by
 refine Dp func181 λC hP hN=>?_;have b:=QX _ _ _ a hf;refine GT trivial ?_
 all_goals (first|(simp_all[uV];done)|((try simp_all[uV])<;>(try omega)<;>grind))
def bj(p:α->Bool)(xs:List α):Bool:=xs.all p
theorem Fi(p:α->Bool)(xs:List α):(xs.any λx=>!p x)=!bj p xs:=by simp[bj,List.any_eq_not_all_not]
abbrev vI(x:Int×Int):Bool:=aw x.1 x.2
theorem QZ(x:Int×Int):bh 182 (aN x) (B (!aw x.1 x.2)):=by
 refine Dp func182 λC hP hN=>?_;have a:=@j7;exact GS trivial
 all_goals (first|(simp_all;done)|((try simp_all)<;>(try omega)<;>grind))
theorem wJ(xs:List (Int×Int))(a:xs.length<=9223372036854775807):bh 135 (iv xs) (B (bj vI xs)):=by
 refine Dp func135 λC hP hN=>?_;have b:=Nl _ _ _ a QZ;exact GS (Fi vI xs)
 all_goals (first|(simp_all;done)|((try simp_all)<;>(try omega)<;>grind))
def HQ(x:Int):Bool:=decide (-2147483648<=x)&&decide (x<=2147483648)
theorem Jv{T L:List PV}{v:PV}(a:L.length=T.length)(h:∀j,j<i->L[j]?=T[j]?)(b:T[i]?=some v):∀j,j<i+1->(L.set i v)[j]?=T[j]?:=by
 intro j c;have hi:i<T.length:=(th.1 b).1;by_cases e:j=i
 .subst e;rw[b,List.getElem?_set_self (by omega)]
 .rw[List.getElem?_set_ne (by omega)];exact h j (by omega)
theorem Jw{T L:List PV}(a:L.length=T.length)(h:∀j,j<i->L[j]?=T[j]?)(hi:T.length<=i):L=T:=by
 apply WA;intro j;by_cases e:j<i
 .exact h j e
 .rw[VW (by omega),VW (by omega)]
theorem wK(a:i<xs.length)(hp:p xs[i]=false):bj p xs=false:=by
 rw[bj,Xt];exact⟨xs[i],Wb a,by simp[hp]⟩
theorem uW(a:i<xs.length)(h:bj p (xs.take i)=true)(hp:p xs[i]=true):bj p (xs.take (i+1))=true:=by
 unfold bj at *;rw[WF a,List.all_append,h];simp[hp]
theorem uX(a:¬i<xs.length)(h:bj p (xs.take i)=true):bj p xs=true:=by
 rwa [Wg (by omega)]at h
theorem Cr{f:α->β}(a:i<xs.length):(xs.map f).take i++[f xs[i]]=(xs.map f).take (i+1):=by
 rw[WF (by simpa using a)];simp
theorem HR(hn:xs.length=n)(hi:¬i<n):xs.take i=xs:=Wg (by omega)
def dN(f:α->β->Bool)(xs:List α)(ys:List β):Bool:=(List.zipWith f xs ys).all id
def eF(f:α->β->Bool)(xs:List α)(ys:List β)(i:Nat):Bool:=((List.zipWith f xs ys).take i).all id
theorem ir(b:i<xs.length)(a:i<ys.length)(hp:f xs[i] ys[i]=false):dN f xs ys=false:=
 wK (p:=id) (xs:=List.zipWith f xs ys) (i:=i) (by simp;omega) (by simpa using hp)
theorem jh(b:i<xs.length)(a:i<ys.length)(h:eF f xs ys i=true)(hp:f xs[i] ys[i]=true):eF f xs ys (i+1)=true:=
 uW (p:=id) (xs:=List.zipWith f xs ys) (i:=i) (by simp;omega) h (by simpa using hp)
theorem ji(a:¬i<xs.length)(h:eF f xs ys i=true):dN f xs ys=true:=
 uX (p:=id) (xs:=List.zipWith f xs ys) (i:=i) (by simp;omega) h
theorem iy(xs:List (Int×Int))(d:xs.length<=9223372036854775807):bh 100 (iv xs) (B (bj vI xs)):=by
 refine Dp func100 λC hP hN=>?_;refine Gz ?_;refine WP.loopN [] xs.length (λi st=>st.t 0=.pv (iv xs)/\st.t 3=.pv (Z i)/\bj vI (xs.take i)=true) (by simp[bj]) ?_;rintro i st hi ⟨b,c,hq⟩;by_cases a:i<xs.length
 .have e:=aj a d
  have hF:vI xs[i]=false->bj vI xs=false:=wK a;have hS:vI xs[i]=true->bj vI (xs.take (i+1))=true:=uW a hq
  with_reducible repeat' (first|refine Sp.h ?_|((first|refine Ss.h ?_|refine Sc.h (oR _ _) ?_|(refine Sb.h ?_ ?_ ?_<;>(try intro hgd)<;>try exact Xy))<;>simp -implicitDefEqProofs (maxSteps:=2000000) [hP,hN,b,c,a,e])|refine X2 ?_ ?_|(refine Xd ?_ ?_<;>intro hcd<;>try exact Xx))
  all_goals first|(rw[hF];simp_all[HQ];try omega)|(rw[hS];simp_all[HQ];try omega)
 .skip
  refine Gz ?_;simp[uX a hq]
def dS(x y:Int×Int):Bool:=aw x.1 x.2&&aw y.1 y.2&&decide (y.1<=x.1)&&decide (x.2<=y.2)
def nq(x:Int×Int)(c:Int):Bool:=aw x.1 x.2&&decide (x.1<=c)&&decide (c<=x.2)
def nM(xs ys:List (Int×Int)):Bool:=bj vI xs&&bj vI ys&&decide (xs.length=ys.length)&&dN dS xs ys
def ze(xs:List (Int×Int))(ys:List Int):Bool:=bj vI xs&&decide (xs.length=ys.length)&&dN nq xs ys
theorem Q0(xs:List (Int×Int))(ys:List (Int×Int))(e:xs.length<=9223372036854775807)(g:ys.length<=9223372036854775807):aH 162 (iv xs) (iv ys) (B (nM xs ys)):=by
 refine Dp func162 λC hP hN=>?_
 cases c:bj vI xs with
 |false=>
  have j:=iy _ e;have k:=iy _ g;refine GT c ?_
  all_goals simp[nM,c]
 |true=>
  cases d:bj vI ys with
  |false=>
   have j:=iy _ e;have k:=iy _ g;refine GT (gA c d) ?_
   all_goals simp[nM,c,d]
  |true=>
   by_cases f:xs.length=ys.length
   .skip
    have j:=iy _ e;have k:=iy _ g;refine GT (be c d f) ?_;refine WP.loopN [] xs.length (λi st=>st.t 0=.pv (iv xs)/\st.t 1=.pv (iv ys)/\st.t 5=.pv (Z i)/\eF dS xs ys i=true) (by simp[eF]) ?_;rintro i st hi ⟨l,m,n,hq⟩;by_cases b:i<xs.length
    .have o:=aj b e
     have a:i<ys.length:=by omega
     have hF:dS xs[i] ys[i]=false->dN dS xs ys=false:=ir b a;have hS:dS xs[i] ys[i]=true->eF dS xs ys (i+1)=true:=jh b a hq
     with_reducible repeat' (first|refine Sp.h ?_|((first|refine Wd ?_|refine Ss.h ?_|refine Sc.h (QR _ _ _ _) ?_|(refine Sb.h ?_ ?_ ?_<;>(try intro hgd)<;>try exact Xy))<;>simp -implicitDefEqProofs (maxSteps:=2000000) [hP,hN,l,m,n,b,a,o]<;>try refine Ya ?_)|refine X2 ?_ ?_|(refine Xd ?_ ?_<;>intro hcd<;>try exact Xx))
     all_goals first|(rw[nM,hF (by simp only[dS]<;>grind)];simp;done)|(rw[hS (by simp only[dS]<;>grind)];done)
    .have a:¬i<ys.length:=by omega
     refine GT (f8 l m n b a) ?_
     all_goals simp[nM,c,d,f,ji b hq]
   .skip
    have j:=iy _ e;have k:=iy _ g;refine GT (be c d f) ?_
    all_goals simp[nM,c,d,f]
theorem Lh(xs:List (Int×Int))(ys:List (Int))(e:xs.length<=9223372036854775807)(m:ys.length<=9223372036854775807):aH 54 (iv xs) (zs ys) (B (ze xs ys)):=by
 refine Dp func54 λC hP hN=>?_
 cases c:bj vI xs with
 |false=>
  have f:=iy _ e;refine GT c ?_
  all_goals simp[ze,c]
 |true=>
  by_cases d:xs.length=ys.length
  .skip
   have f:=iy _ e;refine GT (gA c d) ?_;refine WP.loopN [] xs.length (λi st=>st.t 0=.pv (iv xs)/\st.t 1=.pv (zs ys)/\st.t 5=.pv (Z i)/\eF nq xs ys i=true) (by simp[eF]) ?_;rintro i st hi ⟨g,j,k,hq⟩;by_cases b:i<xs.length
   .have l:=aj b e
    have a:i<ys.length:=by omega
    have hF:nq xs[i] ys[i]=false->dN nq xs ys=false:=ir b a;have hS:nq xs[i] ys[i]=true->eF nq xs ys (i+1)=true:=jh b a hq
    with_reducible repeat' (first|refine Sp.h ?_|((first|refine Wd ?_|refine Ss.h ?_|refine Sc.h (QV _ _ _) ?_|(refine Sb.h ?_ ?_ ?_<;>(try intro hgd)<;>try exact Xy))<;>simp -implicitDefEqProofs (maxSteps:=2000000) [hP,hN,g,j,k,b,a,l]<;>try refine Ya ?_)|refine X2 ?_ ?_|(refine Xd ?_ ?_<;>intro hcd<;>try exact Xx))
    all_goals first|(rw[ze,hF (by simp only[nq]<;>grind)];simp;done)|(rw[hS (by simp only[nq]<;>grind)];done)
   .have a:¬i<ys.length:=by omega
    refine Gz ?_
    all_goals simp[ze,c,d,ji b hq]
  .skip
   have f:=iy _ e;refine GT (gA c d) ?_
   all_goals simp[ze,c,d]
def qa[DecidableEq α](x y:α):Bool:=decide (x=y)
theorem L5[DecidableEq α]{ys:List α}(a:xs.length=ys.length):dN qa xs ys=decide (xs=ys):=by
 unfold dN
 induction xs generalizing ys with
 |nil=>cases ys<;>simp at a|-
 |cons x xs ih=>cases ys with
  |nil=>simp at a
  |cons y ys=>simp only[List.zipWith_cons_cons,List.all_cons,ih (by simpa using a)];simp[qa,Bool.decide_and]
def pT[DecidableEq α](xs ys:List α):Bool:=decide (xs.length=ys.length)&&dN qa xs ys
theorem Ub(xs:List (Int×Int))(ys:List (Int×Int))(g:xs.length<=9223372036854775807)(k:ys.length<=9223372036854775807):aH 15 (iv xs) (iv ys) (B (pT xs ys)):=by
 refine Dp func15 λC hP hN=>?_;by_cases c:xs.length=ys.length
 .skip
  refine GT c ?_;refine WP.loopN [] xs.length (λi st=>st.t 0=.pv (iv xs)/\st.t 1=.pv (iv ys)/\st.t 5=.pv (Z i)/\eF qa xs ys i=true) (by simp[eF]) ?_;rintro i st hi ⟨d,e,f,hq⟩;by_cases b:i<xs.length
  .have j:=aj b g
   have a:i<ys.length:=by omega
   have hF:qa xs[i] ys[i]=false->dN qa xs ys=false:=ir b a;have hS:qa xs[i] ys[i]=true->eF qa xs ys (i+1)=true:=jh b a hq
   with_reducible repeat' (first|refine Sp.h ?_|((first|refine Wd ?_|refine Ss.h ?_|(refine Sb.h ?_ ?_ ?_<;>(try intro hgd)<;>try exact Xy))<;>simp -implicitDefEqProofs (maxSteps:=2000000) [hP,hN,d,e,f,b,a,j]<;>try refine Ya ?_)|refine X2 ?_ ?_|(refine Xd ?_ ?_<;>intro hcd<;>try exact Xx))
   all_goals first|(rw[pT,hF (by simp only[qa]<;>grind)];simp;done)|(rw[hS (by simp only[qa]<;>grind)];done)
  .have a:¬i<ys.length:=by omega
   refine GT (f8 d e f b a) ?_
   all_goals simp[pT,c,ji b hq]
 .skip
  refine GT c ?_
  all_goals simp[pT,c]
theorem Nm(xs:List (Int))(ys:List (Int))(g:xs.length<=9223372036854775807)(k:ys.length<=9223372036854775807):aH 167 (zs xs) (zs ys) (B (pT xs ys)):=by
 refine Dp func167 λC hP hN=>?_;by_cases c:xs.length=ys.length
 .skip
  refine GT c ?_;refine WP.loopN [] xs.length (λi st=>st.t 0=.pv (zs xs)/\st.t 1=.pv (zs ys)/\st.t 5=.pv (Z i)/\eF qa xs ys i=true) (by simp[eF]) ?_;rintro i st hi ⟨d,e,f,hq⟩;by_cases b:i<xs.length
  .have j:=aj b g
   have a:i<ys.length:=by omega
   have hF:qa xs[i] ys[i]=false->dN qa xs ys=false:=ir b a;have hS:qa xs[i] ys[i]=true->eF qa xs ys (i+1)=true:=jh b a hq
   with_reducible repeat' (first|refine Sp.h ?_|((first|refine Wd ?_|refine Ss.h ?_|(refine Sb.h ?_ ?_ ?_<;>(try intro hgd)<;>try exact Xy))<;>simp -implicitDefEqProofs (maxSteps:=2000000) [hP,hN,d,e,f,b,a,j]<;>try refine Ya ?_)|refine X2 ?_ ?_|(refine Xd ?_ ?_<;>intro hcd<;>try exact Xx))
   all_goals first|(rw[pT,hF (by simp only[qa]<;>grind)];simp;done)|(rw[hS (by simp only[qa]<;>grind)];done)
  .have a:¬i<ys.length:=by omega
   refine GT (f8 d e f b a) ?_
   all_goals simp[pT,c,ji b hq]
 .skip
  refine GT c ?_
  all_goals simp[pT,c]
def dG(x:Int×Int):Int:=if aw x.1 x.2 then wr (x.2-x.1)else 0
def jG(x:Int×Int):Int:=if aw x.1 x.2 then(wr (x.1+x.2)).fdiv 2 else 0
def bz(xs:List (Int×Int))(j:Int):Bool:=decide (0<=j)&&bj vI xs&&(match xs[j.toNat]? with|some x=>decide (2<=dG x)|none=>false)
def aW(xs:List (Int×Int))(j:Int):List (Int×Int):=if bz xs j then(match xs[j.toNat]? with|some x=>xs.set j.toNat (x.1,jG x)|none=>[])else[]
def aX(xs:List (Int×Int))(j:Int):List (Int×Int):=if bz xs j then(match xs[j.toNat]? with|some x=>xs.set j.toNat (jG x,x.2)|none=>[])else[]
theorem Qa(xs:List (Int×Int))(j:Int)(f:xs.length<=16777216):aH 78 (iv xs) (Z j) (.tup [iv (aW xs j),iv (aX xs j),B (bz xs j)]):=by
 refine Dp func78 λC hP hN=>?_;by_cases k:0<=j
 .obtain⟨n,rfl⟩:=Xj k
  by_cases b:n<xs.length
  .cases e:bj vI xs with
   |false=>
    have i:=wJ _ (wH f);refine GT (gA b e) ?_
    all_goals simp[aW,aX,bz,e]
   |true=>
    have d:=an b;generalize g:xs[n]=x at d;by_cases c:dG x<2
    .have a:=c
     simp only[dG]at a;have i:=wJ _ (wH f);have o:=@wG;refine GT (f8 b e d g a) ?_
     all_goals simp[aW,aX,bz,e,d,Int.not_le.2 c]
    .have a:=c
     simp only[dG]at a;have i:=wJ _ (wH f);have o:=@wG;have p:=@Ni;refine GT (it b e d g a (show(16:Int)*xs.length<=281474976710656 by omega) (show(xs.length:Int)<=9223372036854775807 by omega)) ?_
     have l:bz xs (n:Int)=true:=by simp[bz,e,d,Int.not_lt.1 c]
     have m:List.take xs.length (List.map aN xs)=List.map aN xs:=Wg (by simp);simp[aW,aX,l,d,m,Xs,jG]
  .skip
   have i:=wJ _ (wH f);refine GT b ?_
   all_goals (have d:xs[n]?=none:=VW (by omega));simp[aW,aX,bz,d]
 .skip
  have i:=wJ _ (wH f);refine GT (gA k (show j<0 by omega)) ?_
  all_goals simp[aW,aX,bz,k]
def nx(l:List Int)(n:Nat)(k:Int):Int:=match l[n]? with
 |some x=>oo x k
 |none=>0
def nn(l:List Int)(n:Nat):Nat:=if n<l.length then n+1 else n
abbrev j8(l:List Int)(n:Nat):List PV:=[zs l,Z n]
theorem Nn(l:List Int):aQ prog 21 [.pv (zs l)] [] [] (.box (j8 l 0)):=by
 refine Dp func21 λC hP hN=>?_;exact Gy
 all_goals (first|(simp_all;done)|((try simp_all)<;>(try omega)<;>grind))
theorem br(l:List Int)(n:Nat):nn l n<=n+1:=by unfold nn;split<;>omega
theorem io(l:List Int)(n:Nat)(k:Int)(c:k≠0)(hn:n<1000000):aQ prog 23 [.bx 0,.pv (Z k)] [j8 l n] [j8 l (nn l n)] (.pv (Z (nx l n k))):=by
 have d:i64.wrap ((n:Int)+1)=(n:Int)+1:=by rw[IntKind.wrap_i64];omega
 have b:i64.wrap (n:Int)=n:=by rw[IntKind.wrap_i64];omega
 refine oV func23 rfl (by kernel_rfl) (by simp[f23]) rfl (by intro i j h;rcases i with _|_|_|i<;>simp_all) ?_;intro C hP hN;simp only[f23]at hN|-;by_cases a:n<l.length
 .skip
  with_reducible repeat' (first|refine Sp.h ?_|((first|refine Wd ?_|refine Ss.h ?_|refine Sc.h (Nf _ _ c) ?_|(refine Sb.h ?_ ?_ ?_<;>(try intro hgd)<;>try exact Xy))<;>simp -implicitDefEqProofs (maxSteps:=2000000) [hP,hN,j8,a,d,b,Nat.not_le.2 a]<;>try refine Ya ?_)|refine X2 ?_ ?_|(refine Xd ?_ ?_<;>intro hcd<;>try exact Xx))
  simp[nn,nx,a]
 .skip
  refine Gz ?_;simp[nn,nx,a]
theorem yx(l:List Int)(n:Nat)(k:Int)(c:0<k)(d:k<1000000)(hn:n<1000000):aQ prog 25 [.bx 0,.pv (Z k)] [j8 l n] [j8 l (nn l n)] (.pv (Z (wr (nx l n (2*k+1)-k)))):=by
 have b:i64.wrap (2*k)=2*k:=by rw[IntKind.wrap_i64];omega
 have a:i64.wrap (2*k+1)=2*k+1:=by rw[IntKind.wrap_i64];omega
 refine oV func25 rfl (by kernel_rfl) (by simp[f25]) rfl (by intro i j h;rcases i with _|_|_|i<;>simp_all) ?_;intro C hP hN;simp only[f25]at hN|-;have e:=io l n (2*k+1) (by omega) hn;exact GS (be @j8.eq_1 b a)
theorem cY(l:List Int)(n:Nat)(a:0<k)(b:k<4611686018427387904):0<=nx l n k/\nx l n k<k:=by
 unfold nx;split
 .rename_i x _
  have c:-k<x.tmod k:=by have:=X6 x a;omega
  have d:x.tmod k<k:=XJ x a;unfold oo;split
  .rw[aa (by omega) (by omega)];omega
  .omega
 .omega
def HS(a:Int):Int:=if a=2 then 1 else if a=3 then 2 else if a=4 then 4 else if a=5 then 5 else if a=7 then 0 else 3
theorem L6{c:Int}(a:0<=c)(h8:c<8):∀h,([.int .i64 3,.int .i64 3,.int .i64 1,.int .i64 2,.int .i64 4,.int .i64 5,.int .i64 3,.int .i64 0]:List Value)[c.toNat]'h=.int .i64 (HS c):=by
 have:c=0\/c=1\/c=2\/c=3\/c=4\/c=5\/c=6\/c=7:=by omega
 rcases this with rfl|rfl|rfl|rfl|rfl|rfl|rfl|rfl<;>(intro h;rfl)
def zf(i:Nat):ByteArray:=⟨#[UInt8.ofNat (97+i)]⟩
abbrev Ap:Value:=.string ⟨#[97,98,99,100,101,102,103,104,105,106]⟩
def Aq(i:Nat):Operand->AV:=λx=>match x with
 |.tmp 3=>.pv (Z i)
 |.tmp 5=>.pv (Z ((i:Int)+1))
 |_=>.pv (.val Ap)
section
variable {dst:Option Nat} {ty:TypeId} {pos:String} {aft:Array Edge} {g:Option (Nat×Bool)} {ρ:Operand->AV}
theorem L7:bL prog ⟨dst,.slice 9 (.const Ap) (some (.tmp 3)) (some (.tmp 5)) none,ty,pos,aft,g⟩ (Aq 0)=some (.pv (.val (.string (zf 0))),[]):=by kernel_rfl
theorem L8:bL prog ⟨dst,.slice 9 (.const Ap) (some (.tmp 3)) (some (.tmp 5)) none,ty,pos,aft,g⟩ (Aq 1)=some (.pv (.val (.string (zf 1))),[]):=by kernel_rfl
theorem L9:bL prog ⟨dst,.slice 9 (.const Ap) (some (.tmp 3)) (some (.tmp 5)) none,ty,pos,aft,g⟩ (Aq 2)=some (.pv (.val (.string (zf 2))),[]):=by kernel_rfl
theorem Pp(i:Nat)(e:i<3)(b:ρ (.const Ap)=.pv (.val Ap))(c:ρ (.tmp 3)=.pv (Z i))(d:ρ (.tmp 5)=.pv (Z ((i:Int)+1))):
 bL prog ⟨dst,.slice 9 (.const Ap) (some (.tmp 3)) (some (.tmp 5)) none,ty,pos,aft,g⟩ ρ=some (.pv (.val (.string (zf i))),[]):=by
 have h:bL prog ⟨dst,.slice 9 (.const Ap) (some (.tmp 3)) (some (.tmp 5)) none,ty,pos,aft,g⟩ ρ=bL prog ⟨dst,.slice 9 (.const Ap) (some (.tmp 3)) (some (.tmp 5)) none,ty,pos,aft,g⟩ (Aq i):=by
  refine rV (by intro _ _ h;cases h) ?_;intro x a;simp[Op.operands]at a;rcases a with rfl|rfl|rfl
  .exact b
  .exact c
  .exact d
 rw[h]
 have:i=0\/i=1\/i=2:=by omega
 rcases this with rfl|rfl|rfl
 .exact L7
 .exact L8
 .exact L9
end
theorem Np(i:Nat)(a:i<3):bh 56 (Z i) (.val (.string (zf i))):=by
 have b:i64.wrap ((i:Int)+1)=(i:Int)+1:=by rw[IntKind.wrap_i64];omega
 refine Dp func56 λC hP hN=>?_;refine GT b ?_;rw[Pp i a rfl (by simp) (by simp)];simp[hP,hN];exact Gy
structure J where
 name:ByteArray
 kind:Int
 parent:Int
 ox:Int
 oy:Int
 oz:Int
 lo:Int
 hi:Int
 w:Int
 sp:Int
 ac:Int
 tq:Int
abbrev bu(j:J):PV:=.val (.agg #[.string j.name,.int .i64 j.kind,.int .i64 j.parent,.int .i64 j.ox,.int .i64 j.oy,.int .i64 j.oz,.int .i64 j.lo,.int .i64 j.hi,.int .i64 j.w,.int .i64 j.sp,.int .i64 j.ac,.int .i64 j.tq])
def Fj(l:List Int)(n:Nat):Nat:=nn l (nn l (nn l (nn l n)))
def mz(l:List Int)(n i:Nat):Nat:=if 0<i then nn l (nn l (Fj l n))else Fj l n
def oq(l:List Int)(n:Nat):Int:=HS (nx l (nn l (nn l n)) 8)
def HT(l:List Int)(n i:Nat):Int:=if oq l n=0 then 0 else if oq l n=4\/oq l n=5 then wr (wr (-nx l (mz l n i) 3)*65536)else wr ((wr (wr (-nx l (mz l n i) 5)*65536)).tdiv 8)
def HU(l:List Int)(n i:Nat):Int:=if oq l n=0 then 0 else if oq l n=4\/oq l n=5 then wr (nx l (nn l (mz l n i)) 4*32768)else wr (wr ((wr (wr (1+nx l (nn l (mz l n i)) 4)*65536)).tdiv 8)+nx l (nn l (nn l (mz l n i))) 3)
def A5(l:List Int)(n i:Nat):Nat:=if oq l n=0 then mz l n i else if oq l n=4\/oq l n=5 then nn l (nn l (mz l n i))else nn l (nn l (nn l (mz l n i)))
def qb(l:List Int)(n i:Nat):J where
 name:=zf i
 kind:=oq l n
 parent:=if nx l (nn l (nn l (nn l n))) 4=1 then -1 else wr ((i:Int)-1)
 ox:=if 0<i then 131072 else 0
 oy:=if 0<i then wr (wr (nx l (Fj l n) 5-2)*32768)else 0
 oz:=if 0<i then wr (wr (nx l (nn l (Fj l n)) 3-1)*32768)else 0
 lo:=HT l n i
 hi:=HU l n i
 w:=wr (1+nx l n 4)
 sp:=65536
 ac:=wr (65536+nx l (nn l n) 3)
 tq:=327680
theorem Qb(l:List Int)(n i:Nat)(c:i<3)(hn:n<900000):aQ prog 57 [.bx 0,.pv (Z i)] [j8 l n] [j8 l (A5 l n i)] (.pv (bu (qb l n i))):=by
 have b:=cY l (nn l (nn l n)) (k:=8) (by decide) (by decide);have d:=br l n;have e:=br l (nn l n);have f:=br l (nn l (nn l n));have g:=br l (nn l (nn l (nn l n)));have m:=br l (nn l (nn l (nn l (nn l n))));have o:=br l (nn l (nn l (nn l (nn l (nn l n)))));have p:=br l (nn l (nn l (nn l (nn l (nn l (nn l n))))));have q:=br l (nn l (nn l (nn l (nn l (nn l (nn l (nn l n)))))));have r:=br l (nn l (nn l (nn l (nn l (nn l (nn l (nn l (nn l n))))))));have a:=L6 b.1 b.2;refine oV func57 rfl (by kernel_rfl) (by simp[f57]) rfl (by intro i j h;rcases i with _|_|_|i<;>simp_all) ?_;intro C hP hN;simp only[f57]at hN|-
 with_reducible repeat' (first|refine Sp.h ?_|((first|refine Ss.h ?_|refine Sc.h (Np i c) ?_|refine Sc.h (io l _ _ (by decide) (by omega)) ?_|refine Sc.h (yx l _ _ (by decide) (by decide) (by omega)) ?_|(refine Sb.h ?_ ?_ ?_<;>(try intro hgd)<;>try exact Xy))<;>simp -implicitDefEqProofs (maxSteps:=2000000) [hP,hN,j8,a,b.1,b.2])|refine X2 ?_ ?_|(refine Xd ?_ ?_<;>intro hcd<;>try exact Xx))
 all_goals (clear a hP hN d e f g m o p q r b c hn;simp_all[qb,A5,HT,HU,oq,mz,Fj])
structure Ms where
 link:Int
 mass:Int
 px:Int
 py:Int
 pz:Int
abbrev cE(m:Ms):PV:=.val (.agg #[.int .i64 m.link,.int .i64 m.mass,.int .i64 m.px,.int .i64 m.py,.int .i64 m.pz])
def sP(l:List Int)(m:Nat):Nat->Nat
 |0=>m
 |i+1=>A5 l (sP l m i) i
theorem Nq(l:List Int)(n i:Nat):mz l n i<=n+6:=by
 have a:=br l n;have b:=br l (nn l n);have c:=br l (nn l (nn l n));have d:=br l (nn l (nn l (nn l n)));have e:=br l (nn l (nn l (nn l (nn l n))));have f:=br l (nn l (nn l (nn l (nn l (nn l n)))));unfold mz Fj;split<;>omega
theorem Ma(l:List Int)(n i:Nat):A5 l n i<=n+9:=by
 have h:=Nq l n i;have a:=br l (mz l n i);have b:=br l (nn l (mz l n i));have c:=br l (nn l (nn l (mz l n i)));unfold A5;split
 .omega
 .split<;>omega
theorem Dr(l:List Int)(m i:Nat):sP l m i<=m+9*i:=by
 induction i with
 |zero=>simp[sP]
 |succ i ih=>have:=Ma l (sP l m i) i;simp only[sP];omega
def Ar(l:List Int)(m k:Nat):List J:=(List.range k).map λi=>qb l (sP l m i) i
theorem Jy(l:List Int)(m k:Nat):(Ar l m (k+1)).map bu=(Ar l m k).map bu++[bu (qb l (sP l m k) k)]:=by simp[Ar,Xk]
theorem t6(l:List Int)(m k:Nat):(Ar l m k).length=k:=by simp[Ar]
def ot(l:List Int)(m:Nat):Nat->Nat
 |0=>m
 |i+1=>nn l (nn l (nn l (nn l (ot l m i))))
theorem HV(l:List Int)(m i:Nat):ot l m i<=m+4*i:=by
 induction i with
 |zero=>simp[ot]
 |succ i ih=>
  have a:=br l (ot l m i);have b:=br l (nn l (ot l m i));have c:=br l (nn l (nn l (ot l m i)));have d:=br l (nn l (nn l (nn l (ot l m i))));simp only[ot];omega
def Cz(l:List Int)(m:Nat)(n:Int):Ms where
 link:=nx l m n
 mass:=wr (1+nx l (nn l m) 9000)
 px:=wr (wr (nx l (nn l (nn l m)) 7-3)*32768)
 py:=0
 pz:=wr (wr (nx l (nn l (nn l (nn l m))) 5-2)*32768)
def As(l:List Int)(m:Nat)(n:Int)(k:Nat):List Ms:=(List.range k).map λi=>Cz l (ot l m i) n
theorem Jz(l:List Int)(m:Nat)(n:Int)(k:Nat):(As l m n (k+1)).map cE=(As l m n k).map cE++[cE (Cz l (ot l m k) n)]:=by simp[As,Xk]
theorem A6(l:List Int)(m:Nat)(n:Int)(k:Nat):(As l m n k).length=k:=by simp[As]
abbrev fJ:AV:=.pv (.val (.slice none 0 0))
def rN(l:List Int)(n:Nat):Nat:=(1+nx l n 3).toNat
def rM(l:List Int)(n:Nat):Nat:=sP l (nn l n) (rN l n)
def rK(l:List Int)(n:Nat):Nat:=(nx l (rM l n) 3).toNat
def nN(l:List Int)(n:Nat):List J:=Ar l (nn l n) (rN l n)
def sQ(l:List Int)(n:Nat):List Ms:=As l (nn l (rM l n)) (rN l n) (rK l n)
def wL(l:List Int)(n:Nat):Nat:=ot l (nn l (rM l n)) (rK l n)
theorem Uc(l:List Int)(n:Nat)(hn:n<100000):aQ prog 22 [.bx 0] [j8 l n] [j8 l (wL l n)] (.pv (.agg [.sl ((nN l n).map bu),.sl ((sQ l n).map cE)])):=by
 have O:=cY l n (k:=3) (by decide) (by decide)
 have D:i64.wrap (1+nx l n 3)=((rN l n:Nat):Int):=by rw[IntKind.wrap_i64,rN];omega
 have M:rN l n<=3/\0<rN l n:=by unfold rN;omega
 have I:=br l n;refine oV func22 rfl (by kernel_rfl) (by simp[f22]) rfl (by intro i j h;rcases i with _|_|_|i<;>simp_all) ?_;intro C hP hN;simp only[f22]at hN|-
 with_reducible repeat' (first|refine Sp.h ?_|((first|refine Wd ?_|refine Ss.h ?_|refine Sc.h (io l n 3 (by decide) (by omega)) ?_|(refine Sb.h ?_ ?_ ?_<;>(try intro hgd)<;>try exact Xy))<;>simp -implicitDefEqProofs (maxSteps:=2000000) [hP,hN,j8,D]<;>try refine Ya ?_)|refine X2 ?_ ?_|(refine Xd ?_ ?_<;>intro hcd<;>try exact Xx))
 refine WP.loopN [20] (rN l n) (λi st=>st.t 0=.ptr (pk 0) 0/\st.t 2=.ptr 2 0/\st.t 3=.ptr 3 0/\st.t 4=.pv (Z (rN l n))/\st.t 5=.pv (Z i)/\
  st.h (pk 0)=some (.box [.pv (zs l),.pv (Z (sP l (nn l n) i))] false false)/\st.h 2=some (.box [fJ,fJ] true false)/\st.h 20=none/\st.h 45=none/\st.h 46=none/\
  ((i=0/\st.h 3=some (.box [fJ,fJ] true false)/\st.h 21=none)\/(0<i/\st.h 3=some (.box [.arr 21 i,fJ] true false)/\st.h 21=some (.row 81 12 ((Ar l (nn l n) i).map bu) 0)))) (by simp[sP]) ?_
 rintro i st hi ⟨p,q,r,s,h5,hp,f,g,c,a,o⟩;by_cases m:i<rN l n
 .have y:i64.wrap ((i:Int)+1)=(i:Int)+1:=by rw[IntKind.wrap_i64];omega
  have F:=Dr l (nn l n) i;have B:=Jy l (nn l n) i;have hS:sP l (nn l n) (i+1)=A5 l (sP l (nn l n) i) i:=rfl;rcases o with⟨e,d,b⟩|⟨e,d,b⟩
  .subst e
   with_reducible repeat' (first|refine Sp.h ?_|((first|refine Wd ?_|refine Ss.h ?_|refine Sc.h (Qb l _ 0 (by omega) (by omega)) ?_|(refine Sb.h ?_ ?_ ?_<;>(try intro hgd)<;>try exact Xy))<;>simp -implicitDefEqProofs (maxSteps:=2000000) [hP,hN,p,q,r,s,h5,hp,f,g,c,a,d,b,m,y,hS]<;>try refine Ya ?_)|refine X2 ?_ ?_|(refine Xd ?_ ?_<;>intro hcd<;>try exact Xx))
   exact⟨by decide,by simp[Ar]⟩
  .have A:=t6 l (nn l n) i
   with_reducible repeat' (first|refine Sp.h ?_|((first|refine Wd ?_|refine Ss.h ?_|refine Sc.h (Qb l _ i (by omega) (by omega)) ?_|(refine Sb.h ?_ ?_ ?_<;>(try intro hgd)<;>try exact Xy))<;>simp -implicitDefEqProofs (maxSteps:=2000000) [hP,hN,p,q,r,s,h5,hp,f,g,c,a,d,b,m,y,hS,A,show(i+1)*104<=140737488355328 by omega,show i<=9223372036854775806 by omega]<;>try refine Ya ?_)|refine X2 ?_ ?_|(refine Xd ?_ ?_<;>intro hcd<;>try exact Xx))
   simp[B]
 .have u:i=rN l n:=by omega
  rcases o with⟨e,_⟩|⟨e,d,b⟩
  .omega
  subst u;have F:=Dr l (nn l n) (rN l n);have N:=cY l (rM l n) (k:=3) (by decide) (by decide)
  have G:nx l (sP l (nn l n) (rN l n)) 3=((rK l n:Nat):Int):=by show nx l (rM l n) 3=_;unfold rK;omega
  have H:rK l n<3:=by unfold rK;omega
  have A:=t6 l (nn l n) (rN l n);have J:=br l (rM l n);have L:rM l n<=nn l n+9*rN l n:=F
  with_reducible repeat' (first|refine Sp.h ?_|((first|refine Wd ?_|refine Ss.h ?_|refine Sc.h (io l _ 3 (by decide) (by omega)) ?_|(refine Sb.h ?_ ?_ ?_<;>(try intro hgd)<;>try exact Xy))<;>simp -implicitDefEqProofs (maxSteps:=2000000) [hP,hN,p,q,r,s,h5,hp,f,g,c,a,d,b,m,G]<;>try refine Ya ?_)|refine X2 ?_ ?_|(refine Xd ?_ ?_<;>intro hcd<;>try exact Xx))
  refine WP.loopN [] (rK l n) (λi st=>st.t 0=.ptr (pk 0) 0/\st.t 2=.ptr 2 0/\st.t 3=.ptr 3 0/\st.t 4=.pv (Z (rN l n))/\st.t 6=.pv (Z ((rK l n:Int)-i))/\
   st.h (pk 0)=some (.box [.pv (zs l),.pv (Z (ot l (nn l (rM l n)) i))] false false)/\st.h 2=some (.box [fJ,fJ] true false)/\st.h 45=none/\st.h 21=some (.row 81 12 ((nN l n).map bu) 0)/\
   ((i=0/\st.h 3=some (.box [.arr 21 (rN l n),fJ] true false)/\st.h 46=none)\/(0<i/\st.h 3=some (.box [.arr 21 (rN l n),.arr 46 i] true false)/\st.h 46=some (.row 122 5 ((As l (nn l (rM l n)) (rN l n) i).map cE) 0)))) (by simp[p,q,r,s,f,c,a,d,b,ot,rM,nN]) ?_
  clear f g c a d b hp p q r s h5;rintro i st hi ⟨p,q,r,s,h6,hp,f,c,b,o⟩;by_cases m:i<rK l n
  .have y:i64.wrap ((rK l n:Int)-i-1)=(rK l n:Int)-((i:Int)+1):=by rw[IntKind.wrap_i64];omega
   have v:(0:Int)<(rK l n:Int)-i:=by omega
   have K:=HV l (nn l (rM l n)) i;have P:=br l (ot l (nn l (rM l n)) i);have Q:=br l (nn l (ot l (nn l (rM l n)) i));have R:=br l (nn l (nn l (ot l (nn l (rM l n)) i)));have B:=Jz l (nn l (rM l n)) (rN l n) i;have hS:ot l (nn l (rM l n)) (i+1)=nn l (nn l (nn l (nn l (ot l (nn l (rM l n)) i)))):=rfl
   have x:((rN l n:Nat):Int)≠0:=by omega
   rcases o with⟨e,d,a⟩|⟨e,d,a⟩
   .subst e
    with_reducible repeat' (first|refine Sp.h ?_|((first|refine Wd ?_|refine Ss.h ?_|refine Sc.h (io l _ _ x (by omega)) ?_|refine Sc.h (io l _ _ (by decide) (by omega)) ?_|refine Sc.h (yx l _ _ (by decide) (by decide) (by omega)) ?_|(refine Sb.h ?_ ?_ ?_<;>(try intro hgd)<;>try exact Xy))<;>simp -implicitDefEqProofs (maxSteps:=2000000) [hP,hN,p,q,r,s,h6,hp,f,c,a,d,b,m,y,v,hS]<;>try refine Ya ?_)|refine X2 ?_ ?_|(refine Xd ?_ ?_<;>intro hcd<;>try exact Xx))
    exact⟨by rw[IntKind.wrap_i64];omega,by simp[As,Cz,ot]⟩
   .have A:=A6 l (nn l (rM l n)) (rN l n) i
    with_reducible repeat' (first|refine Sp.h ?_|((first|refine Wd ?_|refine Ss.h ?_|refine Sc.h (io l _ _ x (by omega)) ?_|refine Sc.h (io l _ _ (by decide) (by omega)) ?_|refine Sc.h (yx l _ _ (by decide) (by decide) (by omega)) ?_|(refine Sb.h ?_ ?_ ?_<;>(try intro hgd)<;>try exact Xy))<;>simp -implicitDefEqProofs (maxSteps:=2000000) [hP,hN,p,q,r,s,h6,hp,f,c,a,d,b,m,y,v,hS,A,show(i+1)*40<=140737488355328 by omega,show i<=9223372036854775806 by omega]<;>try refine Ya ?_)|refine X2 ?_ ?_|(refine Xd ?_ ?_<;>intro hcd<;>try exact Xx))
    simp[B,Cz]
  .have u:i=rK l n:=by omega
   subst u;have z:(nN l n).length=rN l n:=t6 l (nn l n) (rN l n);have E:=A6 l (nn l (rM l n)) (rN l n) (rK l n);rcases o with⟨e,d,a⟩|⟨e,d,a⟩
   .skip
    refine GT (s6 p q r s h6 hp f c a d b (gA e z)) ?_
    all_goals simp[wL,sQ,e,As]
   .skip
    refine GT (s6 p q r s h6 hp f c a d b (gA z E)) ?_
    all_goals simp[wL,sQ]
abbrev gB(js:List J)(ms:List Ms):PV:=.agg [.sl (js.map bu),.sl (ms.map cE)]
def CA(l:List Int)(m:Nat):Nat:=if nx l m 6=0 then nn l m else if nx l m 6=1 then nn l m else nn l (nn l m)
def t7(l:List Int):Nat->Nat
 |0=>0
 |i+1=>CA l (t7 l i)
theorem Nr(l:List Int)(i:Nat):t7 l i<=2*i:=by
 induction i with
 |zero=>simp[t7]
 |succ i ih=>
  have a:=br l (t7 l i);have b:=br l (nn l (t7 l i));simp only[t7,CA];split
  .omega
  .split<;>omega
def JA(l:List Int)(m:Nat)(lo hi:Int):Int:=if nx l m 6=0 then lo else if nx l m 6=1 then hi else wr (lo+nx l (nn l m) (hi-lo+1))
def j9(l:List Int)(js:List J):List Int:=js.mapIdx λi j=>JA l (t7 l i) j.lo j.hi
def At(j:J):Prop:=-1000000<=j.lo/\j.lo<=j.hi/\j.hi<=1000000
theorem JB{l:List Int}{js:List J}(a:i<js.length):((j9 l js).map Z).take i++[Z (JA l (t7 l i) js[i].lo js[i].hi)]=((j9 l js).map Z).take (i+1):=by
 rw[WF (by simpa[j9]using a)];simp[j9]
theorem Li(l:List Int)(js:List J)(ms:List Ms)(r:js.length<=1000)(o:∀j∈js,At j):aH 12 (gB js ms) (zs l) (zs (j9 l js)):=by
 refine Dp func12 λC hP hN=>?_;have v:=@Nn;refine sN [6] @j8.eq_1 ?_
 refine WP.loopN [] js.length (λi st=>st.t 2=.ptr 2 0/\st.t 5=.ptr 11 0/\st.t 6=.arr 6 i/\st.t 7=.pv (Z i)/\st.h 2=some (.box [.pv (.sl (js.map bu)),.pv (.sl (ms.map cE))] true false)/\
  st.h 11=some (.box [.pv (zs l),.pv (Z (t7 l i))] true false)/\st.h 6=some (.row 2 1 (((j9 l js).map Z).take i) 0)) (by simp[t7]) ?_
 rintro i st hi ⟨m,h5,h6,h7,c,a,d⟩
 have k:min i (j9 l js).length=i:=by simp[j9];omega
 by_cases b:i<js.length
 .have q:i64.wrap ((i:Int)+1)=(i:Int)+1:=by rw[IntKind.wrap_i64];omega
  have s:=Nr l i;have u:=br l (t7 l i);have p:=JB (l:=l) b;have e:=o js[i] (Wb b)
  have f:i64.wrap (js[i].hi-js[i].lo)=js[i].hi-js[i].lo:=by unfold At at e;rw[IntKind.wrap_i64];omega
  have g:i64.wrap (js[i].hi-js[i].lo+1)=js[i].hi-js[i].lo+1:=by unfold At at e;rw[IntKind.wrap_i64];omega
  have hS:t7 l (i+1)=CA l (t7 l i):=rfl
  have n:js[i].hi-js[i].lo+1≠0:=by unfold At at e;omega
  with_reducible repeat' (first|refine Sp.h ?_|((first|refine Wd ?_|refine Ss.h ?_|refine Sc.h (io l _ 6 (by decide) (by omega)) ?_|refine Sc.h (io l _ _ n (by omega)) ?_|(refine Sb.h ?_ ?_ ?_<;>(try intro hgd)<;>try exact Xy))<;>simp -implicitDefEqProofs (maxSteps:=2000000) [hP,hN,m,h5,h6,h7,c,a,d,k,b,q,f,g,hS,show(i+1)*8<=140737488355328 by omega,show i<=9223372036854775806 by omega]<;>try refine Ya ?_)|refine X2 ?_ ?_|(refine Xd ?_ ?_<;>intro hcd<;>try exact Xx))
  all_goals (rw[<-p];clear p o c a d m h5 h6 h7 hP hN f g q hS;simp_all[CA,JA])
 .skip
  refine GT (so m h5 h6 h7 c a d (gA k b)) ?_;exact HR (by simp[j9]) b
theorem JC(l:List Int)(n i:Nat):At (qb l n i)/\(qb l n i).lo<=0/\0<=(qb l n i).hi:=by
 have o:=cY l (mz l n i) (k:=3) (by decide) (by decide);have p:=cY l (mz l n i) (k:=5) (by decide) (by decide);have d:=cY l (nn l (mz l n i)) (k:=4) (by decide) (by decide);have e:=cY l (nn l (nn l (mz l n i))) (k:=3) (by decide) (by decide)
 have j:-1000000<=HT l n i/\HT l n i<=0:=by
  unfold HT;generalize nx l (mz l n i) 3=a at *;generalize nx l (mz l n i) 5=b at *;split
  .omega
  .split
   .simp only[wr,IntKind.wrap_i64];omega
   .have:b=0\/b=1\/b=2\/b=3\/b=4:=by omega
    rcases this with rfl|rfl|rfl|rfl|rfl<;>decide
 have g:0<=HU l n i/\HU l n i<=1000000:=by
  unfold HU;generalize nx l (nn l (mz l n i)) 4=a at *;generalize nx l (nn l (nn l (mz l n i))) 3=b at *;split
  .omega
  .split
   .simp only[wr,IntKind.wrap_i64];omega
   .have f:∀c:Int,0<=c->c<4->0<=wr ((wr (wr (1+c)*65536)).tdiv 8)/\wr ((wr (wr (1+c)*65536)).tdiv 8)<=32768:=by
     intro c m e
     have:c=0\/c=1\/c=2\/c=3:=by omega
     rcases this with rfl|rfl|rfl|rfl<;>decide
    have:=f a d.1 d.2;rw[aa (n:=wr ((wr (wr (1+a)*65536)).tdiv 8)+b) (by omega) (by omega)];omega
 simp only[At,qb];omega
theorem HW(l:List Int)(n:Nat):∀j∈nN l n,At j:=by
 intro j a;simp only[nN,Ar,Wf]at a;obtain⟨i,_,rfl⟩:=a;exact(JC l _ i).1
theorem Fk(l:List Int)(n:Nat):(nN l n).length<=3/\0<(nN l n).length:=by
 have a:=cY l n (k:=3) (by decide) (by decide);rw[nN,t6,rN];omega
theorem yy(x:Int)(b:0<k)(a:k<4611686018427387904):0<=oo x k/\oo x k<k:=by
 have:=cY [x] 0 b a;simpa[nx]using this
theorem Fl{P:Program}(d:Nat)(t:TypeId)(a b:Bool)(h:P.underlying t=some .bool):am P (Op.equalIn (d+1) t (.bool a) (.bool b))=some (a==b):=by
 simp only[Op.equalIn,ai,jR h,VX];rfl
def CB(x y:AV):Option (Bool×Bool):=match x,y with
 |.pv (.val (.bool a)),.pv (.val (.bool b))=>some (a,b)
 |_,_=>none
def JD(x y:AV)(fb:Option db):Option db:=match CB x y with
 |some (a,b)=>some (.pv (.val (.bool (a==b))),[])
 |none=>fb
@[simp] theorem Qc(a b:Bool)(fb:Option db):JD (.pv (.val (.bool a))) (.pv (.val (.bool b))) fb=some (.pv (.val (.bool (a==b))),[]):=rfl
@[simp] theorem Ud{ty:TypeId}{pos:String}(x y:Operand):
 bL prog ⟨dst,.binOp .eql 4 x y 4,ty,pos,aft,g⟩ ρ=JD (ρ x) (ρ y) (jI prog ⟨dst,.binOp .eql 4 x y 4,ty,pos,aft,g⟩ ρ):=by
 unfold JD;split
 .rename_i a b h
  unfold CB at h;split at h
  .rename_i c d i j
   injection h with h;injection h with e f;subst e;subst f;refine eo (by simp[Op.operands,i,j,fu]) ?_;unfold execOp;simp only[(bT i).2,(bT j).2]
   have e:am prog (eqGuard .eql 4 x y (.bool c) (.bool d))=some ():=by kernel_rfl
   have f:am prog (binOp .eql 4 (.bool c) (.bool d))=some (.bool (c==d)):=by
    simp only[binOp,ai];rw[show am prog (Op.equal 4 (.bool c) (.bool d))=some (c==d) from Fl 9999 4 c d Tryz.underlying4];rfl
   simp only[ai,e,f,VX];rfl
  .cases h
 .rfl
theorem Q1(f:FuncId)(p:Int×Int->Int->Bool)(xs:List (Int×Int))(ys:List (Int))(q:xs.length<=9223372036854775807)(hf:∀a b,aQ prog f [.pv (aN a),.pv (Z b)] [] [] (.pv (B (p a b)))):mW 188 (.sl (xs.map aN)) (.sl (ys.map Z)) (Fv f) (B (decide (xs.length=ys.length)&&dN p xs ys)):=by
 refine Dp func188 λC hP hN=>?_;by_cases k:xs.length=ys.length
 .skip
  refine Gz ?_;refine WP.loopN [8] xs.length (λi st=>st.t 0=.pv (.sl (xs.map aN))/\st.t 1=.pv (.sl (ys.map Z))/\st.t 2=.pv (Fv f)/\st.t 14=.pv (.sl (xs.map aN))/\st.t 15=.pv (Z xs.length)/\st.t 16=.pv (Z i)/\st.h 8=none/\eF p xs ys i=true) (by simp[eF,k]) ?_;rintro i st hi ⟨l,m,n,e,g,j,o,hq⟩;by_cases c:i<xs.length
  .have r:=aj c q
   have d:i<ys.length:=by omega
   have hF:p xs[i] ys[i]=false->dN p xs ys=false:=ir c d;have hS:p xs[i] ys[i]=true->eF p xs ys (i+1)=true:=jh c d hq
   with_reducible repeat' (first|refine Sp.h ?_|((first|refine Wd ?_|refine Ss.h ?_|refine Sc.h (hf _ _) ?_|(refine Sb.h ?_ ?_ ?_<;>(try intro hgd)<;>try exact Xy))<;>simp -implicitDefEqProofs (maxSteps:=2000000) [hP,hN,l,m,n,e,g,j,o,c,d,r]<;>try refine Ya ?_)|refine X2 ?_ ?_|(refine Xd ?_ ?_<;>intro hcd<;>try exact Xx))
   all_goals first|exact hF (by simpa using hcd)|simpa using hS (by simpa using hcd)
  .skip
   refine Gz ?_
   all_goals simp[k,ji c hq]
 .skip
  exact Gy
  all_goals simp[k]
theorem Q2(f:FuncId)(p:Int×Int->Int×Int->Bool)(xs:List (Int×Int))(ys:List (Int×Int))(q:xs.length<=9223372036854775807)(hf:∀a b,aQ prog f [.pv (aN a),.pv (aN b)] [] [] (.pv (B (p a b)))):mW 185 (.sl (xs.map aN)) (.sl (ys.map aN)) (Fv f) (B (decide (xs.length=ys.length)&&dN p xs ys)):=by
 refine Dp func185 λC hP hN=>?_;by_cases k:xs.length=ys.length
 .skip
  refine Gz ?_;refine WP.loopN [8] xs.length (λi st=>st.t 0=.pv (.sl (xs.map aN))/\st.t 1=.pv (.sl (ys.map aN))/\st.t 2=.pv (Fv f)/\st.t 14=.pv (.sl (xs.map aN))/\st.t 15=.pv (Z xs.length)/\st.t 16=.pv (Z i)/\st.h 8=none/\eF p xs ys i=true) (by simp[eF,k]) ?_;rintro i st hi ⟨l,m,n,e,g,j,o,hq⟩;by_cases c:i<xs.length
  .have r:=aj c q
   have d:i<ys.length:=by omega
   have hF:p xs[i] ys[i]=false->dN p xs ys=false:=ir c d;have hS:p xs[i] ys[i]=true->eF p xs ys (i+1)=true:=jh c d hq
   with_reducible repeat' (first|refine Sp.h ?_|((first|refine Wd ?_|refine Ss.h ?_|refine Sc.h (hf _ _) ?_|(refine Sb.h ?_ ?_ ?_<;>(try intro hgd)<;>try exact Xy))<;>simp -implicitDefEqProofs (maxSteps:=2000000) [hP,hN,l,m,n,e,g,j,o,c,d,r]<;>try refine Ya ?_)|refine X2 ?_ ?_|(refine Xd ?_ ?_<;>intro hcd<;>try exact Xx))
   all_goals first|exact hF (by simpa using hcd)|simpa using hS (by simpa using hcd)
  .skip
   refine Gz ?_
   all_goals simp[k,ji c hq]
 .skip
  exact Gy
  all_goals simp[k]
theorem Ue(f:FuncId)(g:J->Int×Int)(xs:List (J))(p:xs.length<=16777216)(hf:∀a,aQ prog f [.pv (bu a)] [] [] (.pv (aN (g a)))):aH 71 (.sl (xs.map bu)) (Fv f) (.sl ((xs.map g).map aN)):=by
 refine Dp func71 λC hP hN=>?_;refine GT (be p (show(16:Int)*xs.length<=281474976710656 by omega) (show(xs.length:Int)<=9223372036854775807 by omega)) ?_
 refine WP.loopN [7] xs.length (λi st=>st.t 0=.pv (.sl (xs.map bu))/\st.t 1=.pv (Fv f)/\st.t 5=.arr 10 xs.length/\st.t 11=.pv (.sl (xs.map bu))/\st.t 12=.pv (Z xs.length)/\st.t 13=.pv (Z i)/\st.h 7=none/\
  ∃L,st.h 10=some (.row 50 2 L 0)/\L.length=xs.length/\∀j,j<i->L[j]?=((xs.map g).map aN)[j]?) (by simp) ?_
 rintro i st hi ⟨l,m,h5,h11,d,e,o,L,hL,c,hq⟩
 have n:L.length=((xs.map g).map aN).length:=by simp[c]
 by_cases b:i<xs.length
 .have q:=aj b (wH p)
  have k:i<L.length:=by omega
  with_reducible repeat' (first|refine Sp.h ?_|((first|refine Ss.h ?_|refine Sc.h (hf _) ?_|(refine Sb.h ?_ ?_ ?_<;>(try intro hgd)<;>try exact Xy))<;>simp -implicitDefEqProofs (maxSteps:=2000000) [hP,hN,l,m,h5,h11,d,e,o,hL,c,b,k,q])|refine X2 ?_ ?_|(refine Xd ?_ ?_<;>intro hcd<;>try exact Xx))
  simpa using Jv n hq (v:=aN (g xs[i])) (by simp[b])
 .skip
  refine GT (s5 l m h5 h11 d e o hL c b) ?_;simpa using Jw n hq (by simp;omega)
theorem Q3(a:Int×Int)(b:Int):aQ prog 189 [.pv (aN a),.pv (Z b)] [] [] (.pv (B (nq a b))):=Nj a.1 a.2 b
theorem Mb(a b:Int×Int):aQ prog 129 [.pv (aN a),.pv (aN b)] [] [] (.pv (B (dS a b))):=QQ a.1 a.2 b.1 b.2
def lO(xs:List (Int×Int))(ys:List Int):Bool:=decide (xs.length=ys.length)&&dN nq xs ys
def oX(xs ys:List (Int×Int)):Bool:=decide (xs.length=ys.length)&&dN dS xs ys
def iA(x y:Int×Int):Bool:=aw x.1 x.2&&aw y.1 y.2&&decide (max x.1 y.1<=min x.2 y.2)
def bk(xs ys:List (Int×Int)):Bool:=decide (xs.length=ys.length)&&dN iA xs ys
theorem Ns(xs:List (Int×Int))(ys:List Int)(a:xs.length<=9223372036854775807):aH 142 (iv xs) (zs ys) (B (lO xs ys)):=by
 refine Dp func142 λC hP hN=>?_
 with_reducible repeat' (first|refine Sp.h ?_|((first|refine Ss.h ?_|refine Sc.h (Q1 _ nq _ _ a Q3) ?_|(refine Sb.h ?_ ?_ ?_<;>(try intro hgd)<;>try exact Xy))<;>simp -implicitDefEqProofs (maxSteps:=2000000) [hP,hN])|refine X2 ?_ ?_|(refine Xd ?_ ?_<;>intro hcd<;>try exact Xx))
 all_goals (first|(simp_all[lO];done)|((try simp_all[lO])<;>(try omega)<;>grind))
theorem Q4(x y:Int×Int):aH 186 (aN x) (aN y) (B (iA x y)):=by
 refine Dp func186 λC hP hN=>?_
 cases h:iA x y with
 |true=>
  have a:(aw x.1 x.2&&aw y.1 y.2&&decide (max x.1 y.1<=min x.2 y.2))=true:=h;have b:=@Nk;exact GS a
 |false=>
  have a:(aw x.1 x.2&&aw y.1 y.2&&decide (max x.1 y.1<=min x.2 y.2))=false:=h;have b:=@Nk;exact GS a
theorem Q5(xs ys:List (Int×Int))(a:xs.length<=9223372036854775807):aH 140 (iv xs) (iv ys) (B (bk xs ys)):=by
 refine Dp func140 λC hP hN=>?_
 with_reducible repeat' (first|refine Sp.h ?_|((first|refine Ss.h ?_|refine Sc.h (Q2 _ iA _ _ a Q4) ?_|(refine Sb.h ?_ ?_ ?_<;>(try intro hgd)<;>try exact Xy))<;>simp -implicitDefEqProofs (maxSteps:=2000000) [hP,hN])|refine X2 ?_ ?_|(refine Xd ?_ ?_<;>intro hcd<;>try exact Xx))
 all_goals (first|(simp_all[bk];done)|((try simp_all[bk])<;>(try omega)<;>grind))
end Go.Ab
