/- The contracts and facts that the laws of this seat need, in one text (Ty, CfA). -/
import Derived.Test.YtidomjacfogjlaaGreatT3
import Derived.Test.YtidomjacfogjlaaGreatProg
set_option linter.all false
set_option maxRecDepth 10000
set_option maxHeartbeats 16000000
namespace Go.Ab
open IntKind (i64)
open Go.Proofs.Tryz
open Go.Proofs
variable {aft:Array Edge}{dst:Option Nat}{i n:Nat}{k:Int}{α β:Type}{ρ:Operand->AV}{f:α->β->Bool}{p:α->Bool}{xs:List α}{ys:List β}
abbrev EW(f:FuncId)(r:PV):Prop:=aO prog f [] [] [] (.pv r)
abbrev aV(f:FuncId)(a r:PV):Prop:=aO prog f [.pv a] [] [] (.pv r)
abbrev aL(f:FuncId)(a b r:PV):Prop:=aO prog f [.pv a,.pv b] [] [] (.pv r)
abbrev jQ(f:FuncId)(a b c r:PV):Prop:=aO prog f [.pv a,.pv b,.pv c] [] [] (.pv r)
abbrev yn(f:FuncId)(a b c d r:PV):Prop:=aO prog f [.pv a,.pv b,.pv c,.pv d] [] [] (.pv r)
abbrev Ao(f:FuncId)(a b c d e r:PV):Prop:=aO prog f [.pv a,.pv b,.pv c,.pv d,.pv e] [] [] (.pv r)
abbrev MC(f:FuncId)(a b c d e g r:PV):Prop:=aO prog f [.pv a,.pv b,.pv c,.pv d,.pv e,.pv g] [] [] (.pv r)
@[simp] theorem ti2:ag prog 2=some ⟨1,(some (.int .i64 0)),.one⟩/\dy prog 2=some .i64/\ag prog 3=some ⟨1,(some (.int .i64 0)),.one⟩/\dy prog 3=some .i64/\ag prog 4=some ⟨1,(some (.bool false)),.one⟩/\ag prog 5=some ⟨1,(some (.int .u8 0)),.one⟩/\dy prog 5=some .u8/\ag prog 6=some ⟨1,(some (.int .u8 0)),.one⟩/\dy prog 6=some .u8/\ag prog 7=some ⟨4,(some (.agg #[.int .i64 0,.int .i64 0,.bool false,.int .u8 0])),.struct [(0,1),(1,1),(2,1),(3,1)]⟩/\ag prog 8=some ⟨4,(some (.agg #[.int .i64 0,.int .i64 0,.bool false,.int .u8 0])),.struct [(0,1),(1,1),(2,1),(3,1)]⟩/\ag prog 9=some ⟨1,(some (.string ByteArray.empty)),.one⟩/\gy prog 9=some none/\ag prog 10=some ⟨1,(some (.string ByteArray.empty)),.one⟩/\gy prog 10=some none/\ag prog 11=some ⟨1,(some (.string ByteArray.empty)),.one⟩/\gy prog 11=some none/\ag prog 12=some ⟨1,(some (.int .u64 0)),.one⟩/\dy prog 12=some .u64/\ag prog 13=some ⟨2,(some (.agg #[.string ByteArray.empty,.int .u64 0])),.struct [(0,1),(1,1)]⟩/\ag prog 14=some ⟨2,(some (.agg #[.string ByteArray.empty,.int .u64 0])),.struct [(0,1),(1,1)]⟩/\ag prog 15=some ⟨1,(some (.pointer none)),.one⟩/\ag prog 16=some ⟨1,(some (.pointer none)),.one⟩/\ag prog 17=some ⟨1,(some (.pointer none)),.one⟩/\ag prog 18=some ⟨1,(some (.agg #[.pointer none])),.struct [(0,1)]⟩/\ag prog 19=some ⟨1,(some (.agg #[.pointer none])),.struct [(0,1)]⟩/\ag prog 21=some ⟨1,(some (.int .i32 0)),.one⟩/\dy prog 21=some .i32/\ag prog 22=some ⟨1,(some (.slice none 0 0)),.slice 97 12 104 (some (.agg #[.string ByteArray.empty,.int .i64 0,.int .i64 0,.int .i64 0,.int .i64 0,.int .i64 0,.int .i64 0,.int .i64 0,.int .i64 0,.int .i64 0,.int .i64 0,.int .i64 0]))⟩/\ag prog 23=some ⟨1,(some (.slice none 0 0)),.slice 163 5 40 (some (.agg #[.int .i64 0,.int .i64 0,.int .i64 0,.int .i64 0,.int .i64 0]))⟩/\ag prog 24=some ⟨2,(some (.agg #[.slice none 0 0,.slice none 0 0])),.struct [(0,1),(1,1)]⟩/\ag prog 25=some ⟨2,(some (.agg #[.slice none 0 0,.slice none 0 0])),.struct [(0,1),(1,1)]⟩/\ag prog 26=some ⟨1,(some (.slice none 0 0)),.slice 86 3 40 (some (.agg #[.int .i64 0,.int .i64 0,.slice none 0 0]))⟩/\ag prog 27=some ⟨1,(some (.slice none 0 0)),.slice 94 2 16 (some (.agg #[.int .i64 0,.int .i64 0]))⟩/\ag prog 28=some ⟨4,(some (.agg #[.slice none 0 0,.slice none 0 0,.slice none 0 0,.slice none 0 0])),.struct [(0,2),(2,1),(3,1)]⟩/\ag prog 29=some ⟨4,(some (.agg #[.slice none 0 0,.slice none 0 0,.slice none 0 0,.slice none 0 0])),.struct [(0,2),(2,1),(3,1)]⟩/\ag prog 30=some ⟨1,(some (.slice none 0 0)),.slice 99 2 16 (some (.agg #[.int .i64 0,.int .i64 0]))⟩:=by repeat' (first|kernel_rfl|refine ⟨by kernel_rfl,?_⟩)
@[simp] theorem Yi:ag prog 31=some ⟨1,(some (.slice none 0 0)),.slice 80 8 112 (some (.agg #[.int .i64 0,.int .i64 0,.int .i64 0,.int .i64 0,.slice none 0 0,.int .i64 0,.slice none 0 0,.slice none 0 0]))⟩:=by kernel_rfl
@[simp] theorem afQ:ag prog 32=some ⟨2,(some (.agg #[.slice none 0 0,.slice none 0 0])),.struct [(0,1),(1,1)]⟩:=by kernel_rfl
@[simp] theorem afR:ag prog 33=some ⟨2,(some (.agg #[.slice none 0 0,.slice none 0 0])),.struct [(0,1),(1,1)]⟩:=by kernel_rfl
@[simp] theorem Yj:ag prog 34=some ⟨1,(some (.slice none 0 0)),.slice 3 1 8 (some (.int .i64 0))⟩:=by kernel_rfl
@[simp] theorem afS:ag prog 49=some ⟨1,(some (.slice none 0 0)),.slice 2 1 8 (some (.int .i64 0))⟩/\ag prog 55=some ⟨1,(some (.slice none 0 0)),.slice 49 1 24 (some (.slice none 0 0))⟩/\ag prog 57=some ⟨1,(some (.slice none 0 0)),.slice 121 2 48 (some (.agg #[.slice none 0 0,.slice none 0 0]))⟩/\ag prog 58=some ⟨2,(some (.agg #[.slice none 0 0,.slice none 0 0])),.struct [(0,1),(1,1)]⟩/\ag prog 59=some ⟨2,(some (.agg #[.slice none 0 0,.slice none 0 0])),.struct [(0,1),(1,1)]⟩/\ag prog 60=some ⟨1,(some (.int .i64 0)),.one⟩/\dy prog 60=some .i64/\ag prog 66=some ⟨4,(some (.agg #[.int .i64 0,.int .i64 0,.int .i64 0,.int .i64 0])),.struct [(0,1),(1,1),(2,1),(3,1)]⟩/\ag prog 67=some ⟨4,(some (.agg #[.int .i64 0,.int .i64 0,.int .i64 0,.int .i64 0])),.struct [(0,1),(1,1),(2,1),(3,1)]⟩/\ag prog 74=some ⟨1,(some (.slice none 0 0)),.slice 84 3 24 (some (.agg #[.int .i64 0,.int .i64 0,.int .i64 0]))⟩/\ag prog 75=some ⟨3,(some (.agg #[.int .i64 0,.slice none 0 0,.slice none 0 0])),.struct [(0,1),(1,1),(2,1)]⟩/\ag prog 76=some ⟨3,(some (.agg #[.int .i64 0,.slice none 0 0,.slice none 0 0])),.struct [(0,1),(1,1),(2,1)]⟩/\ag prog 77=some ⟨5,(some (.agg #[.int .i64 0,.slice none 0 0,.int .i64 0,.slice none 0 0,.slice none 0 0])),.struct [(0,1),(1,1),(2,3)]⟩/\ag prog 78=some ⟨5,(some (.agg #[.int .i64 0,.slice none 0 0,.int .i64 0,.slice none 0 0,.slice none 0 0])),.struct [(0,1),(1,1),(2,3)]⟩/\ag prog 79=some ⟨8,(some (.agg #[.int .i64 0,.int .i64 0,.int .i64 0,.int .i64 0,.slice none 0 0,.int .i64 0,.slice none 0 0,.slice none 0 0])),.struct [(0,1),(1,1),(2,1),(3,5)]⟩/\ag prog 80=some ⟨8,(some (.agg #[.int .i64 0,.int .i64 0,.int .i64 0,.int .i64 0,.slice none 0 0,.int .i64 0,.slice none 0 0,.slice none 0 0])),.struct [(0,1),(1,1),(2,1),(3,5)]⟩/\ag prog 83=some ⟨3,(some (.agg #[.int .i64 0,.int .i64 0,.int .i64 0])),.array 3 1⟩/\gy prog 83=some (some 3)/\ag prog 84=some ⟨3,(some (.agg #[.int .i64 0,.int .i64 0,.int .i64 0])),.array 3 1⟩/\gy prog 84=some (some 3)/\ag prog 85=some ⟨3,(some (.agg #[.int .i64 0,.int .i64 0,.slice none 0 0])),.struct [(0,1),(1,1),(2,1)]⟩/\ag prog 86=some ⟨3,(some (.agg #[.int .i64 0,.int .i64 0,.slice none 0 0])),.struct [(0,1),(1,1),(2,1)]⟩/\ag prog 87=some ⟨1,(some (.pointer none)),.one⟩/\ag prog 93=some ⟨2,(some (.agg #[.int .i64 0,.int .i64 0])),.struct [(0,1),(1,1)]⟩/\ag prog 94=some ⟨2,(some (.agg #[.int .i64 0,.int .i64 0])),.struct [(0,1),(1,1)]⟩/\ag prog 96=some ⟨12,(some (.agg #[.string ByteArray.empty,.int .i64 0,.int .i64 0,.int .i64 0,.int .i64 0,.int .i64 0,.int .i64 0,.int .i64 0,.int .i64 0,.int .i64 0,.int .i64 0,.int .i64 0])),.struct [(0,1),(1,1),(2,1),(3,3),(6,1),(7,1),(8,1),(9,1),(10,1),(11,1)]⟩/\ag prog 97=some ⟨12,(some (.agg #[.string ByteArray.empty,.int .i64 0,.int .i64 0,.int .i64 0,.int .i64 0,.int .i64 0,.int .i64 0,.int .i64 0,.int .i64 0,.int .i64 0,.int .i64 0,.int .i64 0])),.struct [(0,1),(1,1),(2,1),(3,3),(6,1),(7,1),(8,1),(9,1),(10,1),(11,1)]⟩/\ag prog 98=some ⟨2,(some (.agg #[.int .i64 0,.int .i64 0])),.struct [(0,1),(1,1)]⟩/\ag prog 99=some ⟨2,(some (.agg #[.int .i64 0,.int .i64 0])),.struct [(0,1),(1,1)]⟩/\ag prog 114=some ⟨1,(some (.slice none 0 0)),.slice 30 1 24 (some (.slice none 0 0))⟩/\ag prog 119=some ⟨1,(some (.slice none 0 0)),.slice 268 3 40 (some (.agg #[.int .i64 0,.int .i64 0,.slice none 0 0]))⟩/\ag prog 120=some ⟨2,(some (.agg #[.slice none 0 0,.slice none 0 0])),.struct [(0,1),(1,1)]⟩/\ag prog 121=some ⟨2,(some (.agg #[.slice none 0 0,.slice none 0 0])),.struct [(0,1),(1,1)]⟩/\ag prog 126=some ⟨1,(some (.slice none 0 0)),.slice 4 1 1 (some (.bool false))⟩/\ag prog 127=some ⟨2,(some (.agg #[.slice none 0 0,.slice none 0 0])),.struct [(0,1),(1,1)]⟩/\ag prog 128=some ⟨2,(some (.agg #[.slice none 0 0,.slice none 0 0])),.struct [(0,1),(1,1)]⟩/\ag prog 134=some ⟨2,(some (.agg #[.int .i64 0,.int .i64 0])),.struct [(0,1),(1,1)]⟩/\ag prog 135=some ⟨2,(some (.agg #[.int .i64 0,.int .i64 0])),.struct [(0,1),(1,1)]⟩/\ag prog 142=some ⟨1,(some (.slice none 0 0)),.slice 148 2 32 (some (.agg #[.slice none 0 0,.int .i64 0]))⟩/\ag prog 146=some ⟨1,(some (.slice none 0 0)),.slice 281 6 48 (some (.agg #[.int .i64 0,.int .i64 0,.int .i64 0,.int .i64 0,.int .i64 0,.int .i64 0]))⟩/\ag prog 147=some ⟨2,(some (.agg #[.slice none 0 0,.int .i64 0])),.struct [(0,1),(1,1)]⟩/\ag prog 148=some ⟨2,(some (.agg #[.slice none 0 0,.int .i64 0])),.struct [(0,1),(1,1)]⟩/\ag prog 150=some ⟨1,(some (.pointer none)),.one⟩/\ag prog 153=some ⟨1,(some (.slice none 0 0)),.slice 34 1 24 (some (.slice none 0 0))⟩/\ag prog 154=some ⟨5,(some (.agg #[.slice none 0 0,.slice none 0 0,.slice none 0 0,.slice none 0 0,.slice none 0 0])),.struct [(0,2),(2,1),(3,1),(4,1)]⟩/\ag prog 155=some ⟨5,(some (.agg #[.slice none 0 0,.slice none 0 0,.slice none 0 0,.slice none 0 0,.slice none 0 0])),.struct [(0,2),(2,1),(3,1),(4,1)]⟩/\ag prog 159=some ⟨2,(some (.agg #[.slice none 0 0,.int .i64 0])),.struct [(0,1),(1,1)]⟩/\ag prog 160=some ⟨2,(some (.agg #[.slice none 0 0,.int .i64 0])),.struct [(0,1),(1,1)]⟩/\ag prog 162=some ⟨5,(some (.agg #[.int .i64 0,.int .i64 0,.int .i64 0,.int .i64 0,.int .i64 0])),.struct [(0,1),(1,1),(2,3)]⟩/\ag prog 163=some ⟨5,(some (.agg #[.int .i64 0,.int .i64 0,.int .i64 0,.int .i64 0,.int .i64 0])),.struct [(0,1),(1,1),(2,3)]⟩/\ag prog 174=some ⟨3,(some (.agg #[.slice none 0 0,.slice none 0 0,.slice none 0 0])),.struct [(0,1),(1,1),(2,1)]⟩/\ag prog 175=some ⟨3,(some (.agg #[.slice none 0 0,.slice none 0 0,.slice none 0 0])),.struct [(0,1),(1,1),(2,1)]⟩/\ag prog 187=some ⟨3,(some (.agg #[.int .i64 0,.slice none 0 0,.slice none 0 0])),.struct [(0,3)]⟩/\ag prog 188=some ⟨3,(some (.agg #[.int .i64 0,.slice none 0 0,.slice none 0 0])),.struct [(0,3)]⟩/\ag prog 189=some ⟨1,(some (.slice none 0 0)),.slice 191 3 40 (some (.agg #[.int .i64 0,.int .i64 0,.slice none 0 0]))⟩/\ag prog 190=some ⟨3,(some (.agg #[.int .i64 0,.int .i64 0,.slice none 0 0])),.struct [(0,1),(1,1),(2,1)]⟩/\ag prog 191=some ⟨3,(some (.agg #[.int .i64 0,.int .i64 0,.slice none 0 0])),.struct [(0,1),(1,1),(2,1)]⟩/\ag prog 192=some ⟨8,(some (.agg #[.int .i64 0,.slice none 0 0,.int .i64 0,.int .i64 0,.slice none 0 0,.int .i64 0,.slice none 0 0,.slice none 0 0])),.struct [(0,1),(1,1),(2,3),(5,3)]⟩/\ag prog 193=some ⟨8,(some (.agg #[.int .i64 0,.slice none 0 0,.int .i64 0,.int .i64 0,.slice none 0 0,.int .i64 0,.slice none 0 0,.slice none 0 0])),.struct [(0,1),(1,1),(2,3),(5,3)]⟩/\ag prog 202=some ⟨1,(some (.int .u64 0)),.one⟩:=by repeat' (first|kernel_rfl|refine ⟨by kernel_rfl,?_⟩)
@[simp] theorem abE:dy prog 202=some .u64/\ag prog 206=some ⟨1,(some (.slice none 0 0)),.slice 146 1 24 (some (.slice none 0 0))⟩/\ag prog 208=some ⟨1,(some (.slice none 0 0)),.slice 210 2 16 (some (.agg #[.int .i64 0,.int .i64 0]))⟩/\ag prog 210=some ⟨2,(some (.agg #[.int .i64 0,.int .i64 0])),.struct [(0,1),(1,1)]⟩/\ag prog 217=some ⟨1,(some (.nilFunc)),.one⟩/\ag prog 218=some ⟨4,(some (.agg #[.pointer none,.slice none 0 0,.slice none 0 0,.nilFunc])),.struct [(0,1),(1,1),(2,1),(3,1)]⟩/\ag prog 219=some ⟨4,(some (.agg #[.pointer none,.slice none 0 0,.slice none 0 0,.nilFunc])),.struct [(0,1),(1,1),(2,1),(3,1)]⟩/\ag prog 225=some ⟨3,(some (.agg #[.slice none 0 0,.slice none 0 0,.slice none 0 0])),.struct [(0,1),(1,1),(2,1)]⟩/\ag prog 226=some ⟨3,(some (.agg #[.slice none 0 0,.slice none 0 0,.slice none 0 0])),.struct [(0,1),(1,1),(2,1)]⟩/\ag prog 229=some ⟨4,(some (.agg #[.slice none 0 0,.slice none 0 0,.int .i64 0,.int .i64 0])),.struct [(0,1),(1,1),(2,1),(3,1)]⟩/\ag prog 230=some ⟨4,(some (.agg #[.slice none 0 0,.slice none 0 0,.int .i64 0,.int .i64 0])),.struct [(0,1),(1,1),(2,1),(3,1)]⟩/\ag prog 234=some ⟨7,(some (.agg #[.int .i64 0,.int .i64 0,.int .i64 0,.int .i64 0,.slice none 0 0,.slice none 0 0,.int .i64 0])),.struct [(0,1),(1,3),(4,1),(5,1),(6,1)]⟩/\ag prog 235=some ⟨7,(some (.agg #[.int .i64 0,.int .i64 0,.int .i64 0,.int .i64 0,.slice none 0 0,.slice none 0 0,.int .i64 0])),.struct [(0,1),(1,3),(4,1),(5,1),(6,1)]⟩/\ag prog 239=some ⟨1,(some (.agg #[.slice none 0 0])),.struct [(0,1)]⟩/\ag prog 240=some ⟨1,(some (.agg #[.slice none 0 0])),.struct [(0,1)]⟩/\ag prog 241=some ⟨8,(some (.agg #[.int .i64 0,.int .i64 0,.int .i64 0,.int .i64 0,.int .i64 0,.int .i64 0,.int .i64 0,.int .i64 0])),.array 8 1⟩/\gy prog 241=some (some 8)/\ag prog 260=some ⟨1,(some (.nilIface)),.one⟩/\ag prog 263=some ⟨3,(some (.agg #[.int .i64 0,.int .i64 0,.slice none 0 0])),.struct [(0,1),(1,1),(2,1)]⟩/\ag prog 264=some ⟨3,(some (.agg #[.int .i64 0,.int .i64 0,.slice none 0 0])),.struct [(0,1),(1,1),(2,1)]⟩:=by repeat' (first|kernel_rfl|refine ⟨by kernel_rfl,?_⟩)
@[simp] theorem UG:ag prog 265=some ⟨1,(some (.slice none 0 0)),.slice 264 3 40 (some (.agg #[.int .i64 0,.int .i64 0,.slice none 0 0]))⟩:=by kernel_rfl
@[simp] theorem abY:ag prog 267=some ⟨3,(some (.agg #[.int .i64 0,.int .i64 0,.slice none 0 0])),.struct [(0,1),(1,1),(2,1)]⟩/\ag prog 268=some ⟨3,(some (.agg #[.int .i64 0,.int .i64 0,.slice none 0 0])),.struct [(0,1),(1,1),(2,1)]⟩/\ag prog 275=some ⟨1,(some (.int .u64 0)),.one⟩/\dy prog 275=some .u64/\ag prog 276=some ⟨1,(some (.slice none 0 0)),.slice 283 24 192 (some (.agg #[.int .i64 0,.int .i64 0,.int .i64 0,.int .i64 0,.int .i64 0,.int .i64 0,.int .i64 0,.int .i64 0,.int .i64 0,.int .i64 0,.int .i64 0,.int .i64 0,.int .i64 0,.int .i64 0,.int .i64 0,.int .i64 0,.int .i64 0,.int .i64 0,.int .i64 0,.int .i64 0,.int .i64 0,.int .i64 0,.int .i64 0,.int .i64 0]))⟩/\ag prog 278=some ⟨6,(some (.agg #[.int .i64 0,.int .i64 0,.int .i64 0,.int .i64 0,.int .i64 0,.int .i64 0])),.array 3 2⟩/\gy prog 278=none/\uY prog 278=some (3,2)/\ag prog 279=some ⟨18,(some (.agg #[.int .i64 0,.int .i64 0,.int .i64 0,.int .i64 0,.int .i64 0,.int .i64 0,.int .i64 0,.int .i64 0,.int .i64 0,.int .i64 0,.int .i64 0,.int .i64 0,.int .i64 0,.int .i64 0,.int .i64 0,.int .i64 0,.int .i64 0,.int .i64 0])),.array 3 6⟩/\gy prog 279=none/\uY prog 279=some (3,6)/\ag prog 280=some ⟨18,(some (.agg #[.int .i64 0,.int .i64 0,.int .i64 0,.int .i64 0,.int .i64 0,.int .i64 0,.int .i64 0,.int .i64 0,.int .i64 0,.int .i64 0,.int .i64 0,.int .i64 0,.int .i64 0,.int .i64 0,.int .i64 0,.int .i64 0,.int .i64 0,.int .i64 0])),.array 3 6⟩/\gy prog 280=none/\uY prog 280=some (3,6)/\ag prog 281=some ⟨6,(some (.agg #[.int .i64 0,.int .i64 0,.int .i64 0,.int .i64 0,.int .i64 0,.int .i64 0])),.array 3 2⟩/\gy prog 281=none/\uY prog 281=some (3,2)/\ag prog 282=some ⟨24,(some (.agg #[.int .i64 0,.int .i64 0,.int .i64 0,.int .i64 0,.int .i64 0,.int .i64 0,.int .i64 0,.int .i64 0,.int .i64 0,.int .i64 0,.int .i64 0,.int .i64 0,.int .i64 0,.int .i64 0,.int .i64 0,.int .i64 0,.int .i64 0,.int .i64 0,.int .i64 0,.int .i64 0,.int .i64 0,.int .i64 0,.int .i64 0,.int .i64 0])),.struct [(0,18),(18,6)]⟩/\ag prog 283=some ⟨24,(some (.agg #[.int .i64 0,.int .i64 0,.int .i64 0,.int .i64 0,.int .i64 0,.int .i64 0,.int .i64 0,.int .i64 0,.int .i64 0,.int .i64 0,.int .i64 0,.int .i64 0,.int .i64 0,.int .i64 0,.int .i64 0,.int .i64 0,.int .i64 0,.int .i64 0,.int .i64 0,.int .i64 0,.int .i64 0,.int .i64 0,.int .i64 0,.int .i64 0])),.struct [(0,18),(18,6)]⟩/\ag prog 294=some ⟨1,(some (.nilFunc)),.one⟩/\ag prog 298=some ⟨1,(some (.nilFunc)),.one⟩/\ag prog 302=some ⟨2,(some (.agg #[.slice none 0 0,.slice none 0 0])),.struct [(0,1),(1,1)]⟩/\ag prog 303=some ⟨2,(some (.agg #[.slice none 0 0,.slice none 0 0])),.struct [(0,1),(1,1)]⟩/\ag prog 305=some ⟨2,(some (.agg #[.slice none 0 0,.slice none 0 0])),.struct [(0,2)]⟩/\ag prog 306=some ⟨2,(some (.agg #[.slice none 0 0,.slice none 0 0])),.struct [(0,2)]⟩/\ag prog 307=some ⟨2,(some (.agg #[.slice none 0 0,.slice none 0 0])),.struct [(0,2)]⟩/\ag prog 308=some ⟨8,(some (.agg #[.slice none 0 0,.slice none 0 0,.slice none 0 0,.slice none 0 0,.int .i64 0,.int .i64 0,.int .i64 0,.int .i64 0])),.struct [(0,2),(2,2),(4,3),(7,1)]⟩/\ag prog 309=some ⟨8,(some (.agg #[.slice none 0 0,.slice none 0 0,.slice none 0 0,.slice none 0 0,.int .i64 0,.int .i64 0,.int .i64 0,.int .i64 0])),.struct [(0,2),(2,2),(4,3),(7,1)]⟩/\ag prog 327=some ⟨1,(some (.nilFunc)),.one⟩/\ag prog 347=some ⟨2,(some (.agg #[.slice none 0 0,.int .i64 0])),.struct [(0,1),(1,1)]⟩/\ag prog 348=some ⟨2,(some (.agg #[.slice none 0 0,.int .i64 0])),.struct [(0,1),(1,1)]⟩/\ag prog 349=some ⟨4,(some (.agg #[.slice none 0 0,.int .i64 0,.slice none 0 0,.int .i64 0])),.struct [(0,2),(2,2)]⟩/\ag prog 350=some ⟨4,(some (.agg #[.slice none 0 0,.int .i64 0,.slice none 0 0,.int .i64 0])),.struct [(0,2),(2,2)]⟩/\ag prog 352=some ⟨1,(some (.pointer none)),.one⟩/\ag prog 378=some ⟨1,(some (.nilFunc)),.one⟩/\ag prog 379=some ⟨1,(some (.agg #[.nilFunc])),.struct [(0,1)]⟩/\ag prog 380=some ⟨1,(some (.agg #[.nilFunc])),.struct [(0,1)]⟩/\ag prog 388=some ⟨1,(some (.int .i64 0)),.one⟩/\dy prog 388=some .i64/\ag prog 389=some ⟨1,(some (.nilFunc)),.one⟩/\ag prog 390=some ⟨2,(some (.agg #[.nilFunc,.nilFunc])),.struct [(0,1),(1,1)]⟩/\ag prog 391=some ⟨2,(some (.agg #[.nilFunc,.nilFunc])),.struct [(0,1),(1,1)]⟩/\ag prog 398=some ⟨4,(some (.agg #[.int .i64 0,.int .i64 0,.int .i64 0,.int .i64 0])),.array 4 1⟩/\gy prog 398=some (some 4)/\ag prog 399=some ⟨11,(some (.agg #[.int .i64 0,.int .i64 0,.int .i64 0,.int .i64 0,.int .i64 0,.int .i64 0,.int .i64 0,.int .i64 0,.int .i64 0,.int .i64 0,.int .i64 0])),.array 11 1⟩/\gy prog 399=some (some 11)/\ag prog 403=some ⟨11,(some (.agg #[.int .i64 0,.int .i64 0,.int .i64 0,.int .i64 0,.int .i64 0,.int .i64 0,.int .i64 0,.int .i64 0,.int .i64 0,.int .i64 0,.int .i64 0])),.array 11 1⟩/\gy prog 403=some (some 11)/\ag prog 407=some ⟨4,(some (.agg #[.pointer none,.pointer none,.pointer none,.string ByteArray.empty])),.struct [(0,1),(1,1),(2,1),(3,1)]⟩/\ag prog 408=some ⟨4,(some (.agg #[.pointer none,.pointer none,.pointer none,.string ByteArray.empty])),.struct [(0,1),(1,1),(2,1),(3,1)]⟩/\ag prog 409=some ⟨0,(some (.agg #[])),.array 0 1⟩/\gy prog 409=some (some 0)/\ag prog 410=some ⟨0,(some (.agg #[])),.struct [(0,0)]⟩/\ag prog 411=some ⟨0,(some (.agg #[])),.struct [(0,0)]⟩/\ag prog 413=some ⟨1,(some (.int .u32 0)),.one⟩/\dy prog 413=some .u32/\ag prog 414=some ⟨1,(some (.int .u8 0)),.one⟩/\dy prog 414=some .u8/\ag prog 415=some ⟨1,(some (.int .u8 0)),.one⟩/\dy prog 415=some .u8:=by repeat' (first|kernel_rfl|refine ⟨by kernel_rfl,?_⟩)
@[simp] theorem aeG:ag prog 416=some ⟨1,(some (.nilFunc)),.one⟩/\ag prog 417=some ⟨1,(some (.pointer none)),.one⟩/\ag prog 418=some ⟨1,(some (.int .i32 0)),.one⟩/\dy prog 418=some .i32/\ag prog 419=some ⟨1,(some (.int .i32 0)),.one⟩/\dy prog 419=some .i32/\ag prog 420=some ⟨11,(some (.agg #[.int .u64 0,.int .u64 0,.int .u32 0,.int .u8 0,.int .u8 0,.int .u8 0,.int .u8 0,.nilFunc,.pointer none,.int .i32 0,.int .i32 0])),.struct [(0,1),(1,1),(2,1),(3,1),(4,1),(5,1),(6,1),(7,1),(8,1),(9,1),(10,1)]⟩/\ag prog 421=some ⟨11,(some (.agg #[.int .u64 0,.int .u64 0,.int .u32 0,.int .u8 0,.int .u8 0,.int .u8 0,.int .u8 0,.nilFunc,.pointer none,.int .i32 0,.int .i32 0])),.struct [(0,1),(1,1),(2,1),(3,1),(4,1),(5,1),(6,1),(7,1),(8,1),(9,1),(10,1)]⟩:=by repeat' (first|kernel_rfl|refine ⟨by kernel_rfl,?_⟩)
abbrev I(lo hi:Int):PV:=.val (.agg #[.int .i64 lo,.int .i64 hi])
abbrev aA(x:Int×Int):PV:=I x.1 x.2
abbrev B(b:Bool):PV:=.val (.bool b)
abbrev Z(n:Int):PV:=.val (.int .i64 n)
abbrev wr(n:Int):Int:=i64.wrap n
def al(lo hi:Int):Bool:=decide (-2147483648<=lo)&&decide (lo<=hi)&&decide (hi<=2147483648)
theorem YS(a b c d:Int):aj prog (Op.equal 99 (.agg #[.int .i64 a,.int .i64 b]) (.agg #[.int .i64 c,.int .i64 d]))=some (a==c&&b==d):=by
 have hf:(prog.fieldsOf 99).toList=[(prog.fieldsOf 99)[0]!,(prog.fieldsOf 99)[1]!]:=by kernel_rfl
 show aj prog (Op.equalIn (9999+1) 99 _ _)=_;rw[xg 9999 99 _ _ (by kernel_rfl) (by kernel_rfl),hf]
 have h:=nE (P:=prog) (d:=9999) (xs:=#[.int .i64 a,.int .i64 b]) (ys:=#[.int .i64 c,.int .i64 d]) (f:=(prog.fieldsOf 99)[0]!) (fs:=[(prog.fieldsOf 99)[1]!]) (a:=.int .i64 a) (b:=.int .i64 c) (by decide +kernel) (by kernel_rfl) (by kernel_rfl) (og 9998 _ .i64 .i64 a c (by kernel_rfl))
  (nE (by decide +kernel) (a:=.int .i64 b) (b:=.int .i64 d) (by kernel_rfl) (by kernel_rfl) (og 9998 _ .i64 .i64 b d (by kernel_rfl)) F3)
 rw[h];simp
def gk(P:Program)(o:Oper)(ρ:Operand->AV):Option bF:=bf P o ρ
def yR(x:AV):Option (Int×Int):=match x with
 |.pv (.val (.agg c))=>match c.toList with
  |[.int .i64 a,.int .i64 b]=>some (a,b)
  |_=>none
 |_=>none
theorem qJ{x:AV}{a b:Int}(h:yR x=some (a,b)):x=.pv (I a b):=by
 unfold yR at h;split at h
 .split at h
  .rename_i d _ e f c
   injection h with h;injection h with h1 h2;subst h1;subst h2;rw[<-Array.toArray_toList (xs:=d),c]
  .cases h
 .cases h
def Nd(x y:AV)(e:Option bF):Option bF:=match yR x,yR y with
 |some (a,b),some (c,d)=>some (.pv (.val (.bool !(a==c&&b==d))),[])
 |_,_=>e
@[simp] theorem UV(a b c d:Int)(e:Option bF):Nd (.pv (.val (.agg #[.int .i64 a,.int .i64 b]))) (.pv (.val (.agg #[.int .i64 c,.int .i64 d]))) e=some (.pv (.val (.bool !(a==c&&b==d))),[]):=rfl
@[simp] theorem aeO{ty:TypeId}{pos:String}{g:Option (Nat×Bool)}(x y:Operand):
 bf prog ⟨dst,.binOp .neq 99 x y 99,ty,pos,aft,g⟩ ρ=Nd (ρ x) (ρ y) (gk prog ⟨dst,.binOp .neq 99 x y 99,ty,pos,aft,g⟩ ρ):=by
 unfold Nd;split
 .rename_i a b c d e f
  exact BI rfl (qJ e) (qJ f) (by kernel_rfl) (YS a b c d)
 .rfl
theorem jI(lo hi:Int):aV 216 (I lo hi) (B (al lo hi)):=by
 refine Dp func216 λC hP hN=>?_
 with_reducible repeat' (first|refine Sp.h ?_|((first|refine Ss.h ?_|(refine Sb.h ?_ ?_ ?_<;>(try intro hgd)<;>try exact Xy))<;>simp -implicitDefEqProofs (maxSteps:=2000000) [hP,hN])|refine X2 ?_ ?_|(refine Xd ?_ ?_<;>intro hcd<;>try exact Xx))
 all_goals (first|(simp_all[al];done)|((try simp_all[al])<;>(try omega)<;>grind))
theorem lg(lo hi:Int):aV 130 (I lo hi) (B (al lo hi)):=by
 refine Dp func130 λC hP hN=>?_
 with_reducible repeat' (first|refine Sp.h ?_|((first|refine Ss.h ?_|(refine Sb.h ?_ ?_ ?_<;>(try intro hgd)<;>try exact Xy))<;>simp -implicitDefEqProofs (maxSteps:=2000000) [hP,hN])|refine X2 ?_ ?_|(refine Xd ?_ ?_<;>intro hcd<;>try exact Xx))
 all_goals (first|(simp_all[al];done)|((try simp_all[al])<;>(try omega)<;>grind))
theorem Db(a b c d:Int):aL 229 (I a b) (I c d) (B (al a b&&al c d)):=by
 refine Dp func229 λC hP hN=>?_
 with_reducible repeat' (first|refine Sp.h ?_|((first|refine Ss.h ?_|refine Sc.h (jI _ _) ?_|(refine Sb.h ?_ ?_ ?_<;>(try intro hgd)<;>try exact Xy))<;>simp -implicitDefEqProofs (maxSteps:=2000000) [hP,hN])|refine X2 ?_ ?_|(refine Xd ?_ ?_<;>intro hcd<;>try exact Xx))
 all_goals (first|(simp_all;done)|((try simp_all)<;>(try omega)<;>grind))
theorem VM(a b c d:Int):aL 232 (I a b) (I c d) (B (al a b&&al c d&&decide (c<=a)&&decide (b<=d))):=by
 refine Dp func232 λC hP hN=>?_
 with_reducible repeat' (first|refine Sp.h ?_|((first|refine Ss.h ?_|refine Sc.h (lg _ _) ?_|(refine Sb.h ?_ ?_ ?_<;>(try intro hgd)<;>try exact Xy))<;>simp -implicitDefEqProofs (maxSteps:=2000000) [hP,hN])|refine X2 ?_ ?_|(refine Xd ?_ ?_<;>intro hcd<;>try exact Xx))
 all_goals (first|(simp_all;done)|((try simp_all)<;>(try omega)<;>grind))
def lQ(n k:Int):Int:=if n.tmod k<0 then wr (n.tmod k+k)else n.tmod k
theorem Pw(n k:Int)(a:k≠0):aL 14 (Z n) (Z k) (Z (lQ n k)):=by
 refine Dp func14 λC hP hN=>?_
 with_reducible repeat' (first|refine Sp.h ?_|((first|refine Ss.h ?_|(refine Sb.h ?_ ?_ ?_<;>(try intro hgd)<;>try exact Xy))<;>simp -implicitDefEqProofs (maxSteps:=2000000) [hP,hN,a])|refine X2 ?_ ?_|(refine Xd ?_ ?_<;>intro hcd<;>try exact Xx))
 all_goals (first|(simp_all[lQ];done)|((try simp_all[lQ])<;>(try omega)<;>grind))
@[simp] theorem YE(a b:Int):(if b<a then b else a)=min a b:=by split<;>omega
@[simp] theorem YF(a b:Int):(if a<b then b else a)=max a b:=by split<;>omega
theorem aa{n:Int}(h1:-9223372036854775808<=n:=by omega)(a:n<9223372036854775808:=by omega):wr n=n:=by
 rw[wr,IntKind.wrap_i64];omega
theorem vt(a:k<64):min k.toNat 64=k.toNat:=by omega
theorem ue:i64.bits=64:=rfl
theorem VN(a:Int):aV 371 (Z a) (Z (min (max a (-2147483648)) 2147483648)):=by
 refine Dp func371 λC hP hN=>?_;exact Gy
 all_goals (first|(simp_all;done)|((try simp_all)<;>(try omega)<;>grind))
theorem RF(a b:Int):aL 360 (Z a) (Z b) (I (min (max a (-2147483648)) 2147483648) (min (max b (-2147483648)) 2147483648)):=by
 refine Dp func360 λC hP hN=>?_;have c:=@VN;exact GS trivial
 all_goals (first|(simp_all;done)|((try simp_all)<;>(try omega)<;>grind))
theorem VO(a:Int):aV 340 (Z a) (I (min (max a (-2147483648)) 2147483648) (min (max a (-2147483648)) 2147483648)):=by
 refine Dp func340 λC hP hN=>?_;have b:=@RF;exact GS trivial
 all_goals (first|(simp_all;done)|((try simp_all)<;>(try omega)<;>grind))
theorem VP(a k:Int)(h:0<=k)(b:k<64):aL 255 (Z a) (Z k) (Z (a.fdiv (2^k.toNat))):=by
 refine Dp func255 λC hP hN=>?_;exact GS (be h @ue (vt b))
 all_goals (first|(simp_all;done)|((try simp_all)<;>(try omega)<;>grind))
def bV(x y:Int×Int):Int×Int:=if al x.1 x.2&&al y.1 y.2 then(min x.1 y.1,max x.2 y.2)else(0,0)
theorem JI(a b c d:Int):aL 392 (I a b) (I c d) (aA (bV (a,b) (c,d))):=by
 refine Dp func392 λC hP hN=>?_
 with_reducible repeat' (first|refine Sp.h ?_|((first|refine Ss.h ?_|refine Sc.h (Db _ _ _ _) ?_|(refine Sb.h ?_ ?_ ?_<;>(try intro hgd)<;>try exact Xy))<;>simp -implicitDefEqProofs (maxSteps:=2000000) [hP,hN])|refine X2 ?_ ?_|(refine Xd ?_ ?_<;>intro hcd<;>try exact Xx))
 all_goals (first|(simp_all[bV];done)|((try simp_all[bV])<;>(try omega)<;>grind))
theorem JJ(a b c d:Int):aL 377 (I a b) (I c d) (aA (bV (a,b) (c,d))):=by
 refine Dp func377 λC hP hN=>?_
 with_reducible repeat' (first|refine Sp.h ?_|((first|refine Ss.h ?_|refine Sc.h (lg _ _) ?_|(refine Sb.h ?_ ?_ ?_<;>(try intro hgd)<;>try exact Xy))<;>simp -implicitDefEqProofs (maxSteps:=2000000) [hP,hN])|refine X2 ?_ ?_|(refine Xd ?_ ?_<;>intro hcd<;>try exact Xx))
 all_goals (first|(simp_all[bV];done)|((try simp_all[bV])<;>(try omega)<;>grind))
theorem Av(a b:Int):aV 194 (I a b) (Z (if al a b then wr (b-a)else 0)):=by
 refine Dp func194 λC hP hN=>?_
 with_reducible repeat' (first|refine Sp.h ?_|((first|refine Ss.h ?_|refine Sc.h (jI _ _) ?_|(refine Sb.h ?_ ?_ ?_<;>(try intro hgd)<;>try exact Xy))<;>simp -implicitDefEqProofs (maxSteps:=2000000) [hP,hN])|refine X2 ?_ ?_|(refine Xd ?_ ?_<;>intro hcd<;>try exact Xx))
 all_goals (first|(simp_all;done)|((try simp_all)<;>(try omega)<;>grind))
theorem VQ(a b:Int):aV 195 (I a b) (Z (if al a b then(wr (a+b)).fdiv 2 else 0)):=by
 refine Dp func195 λC hP hN=>?_
 with_reducible repeat' (first|refine Sp.h ?_|((first|refine Ss.h ?_|refine Sc.h (jI _ _) ?_|refine Sc.h (VP _ _ (by decide) (by decide)) ?_|(refine Sb.h ?_ ?_ ?_<;>(try intro hgd)<;>try exact Xy))<;>simp -implicitDefEqProofs (maxSteps:=2000000) [hP,hN])|refine X2 ?_ ?_|(refine Xd ?_ ?_<;>intro hcd<;>try exact Xx))
 all_goals (first|(simp_all;done)|((try simp_all)<;>(try omega)<;>grind))
theorem RG(a b x:Int):aL 192 (I a b) (Z x) (B (al a b&&decide (a<=x)&&decide (x<=b))):=by
 refine Dp func192 λC hP hN=>?_
 with_reducible repeat' (first|refine Sp.h ?_|((first|refine Ss.h ?_|refine Sc.h (jI _ _) ?_|(refine Sb.h ?_ ?_ ?_<;>(try intro hgd)<;>try exact Xy))<;>simp -implicitDefEqProofs (maxSteps:=2000000) [hP,hN])|refine X2 ?_ ?_|(refine Xd ?_ ?_<;>intro hcd<;>try exact Xx))
 all_goals (first|(simp_all;done)|((try simp_all)<;>(try omega)<;>grind))
theorem VR(a b x:Int):aL 182 (I a b) (Z x) (B (al a b&&decide (a<=x)&&decide (x<=b))):=by
 refine Dp func182 λC hP hN=>?_
 with_reducible repeat' (first|refine Sp.h ?_|((first|refine Ss.h ?_|refine Sc.h (lg _ _) ?_|(refine Sb.h ?_ ?_ ?_<;>(try intro hgd)<;>try exact Xy))<;>simp -implicitDefEqProofs (maxSteps:=2000000) [hP,hN])|refine X2 ?_ ?_|(refine Xd ?_ ?_<;>intro hcd<;>try exact Xx))
 all_goals (first|(simp_all;done)|((try simp_all)<;>(try omega)<;>grind))
theorem RH(a b c d:Int):aL 261 (I a b) (I c d) (.tup (if al a b&&al c d&&decide (max a c<=min b d)then[I (max a c) (min b d),B true]else[I 0 0,B false])):=by
 refine Dp func261 λC hP hN=>?_
 with_reducible repeat' (first|refine Sp.h ?_|((first|refine Ss.h ?_|refine Sc.h (Db _ _ _ _) ?_|(refine Sb.h ?_ ?_ ?_<;>(try intro hgd)<;>try exact Xy))<;>simp -implicitDefEqProofs (maxSteps:=2000000) [hP,hN])|refine X2 ?_ ?_|(refine Xd ?_ ?_<;>intro hcd<;>try exact Xx))
 all_goals (first|(simp_all;done)|((try simp_all)<;>(try omega)<;>grind))
theorem VS(a b c d:Int):aL 246 (I a b) (I c d) (.tup (if al a b&&al c d&&decide (max a c<=min b d)then[I (max a c) (min b d),B true]else[I 0 0,B false])):=by
 refine Dp func246 λC hP hN=>?_
 with_reducible repeat' (first|refine Sp.h ?_|((first|refine Ss.h ?_|refine Sc.h (lg _ _) ?_|(refine Sb.h ?_ ?_ ?_<;>(try intro hgd)<;>try exact Xy))<;>simp -implicitDefEqProofs (maxSteps:=2000000) [hP,hN])|refine X2 ?_ ?_|(refine Xd ?_ ?_<;>intro hcd<;>try exact Xx))
 all_goals (first|(simp_all;done)|((try simp_all)<;>(try omega)<;>grind))
abbrev zs(xs:List Int):PV:=.sl (xs.map Z)
abbrev iv(xs:List (Int×Int)):PV:=.sl (xs.map aA)
abbrev Fv(f:FuncId):PV:=.val (.func (.func f) #[] #[])
theorem lR(h:n<=16777216):n<=9223372036854775807:=by omega
theorem ai(h:i<n)(hn:n<=9223372036854775807):i64.wrap ((i:Int)+1)=(i:Int)+1:=by rw[IntKind.wrap_i64];omega
def oP(p:α->Bool)(xs:List α):Int:=match xs.findIdx? p with
 |some i=>i
 |none=>-1
theorem qK(b:i<xs.length)(hq:∀j x,j<i->xs[j]?=some x->p x=false)(hp:p xs[i]=true):oP p xs=i:=by
 have:xs.findIdx? p=some i:=by
  rw[yBY];refine⟨b,hp,λj c=>?_⟩
  have a:j<xs.length:=by omega
  rw[hq j xs[j] c (an a)];simp
 simp[oP,this]
theorem xi(hq:∀(j:Nat) x,xs[j]?=some x->p x=false):oP p xs=-1:=by
 have:xs.findIdx? p=none:=by
  rw[List.findIdx?_eq_none_iff];intro x b;obtain⟨j,a,rfl⟩:=yBl.1 b;exact hq j _ (an a)
 simp[oP,this]
theorem vu(p:α->Bool)(xs:List α):decide (0<=oP p xs)=xs.any p:=by
 unfold oP
 cases h:xs.findIdx? p with
 |none=>
  rw[List.findIdx?_eq_none_iff]at h
  have:xs.any p=false:=by
   rw[yBH];intro x b;rw[h x b];simp
  simp[this]
 |some i=>
  rw[yBY]at h;obtain⟨a,hp,_⟩:=h;have:xs.any p=true:=yBQ.2 ⟨xs[i],yAq a,hp⟩;simp[this]
theorem pN(b:i<xs.length)(hq:∀j x,j<i->xs[j]?=some x->p x=false)(hp:p xs[i]=false):∀j x,j<i+1->xs[j]?=some x->p x=false:=by
 intro j x c a;by_cases e:j=i
 .subst e;rw[an b]at a;injection a with a;subst a;exact hp
 .exact hq j x (by omega) a
theorem Aw(b:¬i<xs.length)(hq:∀j x,j<i->xs[j]?=some x->p x=false):∀(j:Nat) x,xs[j]?=some x->p x=false:=by
 intro j x a;have:=(th.1 a).1;exact hq j x (by omega) a
theorem VT(f:FuncId)(p:Int×Int->Bool)(xs:List (Int×Int))(k:xs.length<=9223372036854775807)(hf:∀x,aO prog f [.pv (aA x)] [] [] (.pv (B (p x)))):aL 304 (iv xs) (Fv f) (Z (oP p xs)):=by
 refine Dp func304 λC hP hN=>?_;refine Gz ?_;refine WP.loopN [] xs.length (λi b=>b.t 0=.pv (iv xs)/\b.t 1=.pv (Fv f)/\b.t 7=.pv (Z xs.length)/\b.t 8=.pv (Z i)/\∀j x,j<i->xs[j]?=some x->p x=false) (by simp) ?_;rintro i b hi ⟨c,d,e,g,hq⟩;by_cases a:i<xs.length
 .have l:=ai a k
  with_reducible repeat' (first|refine Sp.h ?_|((first|refine Ss.h ?_|refine Sc.h (hf _) ?_|(refine Sb.h ?_ ?_ ?_<;>(try intro hgd)<;>try exact Xy))<;>simp -implicitDefEqProofs (maxSteps:=2000000) [hP,hN,c,d,e,g,a,l])|refine X2 ?_ ?_|(refine Xd ?_ ?_<;>intro hcd<;>try exact Xx))
  .exact(qK a hq hcd).symm
  .simpa using pN a hq hcd
 .skip
  refine Gz ?_;exact(xi (Aw a hq)).symm
theorem RI(f:FuncId)(p:Int×Int->Bool)(xs:List (Int×Int))(a:xs.length<=9223372036854775807)(hf:∀x,aO prog f [.pv (aA x)] [] [] (.pv (B (p x)))):aL 253 (iv xs) (Fv f) (B (xs.any p)):=by
 refine Dp func253 λC hP hN=>?_;have b:=VT _ _ _ a hf;refine GT trivial ?_
 all_goals (first|(simp_all[vu];done)|((try simp_all[vu])<;>(try omega)<;>grind))
def au(p:α->Bool)(xs:List α):Bool:=xs.all p
theorem Ig(p:α->Bool)(xs:List α):(xs.any λx=>!p x)=!au p xs:=by simp[au,List.any_eq_not_all_not]
abbrev vI(x:Int×Int):Bool:=al x.1 x.2
theorem VU(x:Int×Int):aV 254 (aA x) (B (!al x.1 x.2)):=by
 refine Dp func254 λC hP hN=>?_;have a:=@jI;exact GS trivial
 all_goals (first|(simp_all;done)|((try simp_all)<;>(try omega)<;>grind))
theorem F4(xs:List (Int×Int))(a:xs.length<=9223372036854775807):aV 193 (iv xs) (B (au vI xs)):=by
 refine Dp func193 λC hP hN=>?_;have b:=RI _ _ _ a VU;exact GS (Ig vI xs)
 all_goals (first|(simp_all;done)|((try simp_all)<;>(try omega)<;>grind))
def fK(x:Int):Bool:=decide (-2147483648<=x)&&decide (x<=2147483648)
def nF(xs ys:List Int)(d:Int):Bool:=decide (xs.length=ys.length)&&au fK xs&&au fK ys&&decide (0<=d)&&decide (d<=20)
theorem rH{xs ys:List Int}{d:Int}(h:nF xs ys d=true):xs.length=ys.length/\au fK xs=true/\au fK ys=true/\0<=d/\d<=20:=by
 simp only[nF,An,Is]at h;exact⟨h.1.1.1.1,h.1.1.1.2,h.1.1.2,h.1.2,h.2⟩
theorem uf{d:Int}(a:0<=d)(hd:d<=20):i64.wrap (2^d.toNat)=2^d.toNat:=by
 have:∀n:Nat,n<=20->i64.wrap (2^n)=2^n:=by decide
 exact this d.toNat (by omega)
theorem Nf{T L:List PV}{v:PV}(a:L.length=T.length)(h:∀j,j<i->L[j]?=T[j]?)(b:T[i]?=some v):∀j,j<i+1->(L.set i v)[j]?=T[j]?:=by
 intro j c;have hi:i<T.length:=(th.1 b).1;by_cases e:j=i
 .subst e;rw[b,List.getElem?_set_self (by omega)]
 .rw[List.getElem?_set_ne (by omega)];exact h j (by omega)
theorem Ng{T L:List PV}(a:L.length=T.length)(h:∀j,j<i->L[j]?=T[j]?)(hi:T.length<=i):L=T:=by
 apply yAK;intro j;by_cases e:j<i
 .exact h j e
 .rw[yAf (by omega),yAf (by omega)]
def BL(a d f t:Int):Int×Int:=
 let s:=wr (a*wr (t-f));let e:=wr (wr (a+1)*wr (t-f))
 (wr (f+(min s e).fdiv (2^d.toNat)),wr (f-(wr (-max s e)).fdiv (2^d.toNat)))
def kL(xs ys:List Int)(d i:Int):List (Int×Int)×Bool:=if nF xs ys d&&decide (0<=i)&&decide (i<2^d.toNat)then(List.zipWith (BL i d) xs ys,true)else([],false)
theorem pO(a:i<xs.length)(hp:p xs[i]=false):au p xs=false:=by
 rw[au,yBw];exact⟨xs[i],yAq a,by simp[hp]⟩
theorem oQ(a:i<xs.length)(h:au p (xs.take i)=true)(hp:p xs[i]=true):au p (xs.take (i+1))=true:=by
 unfold au at *;rw[yAP a,List.all_append,h];simp[hp]
theorem oR(a:¬i<xs.length)(h:au p (xs.take i)=true):au p xs=true:=by
 rwa [yAu (by omega)]at h
theorem wt{f:α->β}(a:i<xs.length):(xs.map f).take i++[f xs[i]]=(xs.map f).take (i+1):=by
 rw[yAP (by simpa using a)];simp
theorem E4{γ:Type}{f:α->β->γ}(b:i<xs.length)(a:i<ys.length):(List.zipWith f xs ys).take i++[f xs[i] ys[i]]=(List.zipWith f xs ys).take (i+1):=by
 rw[yAP (by simp;omega)];simp
theorem xj(hn:xs.length=n)(hi:¬i<n):xs.take i=xs:=yAu (by omega)
def ew(f:α->β->Bool)(xs:List α)(ys:List β):Bool:=(List.zipWith f xs ys).all id
def fS(f:α->β->Bool)(xs:List α)(ys:List β)(i:Nat):Bool:=((List.zipWith f xs ys).take i).all id
theorem ku(b:i<xs.length)(a:i<ys.length)(hp:f xs[i] ys[i]=false):ew f xs ys=false:=
 pO (p:=id) (xs:=List.zipWith f xs ys) (i:=i) (by simp;omega) (by simpa using hp)
theorem lS(b:i<xs.length)(a:i<ys.length)(h:fS f xs ys i=true)(hp:f xs[i] ys[i]=true):fS f xs ys (i+1)=true:=
 oQ (p:=id) (xs:=List.zipWith f xs ys) (i:=i) (by simp;omega) h (by simpa using hp)
theorem lT(a:¬i<xs.length)(h:fS f xs ys i=true):ew f xs ys=true:=
 oR (p:=id) (xs:=List.zipWith f xs ys) (i:=i) (by simp;omega) h
theorem gr(xs:List (Int×Int))(f:xs.length<=9223372036854775807):aV 163 (iv xs) (B (au vI xs)):=by
 refine Dp func163 λC hP hN=>?_;refine Gz ?_;refine WP.loopN [] xs.length (λi b=>b.t 0=.pv (iv xs)/\b.t 3=.pv (Z i)/\au vI (xs.take i)=true) (by simp[au]) ?_;rintro i b hi ⟨c,d,hq⟩;by_cases a:i<xs.length
 .have g:=ai a f
  have e:vI xs[i]=false->au vI xs=false:=pO a;have hS:vI xs[i]=true->au vI (xs.take (i+1))=true:=oQ a hq
  with_reducible repeat' (first|refine Sp.h ?_|((first|refine Ss.h ?_|refine Sc.h (lg _ _) ?_|(refine Sb.h ?_ ?_ ?_<;>(try intro hgd)<;>try exact Xy))<;>simp -implicitDefEqProofs (maxSteps:=2000000) [hP,hN,c,d,a,g])|refine X2 ?_ ?_|(refine Xd ?_ ?_<;>intro hcd<;>try exact Xx))
  all_goals first|(rw[e];simp_all[fK];try omega)|(rw[hS];simp_all[fK];try omega)
 .skip
  refine Gz ?_;simp[oR a hq]
theorem RJ(xs:List (Int))(f:xs.length<=9223372036854775807):aV 305 (zs xs) (B (au fK xs)):=by
 refine Dp func305 λC hP hN=>?_
 with_reducible repeat' (first|refine Sp.h ?_|((first|refine Ss.h ?_|(refine Sb.h ?_ ?_ ?_<;>(try intro hgd)<;>try exact Xy))<;>simp -implicitDefEqProofs (maxSteps:=2000000) [hP,hN])|refine X2 ?_ ?_|(refine Xd ?_ ?_<;>intro hcd<;>try exact Xx))
 refine WP.loopN [] xs.length (λi b=>b.t 0=.pv (zs xs)/\b.t 3=.pv (Z i)/\au fK (xs.take i)=true) (by simp[au]) ?_;rintro i b hi ⟨c,d,hq⟩;by_cases a:i<xs.length
 .have g:=ai a f
  have e:fK xs[i]=false->au fK xs=false:=pO a;have hS:fK xs[i]=true->au fK (xs.take (i+1))=true:=oQ a hq
  with_reducible repeat' (first|refine Sp.h ?_|((first|refine Ss.h ?_|(refine Sb.h ?_ ?_ ?_<;>(try intro hgd)<;>try exact Xy))<;>simp -implicitDefEqProofs (maxSteps:=2000000) [hP,hN,c,d,a,g])|refine X2 ?_ ?_|(refine Xd ?_ ?_<;>intro hcd<;>try exact Xx))
  all_goals first|(rw[e];simp_all[fK];try omega)|(rw[hS];simp_all[fK];try omega)
 .skip
  with_reducible repeat' (first|refine Sp.h ?_|((first|refine Ss.h ?_|(refine Sb.h ?_ ?_ ?_<;>(try intro hgd)<;>try exact Xy))<;>simp -implicitDefEqProofs (maxSteps:=2000000) [hP,hN,c,d,a])|refine X2 ?_ ?_|(refine Xd ?_ ?_<;>intro hcd<;>try exact Xx))
  simp[oR a hq]
def eE(x y:Int×Int):Bool:=al x.1 x.2&&al y.1 y.2&&decide (y.1<=x.1)&&decide (x.2<=y.2)
def mJ(x:Int×Int)(c:Int):Bool:=al x.1 x.2&&decide (x.1<=c)&&decide (c<=x.2)
def nG(xs ys:List (Int×Int)):Bool:=au vI xs&&au vI ys&&decide (xs.length=ys.length)&&ew eE xs ys
def Ax(xs:List (Int×Int))(ys:List Int):Bool:=au vI xs&&decide (xs.length=ys.length)&&ew mJ xs ys
theorem VV(xs:List (Int×Int))(ys:List (Int×Int))(e:xs.length<=9223372036854775807)(g:ys.length<=9223372036854775807):aL 175 (iv xs) (iv ys) (B (nG xs ys)):=by
 refine Dp func175 λC hP hN=>?_
 cases c:au vI xs with
 |false=>
  have k:=gr _ e;have l:=gr _ g;refine GT c ?_
  all_goals simp[nG,c]
 |true=>
  cases d:au vI ys with
  |false=>
   have k:=gr _ e;have l:=gr _ g;refine GT (gA c d) ?_
   all_goals simp[nG,c,d]
  |true=>
   by_cases f:xs.length=ys.length
   .skip
    have k:=gr _ e;have l:=gr _ g;refine GT (be c d f) ?_;refine WP.loopN [] xs.length (λi j=>j.t 0=.pv (iv xs)/\j.t 1=.pv (iv ys)/\j.t 5=.pv (Z i)/\fS eE xs ys i=true) (by simp[fS]) ?_;rintro i j hi ⟨m,n,o,hq⟩;by_cases b:i<xs.length
    .have q:=ai b e
     have a:i<ys.length:=by omega
     have p:eE xs[i] ys[i]=false->ew eE xs ys=false:=ku b a;have hS:eE xs[i] ys[i]=true->fS eE xs ys (i+1)=true:=lS b a hq
     with_reducible repeat' (first|refine Sp.h ?_|((first|refine Wd ?_|refine Ss.h ?_|refine Sc.h (VM _ _ _ _) ?_|(refine Sb.h ?_ ?_ ?_<;>(try intro hgd)<;>try exact Xy))<;>simp -implicitDefEqProofs (maxSteps:=2000000) [hP,hN,m,n,o,b,a,q]<;>try refine Ya ?_)|refine X2 ?_ ?_|(refine Xd ?_ ?_<;>intro hcd<;>try exact Xx))
     all_goals first|(rw[nG,p (by simp only[eE]<;>grind)];simp;done)|(rw[hS (by simp only[eE]<;>grind)];done)
    .have a:¬i<ys.length:=by omega
     refine GT (it m n o b a) ?_
     all_goals simp[nG,c,d,f,lT b hq]
   .skip
    have k:=gr _ e;have l:=gr _ g;refine GT (be c d f) ?_
    all_goals simp[nG,c,d,f]
theorem JK(xs:List (Int×Int))(ys:List (Int))(e:xs.length<=9223372036854775807)(o:ys.length<=9223372036854775807):aL 104 (iv xs) (zs ys) (B (Ax xs ys)):=by
 refine Dp func104 λC hP hN=>?_
 cases c:au vI xs with
 |false=>
  have g:=gr _ e;refine GT c ?_
  all_goals simp[Ax,c]
 |true=>
  by_cases d:xs.length=ys.length
  .skip
   have g:=gr _ e;refine GT (gA c d) ?_;refine WP.loopN [] xs.length (λi f=>f.t 0=.pv (iv xs)/\f.t 1=.pv (zs ys)/\f.t 5=.pv (Z i)/\fS mJ xs ys i=true) (by simp[fS]) ?_;rintro i f hi ⟨j,k,l,hq⟩;by_cases b:i<xs.length
   .have n:=ai b e
    have a:i<ys.length:=by omega
    have m:mJ xs[i] ys[i]=false->ew mJ xs ys=false:=ku b a;have hS:mJ xs[i] ys[i]=true->fS mJ xs ys (i+1)=true:=lS b a hq
    with_reducible repeat' (first|refine Sp.h ?_|((first|refine Wd ?_|refine Ss.h ?_|refine Sc.h (VR _ _ _) ?_|(refine Sb.h ?_ ?_ ?_<;>(try intro hgd)<;>try exact Xy))<;>simp -implicitDefEqProofs (maxSteps:=2000000) [hP,hN,j,k,l,b,a,n]<;>try refine Ya ?_)|refine X2 ?_ ?_|(refine Xd ?_ ?_<;>intro hcd<;>try exact Xx))
    all_goals first|(rw[Ax,m (by simp only[mJ]<;>grind)];simp;done)|(rw[hS (by simp only[mJ]<;>grind)];done)
   .have a:¬i<ys.length:=by omega
    refine Gz ?_
    all_goals simp[Ax,c,d,lT b hq]
  .skip
   have g:=gr _ e;refine GT (gA c d) ?_
   all_goals simp[Ax,c,d]
def zT[DecidableEq α](x y:α):Bool:=decide (x=y)
theorem Qh[DecidableEq α]{ys:List α}(a:xs.length=ys.length):ew zT xs ys=decide (xs=ys):=by
 unfold ew
 induction xs generalizing ys with
 |nil=>cases ys<;>simp at a|-
 |cons x xs ih=>cases ys with
  |nil=>simp at a
  |cons y ys=>simp only[List.zipWith_cons_cons,List.all_cons,ih (by simpa using a)];simp[zT,Bool.decide_and]
def qL[DecidableEq α](xs ys:List α):Bool:=decide (xs.length=ys.length)&&ew zT xs ys
def dG(x:Int×Int):Int:=if al x.1 x.2 then wr (x.2-x.1)else 0
def f7(x:Int×Int):Int:=if al x.1 x.2 then(wr (x.1+x.2)).fdiv 2 else 0
def aY(xs:List (Int×Int))(j:Int):Bool:=decide (0<=j)&&au vI xs&&(match xs[j.toNat]? with|some x=>decide (2<=dG x)|none=>false)
def br(xs:List (Int×Int))(j:Int):List (Int×Int):=if aY xs j then(match xs[j.toNat]? with|some x=>xs.set j.toNat (x.1,f7 x)|none=>[])else[]
def bv(xs:List (Int×Int))(j:Int):List (Int×Int):=if aY xs j then(match xs[j.toNat]? with|some x=>xs.set j.toNat (f7 x,x.2)|none=>[])else[]
theorem RK(xs:List (Int×Int))(j:Int)(f:xs.length<=16777216):aL 118 (iv xs) (Z j) (.tup [iv (br xs j),iv (bv xs j),B (aY xs j)]):=by
 refine Dp func118 λC hP hN=>?_;by_cases k:0<=j
 .obtain⟨n,rfl⟩:=yBn k
  by_cases b:n<xs.length
  .cases e:au vI xs with
   |false=>
    have i:=F4 _ (lR f);refine GT (gA b e) ?_
    all_goals simp[br,bv,aY,e]
   |true=>
    have d:=an b;generalize g:xs[n]=x at d;by_cases c:dG x<2
    .have a:=c
     simp only[dG]at a;have i:=F4 _ (lR f);have o:=@Av;refine GT (it b e d g a) ?_
     all_goals simp[br,bv,aY,e,d,Int.not_le.2 c]
    .have a:=c
     simp only[dG]at a;have i:=F4 _ (lR f);have o:=@Av;have p:=@VQ;refine GT (zAa b e d g a (show(16:Int)*xs.length<=281474976710656 by omega) (show(xs.length:Int)<=9223372036854775807 by omega)) ?_
     have l:aY xs (n:Int)=true:=by simp[aY,e,d,Int.not_lt.1 c]
     have m:List.take xs.length (List.map aA xs)=List.map aA xs:=yAu (by simp);simp[br,bv,l,d,m,yBv,f7]
  .skip
   have i:=F4 _ (lR f);refine GT b ?_
   all_goals (have d:xs[n]?=none:=yAf (by omega));simp[br,bv,aY,d]
 .skip
  have i:=F4 _ (lR f);refine GT (gA k (show j<0 by omega)) ?_
  all_goals simp[br,bv,aY,k]
def nx(l:List Int)(n:Nat)(k:Int):Int:=match l[n]? with
 |some x=>lQ x k
 |none=>0
def nn(l:List Int)(n:Nat):Nat:=if n<l.length then n+1 else n
abbrev fV(l:List Int)(n:Nat):List PV:=[zs l,Z n]
theorem Ih(l:List Int):aO prog 33 [.pv (zs l)] [] [] (.box (fV l 0)):=by
 refine Dp func33 λC hP hN=>?_;exact Gy
 all_goals (first|(simp_all;done)|((try simp_all)<;>(try omega)<;>grind))
theorem aP(l:List Int)(n:Nat):nn l n<=n+1:=by unfold nn;split<;>omega
theorem fX(l:List Int)(n:Nat)(k:Int)(c:k≠0)(hn:n<1000000):aO prog 35 [.bx 0,.pv (Z k)] [fV l n] [fV l (nn l n)] (.pv (Z (nx l n k))):=by
 have d:i64.wrap ((n:Int)+1)=(n:Int)+1:=by rw[IntKind.wrap_i64];omega
 have b:i64.wrap (n:Int)=n:=by rw[IntKind.wrap_i64];omega
 refine rd func35 rfl (by kernel_rfl) (by simp[f35]) rfl (by intro i j h;rcases i with _|_|_|i<;>simp_all) ?_;intro C hP hN;simp only[f35]at hN|-;by_cases a:n<l.length
 .skip
  with_reducible repeat' (first|refine Sp.h ?_|((first|refine Wd ?_|refine Ss.h ?_|refine Sc.h (Pw _ _ c) ?_|(refine Sb.h ?_ ?_ ?_<;>(try intro hgd)<;>try exact Xy))<;>simp -implicitDefEqProofs (maxSteps:=2000000) [hP,hN,fV,a,d,b,Nat.not_le.2 a]<;>try refine Ya ?_)|refine X2 ?_ ?_|(refine Xd ?_ ?_<;>intro hcd<;>try exact Xx))
  simp[nn,nx,a]
 .skip
  refine Gz ?_;simp[nn,nx,a]
theorem zU(l:List Int)(n:Nat)(k:Int)(c:0<k)(d:k<1000000)(hn:n<1000000):aO prog 37 [.bx 0,.pv (Z k)] [fV l n] [fV l (nn l n)] (.pv (Z (wr (nx l n (2*k+1)-k)))):=by
 have b:i64.wrap (2*k)=2*k:=by rw[IntKind.wrap_i64];omega
 have a:i64.wrap (2*k+1)=2*k+1:=by rw[IntKind.wrap_i64];omega
 refine rd func37 rfl (by kernel_rfl) (by simp[f37]) rfl (by intro i j h;rcases i with _|_|_|i<;>simp_all) ?_;intro C hP hN;simp only[f37]at hN|-;have e:=fX l n (2*k+1) (by omega) hn;exact GS (be @fV.eq_1 b a)
theorem ar(l:List Int)(n:Nat)(a:0<k)(b:k<4611686018427387904):0<=nx l n k/\nx l n k<k:=by
 unfold nx;split
 .rename_i x _
  have c:-k<x.tmod k:=by have:=yBW x a;omega
  have d:x.tmod k<k:=yBE x a;unfold lQ;split
  .rw[aa (by omega) (by omega)];omega
  .omega
 .omega
def F5(a:Int):Int:=if a=2 then 1 else if a=3 then 2 else if a=4 then 4 else if a=5 then 5 else if a=7 then 0 else 3
theorem Qi{c:Int}(a:0<=c)(b:c<8):∀h,([.int .i64 3,.int .i64 3,.int .i64 1,.int .i64 2,.int .i64 4,.int .i64 5,.int .i64 3,.int .i64 0]:List Value)[c.toNat]'h=.int .i64 (F5 c):=by
 have:c=0\/c=1\/c=2\/c=3\/c=4\/c=5\/c=6\/c=7:=by omega
 rcases this with rfl|rfl|rfl|rfl|rfl|rfl|rfl|rfl<;>(intro h;rfl)
def rI(i:Nat):ByteArray:=⟨#[UInt8.ofNat (97+i)]⟩
abbrev BM:Value:=.string ⟨#[97,98,99,100,101,102,103,104,105,106]⟩
def BN(i:Nat):Operand->AV:=λx=>match x with
 |.tmp 3=>.pv (Z i)
 |.tmp 5=>.pv (Z ((i:Int)+1))
 |_=>.pv (.val BM)
section
variable {dst:Option Nat} {ty:TypeId} {pos:String} {aft:Array Edge} {g:Option (Nat×Bool)} {ρ:Operand->AV}
theorem Qj:bf prog ⟨dst,.slice 9 (.const BM) (some (.tmp 3)) (some (.tmp 5)) none,ty,pos,aft,g⟩ (BN 0)=some (.pv (.val (.string (rI 0))),[]):=by kernel_rfl
theorem Qk:bf prog ⟨dst,.slice 9 (.const BM) (some (.tmp 3)) (some (.tmp 5)) none,ty,pos,aft,g⟩ (BN 1)=some (.pv (.val (.string (rI 1))),[]):=by kernel_rfl
theorem Ql:bf prog ⟨dst,.slice 9 (.const BM) (some (.tmp 3)) (some (.tmp 5)) none,ty,pos,aft,g⟩ (BN 2)=some (.pv (.val (.string (rI 2))),[]):=by kernel_rfl
theorem Uj(i:Nat)(e:i<3)(b:ρ (.const BM)=.pv (.val BM))(c:ρ (.tmp 3)=.pv (Z i))(d:ρ (.tmp 5)=.pv (Z ((i:Int)+1))):
 bf prog ⟨dst,.slice 9 (.const BM) (some (.tmp 3)) (some (.tmp 5)) none,ty,pos,aft,g⟩ ρ=some (.pv (.val (.string (rI i))),[]):=by
 have h:bf prog ⟨dst,.slice 9 (.const BM) (some (.tmp 3)) (some (.tmp 5)) none,ty,pos,aft,g⟩ ρ=bf prog ⟨dst,.slice 9 (.const BM) (some (.tmp 3)) (some (.tmp 5)) none,ty,pos,aft,g⟩ (BN i):=by
  refine rF (by intro _ _ h;cases h) ?_;intro x a;simp[Op.operands]at a;rcases a with rfl|rfl|rfl
  .exact b
  .exact c
  .exact d
 rw[h]
 have:i=0\/i=1\/i=2:=by omega
 rcases this with rfl|rfl|rfl
 .exact Qj
 .exact Qk
 .exact Ql
end
theorem RL(i:Nat)(a:i<3):aV 76 (Z i) (.val (.string (rI i))):=by
 have b:i64.wrap ((i:Int)+1)=(i:Int)+1:=by rw[IntKind.wrap_i64];omega
 refine Dp func76 λC hP hN=>?_;refine GT b ?_;rw[Uj i a rfl (by simp) (by simp)];simp[hP,hN];exact Gy
structure J where
 name:ByteArray
 kind:Int
 parent:Int
 ox:Int
 oy:Int
 oz:Int
 lo:Int
 hi:Int
 w:Int
 sp:Int
 ac:Int
 tq:Int
abbrev bj(j:J):PV:=.val (.agg #[.string j.name,.int .i64 j.kind,.int .i64 j.parent,.int .i64 j.ox,.int .i64 j.oy,.int .i64 j.oz,.int .i64 j.lo,.int .i64 j.hi,.int .i64 j.w,.int .i64 j.sp,.int .i64 j.ac,.int .i64 j.tq])
def sC(l:List Int)(n:Nat):Nat:=nn l (nn l (nn l (nn l n)))
def je(l:List Int)(n i:Nat):Nat:=if 0<i then nn l (nn l (sC l n))else sC l n
def jz(l:List Int)(n:Nat):Int:=F5 (nx l (nn l (nn l n)) 8)
def Ii(l:List Int)(n i:Nat):Int:=if jz l n=0 then 0 else if jz l n=4\/jz l n=5 then wr (wr (-nx l (je l n i) 3)*65536)else wr ((wr (wr (-nx l (je l n i) 5)*65536)).tdiv 8)
def Ij(l:List Int)(n i:Nat):Int:=if jz l n=0 then 0 else if jz l n=4\/jz l n=5 then wr (nx l (nn l (je l n i)) 4*32768)else wr (wr ((wr (wr (1+nx l (nn l (je l n i)) 4)*65536)).tdiv 8)+nx l (nn l (nn l (je l n i))) 3)
def Dc(l:List Int)(n i:Nat):Nat:=if jz l n=0 then je l n i else if jz l n=4\/jz l n=5 then nn l (nn l (je l n i))else nn l (nn l (nn l (je l n i)))
def dP(l:List Int)(n i:Nat):J where
 name:=rI i
 kind:=jz l n
 parent:=if nx l (nn l (nn l (nn l n))) 4=1 then -1 else wr ((i:Int)-1)
 ox:=if 0<i then 131072 else 0
 oy:=if 0<i then wr (wr (nx l (sC l n) 5-2)*32768)else 0
 oz:=if 0<i then wr (wr (nx l (nn l (sC l n)) 3-1)*32768)else 0
 lo:=Ii l n i
 hi:=Ij l n i
 w:=wr (1+nx l n 4)
 sp:=65536
 ac:=wr (65536+nx l (nn l n) 3)
 tq:=327680
theorem UW(l:List Int)(n i:Nat)(c:i<3)(hn:n<900000):aO prog 85 [.bx 0,.pv (Z i)] [fV l n] [fV l (Dc l n i)] (.pv (bj (dP l n i))):=by
 have b:=ar l (nn l (nn l n)) (k:=8) (by decide) (by decide);have d:=aP l n;have e:=aP l (nn l n);have f:=aP l (nn l (nn l n));have g:=aP l (nn l (nn l (nn l n)));have m:=aP l (nn l (nn l (nn l (nn l n))));have o:=aP l (nn l (nn l (nn l (nn l (nn l n)))));have p:=aP l (nn l (nn l (nn l (nn l (nn l (nn l n))))));have q:=aP l (nn l (nn l (nn l (nn l (nn l (nn l (nn l n)))))));have r:=aP l (nn l (nn l (nn l (nn l (nn l (nn l (nn l (nn l n))))))));have a:=Qi b.1 b.2;refine rd func85 rfl (by kernel_rfl) (by simp[f85]) rfl (by intro i j h;rcases i with _|_|_|i<;>simp_all) ?_;intro C hP hN;simp only[f85]at hN|-
 with_reducible repeat' (first|refine Sp.h ?_|((first|refine Ss.h ?_|refine Sc.h (RL i c) ?_|refine Sc.h (fX l _ _ (by decide) (by omega)) ?_|refine Sc.h (zU l _ _ (by decide) (by decide) (by omega)) ?_|(refine Sb.h ?_ ?_ ?_<;>(try intro hgd)<;>try exact Xy))<;>simp -implicitDefEqProofs (maxSteps:=2000000) [hP,hN,fV,a,b.1,b.2])|refine X2 ?_ ?_|(refine Xd ?_ ?_<;>intro hcd<;>try exact Xx))
 all_goals (clear a hP hN d e f g m o p q r b c hn;simp_all[dP,Dc,Ii,Ij,jz,je,sC])
structure Ms where
 link:Int
 mass:Int
 px:Int
 py:Int
 pz:Int
abbrev bN(m:Ms):PV:=.val (.agg #[.int .i64 m.link,.int .i64 m.mass,.int .i64 m.px,.int .i64 m.py,.int .i64 m.pz])
def rJ(l:List Int)(m:Nat):Nat->Nat
 |0=>m
 |i+1=>Dc l (rJ l m i) i
theorem RM(l:List Int)(n i:Nat):je l n i<=n+6:=by
 have a:=aP l n;have b:=aP l (nn l n);have c:=aP l (nn l (nn l n));have d:=aP l (nn l (nn l (nn l n)));have e:=aP l (nn l (nn l (nn l (nn l n))));have f:=aP l (nn l (nn l (nn l (nn l (nn l n)))));unfold je sC;split<;>omega
theorem Qm(l:List Int)(n i:Nat):Dc l n i<=n+9:=by
 have h:=RM l n i;have a:=aP l (je l n i);have b:=aP l (nn l (je l n i));have c:=aP l (nn l (nn l (je l n i)));unfold Dc;split
 .omega
 .split<;>omega
theorem F6(l:List Int)(m i:Nat):rJ l m i<=m+9*i:=by
 induction i with
 |zero=>simp[rJ]
 |succ i ih=>have:=Qm l (rJ l m i) i;simp only[rJ];omega
def zV(l:List Int)(m k:Nat):List J:=(List.range k).map λi=>dP l (rJ l m i) i
theorem Nh(l:List Int)(m k:Nat):(zV l m (k+1)).map bj=(zV l m k).map bj++[bj (dP l (rJ l m k) k)]:=by simp[zV,yBo]
theorem oS(l:List Int)(m k:Nat):(zV l m k).length=k:=by simp[zV]
def nH(l:List Int)(m:Nat):Nat->Nat
 |0=>m
 |i+1=>nn l (nn l (nn l (nn l (nH l m i))))
theorem K0(l:List Int)(m i:Nat):nH l m i<=m+4*i:=by
 induction i with
 |zero=>simp[nH]
 |succ i ih=>
  have a:=aP l (nH l m i);have b:=aP l (nn l (nH l m i));have c:=aP l (nn l (nn l (nH l m i)));have d:=aP l (nn l (nn l (nn l (nH l m i))));simp only[nH];omega
def yS(l:List Int)(m:Nat)(n:Int):Ms where
 link:=nx l m n
 mass:=wr (1+nx l (nn l m) 9000)
 px:=wr (wr (nx l (nn l (nn l m)) 7-3)*32768)
 py:=0
 pz:=wr (wr (nx l (nn l (nn l (nn l m))) 5-2)*32768)
def zW(l:List Int)(m:Nat)(n:Int)(k:Nat):List Ms:=(List.range k).map λi=>yS l (nH l m i) n
theorem Ni(l:List Int)(m:Nat)(n:Int)(k:Nat):(zW l m n (k+1)).map bN=(zW l m n k).map bN++[bN (yS l (nH l m k) n)]:=by simp[zW,yBo]
theorem yT(l:List Int)(m:Nat)(n:Int)(k:Nat):(zW l m n k).length=k:=by simp[zW]
abbrev eR:AV:=.pv (.val (.slice none 0 0))
def rN(l:List Int)(n:Nat):Nat:=(1+nx l n 3).toNat
def rM(l:List Int)(n:Nat):Nat:=rJ l (nn l n) (rN l n)
def rK(l:List Int)(n:Nat):Nat:=(nx l (rM l n) 3).toNat
def im(l:List Int)(n:Nat):List J:=zV l (nn l n) (rN l n)
def nI(l:List Int)(n:Nat):List Ms:=zW l (nn l (rM l n)) (rN l n) (rK l n)
def vw(l:List Int)(n:Nat):Nat:=nH l (nn l (rM l n)) (rK l n)
theorem YT(l:List Int)(n:Nat)(hn:n<100000):aO prog 34 [.bx 0] [fV l n] [fV l (vw l n)] (.pv (.agg [.sl ((im l n).map bj),.sl ((nI l n).map bN)])):=by
 have R:=ar l n (k:=3) (by decide) (by decide)
 have G:i64.wrap (1+nx l n 3)=((rN l n:Nat):Int):=by rw[IntKind.wrap_i64,rN];omega
 have P:rN l n<=3/\0<rN l n:=by unfold rN;omega
 have L:=aP l n;refine rd func34 rfl (by kernel_rfl) (by simp[f34]) rfl (by intro i j h;rcases i with _|_|_|i<;>simp_all) ?_;intro C hP hN;simp only[f34]at hN|-
 with_reducible repeat' (first|refine Sp.h ?_|((first|refine Wd ?_|refine Ss.h ?_|refine Sc.h (fX l n 3 (by decide) (by omega)) ?_|(refine Sb.h ?_ ?_ ?_<;>(try intro hgd)<;>try exact Xy))<;>simp -implicitDefEqProofs (maxSteps:=2000000) [hP,hN,fV,G]<;>try refine Ya ?_)|refine X2 ?_ ?_|(refine Xd ?_ ?_<;>intro hcd<;>try exact Xx))
 refine WP.loopN [20] (rN l n) (λi e=>e.t 0=.ptr (pk 0) 0/\e.t 2=.ptr 2 0/\e.t 3=.ptr 3 0/\e.t 4=.pv (Z (rN l n))/\e.t 5=.pv (Z i)/\
  e.h (pk 0)=some (.box [.pv (zs l),.pv (Z (rJ l (nn l n) i))] false false)/\e.h 2=some (.box [eR,eR] true false)/\e.h 20=none/\e.h 45=none/\e.h 46=none/\
  ((i=0/\e.h 3=some (.box [eR,eR] true false)/\e.h 21=none)\/(0<i/\e.h 3=some (.box [.arr 21 i,eR] true false)/\e.h 21=some (.row 97 12 ((zV l (nn l n) i).map bj) 0)))) (by simp[rJ]) ?_
 rintro i e hi ⟨q,r,s,u,B,hp,g,m,c,a,p⟩;by_cases o:i<rN l n
 .have z:i64.wrap ((i:Int)+1)=(i:Int)+1:=by rw[IntKind.wrap_i64];omega
  have I:=F6 l (nn l n) i;have F:=Nh l (nn l n) i;have hS:rJ l (nn l n) (i+1)=Dc l (rJ l (nn l n) i) i:=rfl;rcases p with⟨f,d,b⟩|⟨f,d,b⟩
  .subst f
   with_reducible repeat' (first|refine Sp.h ?_|((first|refine Wd ?_|refine Ss.h ?_|refine Sc.h (UW l _ 0 (by omega) (by omega)) ?_|(refine Sb.h ?_ ?_ ?_<;>(try intro hgd)<;>try exact Xy))<;>simp -implicitDefEqProofs (maxSteps:=2000000) [hP,hN,q,r,s,u,B,hp,g,m,c,a,d,b,o,z,hS]<;>try refine Ya ?_)|refine X2 ?_ ?_|(refine Xd ?_ ?_<;>intro hcd<;>try exact Xx))
   exact⟨by decide,by simp[zV]⟩
  .have E:=oS l (nn l n) i
   with_reducible repeat' (first|refine Sp.h ?_|((first|refine Wd ?_|refine Ss.h ?_|refine Sc.h (UW l _ i (by omega) (by omega)) ?_|(refine Sb.h ?_ ?_ ?_<;>(try intro hgd)<;>try exact Xy))<;>simp -implicitDefEqProofs (maxSteps:=2000000) [hP,hN,q,r,s,u,B,hp,g,m,c,a,d,b,o,z,hS,E,show(i+1)*104<=140737488355328 by omega,show i<=9223372036854775806 by omega]<;>try refine Ya ?_)|refine X2 ?_ ?_|(refine Xd ?_ ?_<;>intro hcd<;>try exact Xx))
   simp[F]
 .have v:i=rN l n:=by omega
  rcases p with⟨f,_⟩|⟨f,d,b⟩
  .omega
  subst v;have I:=F6 l (nn l n) (rN l n);have Q:=ar l (rM l n) (k:=3) (by decide) (by decide)
  have J:nx l (rJ l (nn l n) (rN l n)) 3=((rK l n:Nat):Int):=by show nx l (rM l n) 3=_;unfold rK;omega
  have K:rK l n<3:=by unfold rK;omega
  have E:=oS l (nn l n) (rN l n);have M:=aP l (rM l n);have O:rM l n<=nn l n+9*rN l n:=I
  with_reducible repeat' (first|refine Sp.h ?_|((first|refine Wd ?_|refine Ss.h ?_|refine Sc.h (fX l _ 3 (by decide) (by omega)) ?_|(refine Sb.h ?_ ?_ ?_<;>(try intro hgd)<;>try exact Xy))<;>simp -implicitDefEqProofs (maxSteps:=2000000) [hP,hN,q,r,s,u,B,hp,g,m,c,a,d,b,o,J]<;>try refine Ya ?_)|refine X2 ?_ ?_|(refine Xd ?_ ?_<;>intro hcd<;>try exact Xx))
  refine WP.loopN [] (rK l n) (λi e=>e.t 0=.ptr (pk 0) 0/\e.t 2=.ptr 2 0/\e.t 3=.ptr 3 0/\e.t 4=.pv (Z (rN l n))/\e.t 6=.pv (Z ((rK l n:Int)-i))/\
   e.h (pk 0)=some (.box [.pv (zs l),.pv (Z (nH l (nn l (rM l n)) i))] false false)/\e.h 2=some (.box [eR,eR] true false)/\e.h 45=none/\e.h 21=some (.row 97 12 ((im l n).map bj) 0)/\
   ((i=0/\e.h 3=some (.box [.arr 21 (rN l n),eR] true false)/\e.h 46=none)\/(0<i/\e.h 3=some (.box [.arr 21 (rN l n),.arr 46 i] true false)/\e.h 46=some (.row 163 5 ((zW l (nn l (rM l n)) (rN l n) i).map bN) 0)))) (by simp[q,r,s,u,g,c,a,d,b,nH,rM,im]) ?_
  clear g m c a d b hp q r s u B;rintro i e hi ⟨q,r,s,u,D,hp,g,c,b,p⟩;by_cases o:i<rK l n
  .have z:i64.wrap ((rK l n:Int)-i-1)=(rK l n:Int)-((i:Int)+1):=by rw[IntKind.wrap_i64];omega
   have x:(0:Int)<(rK l n:Int)-i:=by omega
   have N:=K0 l (nn l (rM l n)) i;have S:=aP l (nH l (nn l (rM l n)) i);have T:=aP l (nn l (nH l (nn l (rM l n)) i));have U:=aP l (nn l (nn l (nH l (nn l (rM l n)) i)));have F:=Ni l (nn l (rM l n)) (rN l n) i;have hS:nH l (nn l (rM l n)) (i+1)=nn l (nn l (nn l (nn l (nH l (nn l (rM l n)) i)))):=rfl
   have y:((rN l n:Nat):Int)≠0:=by omega
   rcases p with⟨f,d,a⟩|⟨f,d,a⟩
   .subst f
    with_reducible repeat' (first|refine Sp.h ?_|((first|refine Wd ?_|refine Ss.h ?_|refine Sc.h (fX l _ _ y (by omega)) ?_|refine Sc.h (fX l _ _ (by decide) (by omega)) ?_|refine Sc.h (zU l _ _ (by decide) (by decide) (by omega)) ?_|(refine Sb.h ?_ ?_ ?_<;>(try intro hgd)<;>try exact Xy))<;>simp -implicitDefEqProofs (maxSteps:=2000000) [hP,hN,q,r,s,u,D,hp,g,c,a,d,b,o,z,x,hS]<;>try refine Ya ?_)|refine X2 ?_ ?_|(refine Xd ?_ ?_<;>intro hcd<;>try exact Xx))
    exact⟨by rw[IntKind.wrap_i64];omega,by simp[zW,yS,nH]⟩
   .have E:=yT l (nn l (rM l n)) (rN l n) i
    with_reducible repeat' (first|refine Sp.h ?_|((first|refine Wd ?_|refine Ss.h ?_|refine Sc.h (fX l _ _ y (by omega)) ?_|refine Sc.h (fX l _ _ (by decide) (by omega)) ?_|refine Sc.h (zU l _ _ (by decide) (by decide) (by omega)) ?_|(refine Sb.h ?_ ?_ ?_<;>(try intro hgd)<;>try exact Xy))<;>simp -implicitDefEqProofs (maxSteps:=2000000) [hP,hN,q,r,s,u,D,hp,g,c,a,d,b,o,z,x,hS,E,show(i+1)*40<=140737488355328 by omega,show i<=9223372036854775806 by omega]<;>try refine Ya ?_)|refine X2 ?_ ?_|(refine Xd ?_ ?_<;>intro hcd<;>try exact Xx))
    simp[F,yS]
  .have v:i=rK l n:=by omega
   subst v;have A:(im l n).length=rN l n:=oS l (nn l n) (rN l n);have H:=yT l (nn l (rM l n)) (rN l n) (rK l n);rcases p with⟨f,d,a⟩|⟨f,d,a⟩
   .skip
    refine GT (zAd q r s u D hp g c a d b (gA f A)) ?_
    all_goals simp[vw,nI,f,zW]
   .skip
    refine GT (zAd q r s u D hp g c a d b (gA A H)) ?_
    all_goals simp[vw,nI]
abbrev gH(js:List J)(ms:List Ms):PV:=.agg [.sl (js.map bj),.sl (ms.map bN)]
def Fc(l:List Int)(m:Nat):Nat:=if nx l m 6=0 then nn l m else if nx l m 6=1 then nn l m else nn l (nn l m)
def qq(l:List Int):Nat->Nat
 |0=>0
 |i+1=>Fc l (qq l i)
theorem RN(l:List Int)(i:Nat):qq l i<=2*i:=by
 induction i with
 |zero=>simp[qq]
 |succ i ih=>
  have a:=aP l (qq l i);have b:=aP l (nn l (qq l i));simp only[qq,Fc];split
  .omega
  .split<;>omega
def JL(l:List Int)(m:Nat)(lo hi:Int):Int:=if nx l m 6=0 then lo else if nx l m 6=1 then hi else wr (lo+nx l (nn l m) (hi-lo+1))
def ie(l:List Int)(js:List J):List Int:=js.mapIdx λi j=>JL l (qq l i) j.lo j.hi
def wu(j:J):Prop:=-1000000<=j.lo/\j.lo<=j.hi/\j.hi<=1000000
theorem Nj{l:List Int}{js:List J}(a:i<js.length):((ie l js).map Z).take i++[Z (JL l (qq l i) js[i].lo js[i].hi)]=((ie l js).map Z).take (i+1):=by
 rw[yAP (by simpa[ie]using a)];simp[ie]
theorem K1(l:List Int)(js:List J)(ms:List Ms)(x:js.length<=1000)(s:∀j∈js,wu j):aL 18 (gH js ms) (zs l) (zs (ie l js)):=by
 refine Dp func18 λC hP hN=>?_;have A:=@Ih;refine rG [6] @fV.eq_1 ?_
 refine WP.loopN [] js.length (λi c=>c.t 2=.ptr 2 0/\c.t 5=.ptr 11 0/\c.t 6=.arr 6 i/\c.t 7=.pv (Z i)/\c.h 2=some (.box [.pv (.sl (js.map bj)),.pv (.sl (ms.map bN))] true false)/\
  c.h 11=some (.box [.pv (zs l),.pv (Z (qq l i))] true false)/\c.h 6=some (.row 2 1 (((ie l js).map Z).take i) 0)) (by simp[qq]) ?_
 rintro i c hi ⟨n,o,p,q,d,a,e⟩
 have m:min i (ie l js).length=i:=by simp[ie];omega
 by_cases b:i<js.length
 .have v:i64.wrap ((i:Int)+1)=(i:Int)+1:=by rw[IntKind.wrap_i64];omega
  have y:=RN l i;have z:=aP l (qq l i);have u:=Nj (l:=l) b;have f:=s js[i] (yAq b)
  have g:i64.wrap (js[i].hi-js[i].lo)=js[i].hi-js[i].lo:=by unfold wu at f;rw[IntKind.wrap_i64];omega
  have k:i64.wrap (js[i].hi-js[i].lo+1)=js[i].hi-js[i].lo+1:=by unfold wu at f;rw[IntKind.wrap_i64];omega
  have hS:qq l (i+1)=Fc l (qq l i):=rfl
  have r:js[i].hi-js[i].lo+1≠0:=by unfold wu at f;omega
  with_reducible repeat' (first|refine Sp.h ?_|((first|refine Wd ?_|refine Ss.h ?_|refine Sc.h (fX l _ 6 (by decide) (by omega)) ?_|refine Sc.h (fX l _ _ r (by omega)) ?_|(refine Sb.h ?_ ?_ ?_<;>(try intro hgd)<;>try exact Xy))<;>simp -implicitDefEqProofs (maxSteps:=2000000) [hP,hN,n,o,p,q,d,a,e,m,b,v,g,k,hS,show(i+1)*8<=140737488355328 by omega,show i<=9223372036854775806 by omega]<;>try refine Ya ?_)|refine X2 ?_ ?_|(refine Xd ?_ ?_<;>intro hcd<;>try exact Xx))
  all_goals (rw[<-u];clear u s d a e n o p q hP hN g k v hS;simp_all[Fc,JL])
 .skip
  refine GT (zAb n o p q d a e (gA m b)) ?_;exact xj (by simp[ie]) b
theorem F7(l:List Int)(n i:Nat):wu (dP l n i)/\(dP l n i).lo<=0/\0<=(dP l n i).hi:=by
 have o:=ar l (je l n i) (k:=3) (by decide) (by decide);have p:=ar l (je l n i) (k:=5) (by decide) (by decide);have d:=ar l (nn l (je l n i)) (k:=4) (by decide) (by decide);have e:=ar l (nn l (nn l (je l n i))) (k:=3) (by decide) (by decide)
 have j:-1000000<=Ii l n i/\Ii l n i<=0:=by
  unfold Ii;generalize nx l (je l n i) 3=a at *;generalize nx l (je l n i) 5=b at *;split
  .omega
  .split
   .simp only[wr,IntKind.wrap_i64];omega
   .have:b=0\/b=1\/b=2\/b=3\/b=4:=by omega
    rcases this with rfl|rfl|rfl|rfl|rfl<;>decide
 have g:0<=Ij l n i/\Ij l n i<=1000000:=by
  unfold Ij;generalize nx l (nn l (je l n i)) 4=a at *;generalize nx l (nn l (nn l (je l n i))) 3=b at *;split
  .omega
  .split
   .simp only[wr,IntKind.wrap_i64];omega
   .have f:∀c:Int,0<=c->c<4->0<=wr ((wr (wr (1+c)*65536)).tdiv 8)/\wr ((wr (wr (1+c)*65536)).tdiv 8)<=32768:=by
     intro c m e
     have:c=0\/c=1\/c=2\/c=3:=by omega
     rcases this with rfl|rfl|rfl|rfl<;>decide
    have:=f a d.1 d.2;rw[aa (n:=wr ((wr (wr (1+a)*65536)).tdiv 8)+b) (by omega) (by omega)];omega
 simp only[wu,dP];omega
theorem RO(l:List Int)(n:Nat):∀j∈im l n,wu j:=by
 intro j a;simp only[im,zV,yAt]at a;obtain⟨i,_,rfl⟩:=a;exact(F7 l _ i).1
theorem yU(l:List Int)(n:Nat):(im l n).length<=3/\0<(im l n).length:=by
 have a:=ar l n (k:=3) (by decide) (by decide);rw[im,oS,rN];omega
theorem zX(x:Int)(b:0<k)(a:k<4611686018427387904):0<=lQ x k/\lQ x k<k:=by
 have:=ar [x] 0 b a;simpa[nx]using this
theorem Dd{P:Program}(d:Nat)(t:TypeId)(a b:Bool)(h:P.underlying t=some .bool):aj P (Op.equalIn (d+1) t (.bool a) (.bool b))=some (a==b):=by
 simp only[Op.equalIn,ae,jy h,yAg];rfl
def yV(x y:AV):Option (Bool×Bool):=match x,y with
 |.pv (.val (.bool a)),.pv (.val (.bool b))=>some (a,b)
 |_,_=>none
def Nk(x y:AV)(c:Option bF):Option bF:=match yV x y with
 |some (a,b)=>some (.pv (.val (.bool (a==b))),[])
 |none=>c
@[simp] theorem UX(a b:Bool)(c:Option bF):Nk (.pv (.val (.bool a))) (.pv (.val (.bool b))) c=some (.pv (.val (.bool (a==b))),[]):=rfl
@[simp] theorem YU{ty:TypeId}{pos:String}{g:Option (Nat×Bool)}(x y:Operand):
 bf prog ⟨dst,.binOp .eql 4 x y 4,ty,pos,aft,g⟩ ρ=Nk (ρ x) (ρ y) (gk prog ⟨dst,.binOp .eql 4 x y 4,ty,pos,aft,g⟩ ρ):=by
 unfold Nk;split
 .rename_i a b h
  unfold yV at h;split at h
  .rename_i c d i j
   injection h with h;injection h with e f;subst e;subst f;refine dq (by simp[Op.operands,i,j,dV]) ?_;unfold execOp;simp only[(bg i).2,(bg j).2]
   have e:aj prog (eqGuard .eql 4 x y (.bool c) (.bool d))=some ():=by kernel_rfl
   have f:aj prog (binOp .eql 4 (.bool c) (.bool d))=some (.bool (c==d)):=by
    simp only[binOp,ae];rw[show aj prog (Op.equal 4 (.bool c) (.bool d))=some (c==d) from Dd 9999 4 c d Tryz.underlying4];rfl
   simp only[ae,e,f,yAg];rfl
  .cases h
 .rfl
theorem VW(f:FuncId)(p:Int×Int->Int->Bool)(xs:List (Int×Int))(ys:List (Int))(s:xs.length<=9223372036854775807)(hf:∀a b,aO prog f [.pv (aA a),.pv (Z b)] [] [] (.pv (B (p a b)))):jQ 191 (.sl (xs.map aA)) (.sl (ys.map Z)) (Fv f) (B (decide (xs.length=ys.length)&&ew p xs ys)):=by
 refine Dp func191 λC hP hN=>?_;by_cases l:xs.length=ys.length
 .skip
  refine Gz ?_;refine WP.loopN [8] xs.length (λi e=>e.t 0=.pv (.sl (xs.map aA))/\e.t 1=.pv (.sl (ys.map Z))/\e.t 2=.pv (Fv f)/\e.t 14=.pv (.sl (xs.map aA))/\e.t 15=.pv (Z xs.length)/\e.t 16=.pv (Z i)/\e.h 8=none/\fS p xs ys i=true) (by simp[fS,l]) ?_;rintro i e hi ⟨m,n,o,g,j,k,r,hq⟩;by_cases c:i<xs.length
  .have u:=ai c s
   have d:i<ys.length:=by omega
   have q:p xs[i] ys[i]=false->ew p xs ys=false:=ku c d;have hS:p xs[i] ys[i]=true->fS p xs ys (i+1)=true:=lS c d hq
   with_reducible repeat' (first|refine Sp.h ?_|((first|refine Wd ?_|refine Ss.h ?_|refine Sc.h (hf _ _) ?_|(refine Sb.h ?_ ?_ ?_<;>(try intro hgd)<;>try exact Xy))<;>simp -implicitDefEqProofs (maxSteps:=2000000) [hP,hN,m,n,o,g,j,k,r,c,d,u]<;>try refine Ya ?_)|refine X2 ?_ ?_|(refine Xd ?_ ?_<;>intro hcd<;>try exact Xx))
   all_goals first|exact q (by simpa using hcd)|simpa using hS (by simpa using hcd)
  .skip
   refine Gz ?_
   all_goals simp[l,lT c hq]
 .skip
  exact Gy
  all_goals simp[l]
theorem VX(f:FuncId)(p:Int×Int->Int×Int->Bool)(xs:List (Int×Int))(ys:List (Int×Int))(s:xs.length<=9223372036854775807)(hf:∀a b,aO prog f [.pv (aA a),.pv (aA b)] [] [] (.pv (B (p a b)))):jQ 259 (.sl (xs.map aA)) (.sl (ys.map aA)) (Fv f) (B (decide (xs.length=ys.length)&&ew p xs ys)):=by
 refine Dp func259 λC hP hN=>?_;by_cases l:xs.length=ys.length
 .skip
  refine Gz ?_;refine WP.loopN [8] xs.length (λi e=>e.t 0=.pv (.sl (xs.map aA))/\e.t 1=.pv (.sl (ys.map aA))/\e.t 2=.pv (Fv f)/\e.t 14=.pv (.sl (xs.map aA))/\e.t 15=.pv (Z xs.length)/\e.t 16=.pv (Z i)/\e.h 8=none/\fS p xs ys i=true) (by simp[fS,l]) ?_;rintro i e hi ⟨m,n,o,g,j,k,r,hq⟩;by_cases c:i<xs.length
  .have u:=ai c s
   have d:i<ys.length:=by omega
   have q:p xs[i] ys[i]=false->ew p xs ys=false:=ku c d;have hS:p xs[i] ys[i]=true->fS p xs ys (i+1)=true:=lS c d hq
   with_reducible repeat' (first|refine Sp.h ?_|((first|refine Wd ?_|refine Ss.h ?_|refine Sc.h (hf _ _) ?_|(refine Sb.h ?_ ?_ ?_<;>(try intro hgd)<;>try exact Xy))<;>simp -implicitDefEqProofs (maxSteps:=2000000) [hP,hN,m,n,o,g,j,k,r,c,d,u]<;>try refine Ya ?_)|refine X2 ?_ ?_|(refine Xd ?_ ?_<;>intro hcd<;>try exact Xx))
   all_goals first|exact q (by simpa using hcd)|simpa using hS (by simpa using hcd)
  .skip
   refine Gz ?_
   all_goals simp[l,lT c hq]
 .skip
  exact Gy
  all_goals simp[l]
theorem VY(f:FuncId)(g:J->Int×Int)(xs:List (J))(s:xs.length<=16777216)(hf:∀a,aO prog f [.pv (bj a)] [] [] (.pv (aA (g a)))):aL 113 (.sl (xs.map bj)) (Fv f) (.sl ((xs.map g).map aA)):=by
 refine Dp func113 λC hP hN=>?_;refine GT (be s (show(16:Int)*xs.length<=281474976710656 by omega) (show(xs.length:Int)<=9223372036854775807 by omega)) ?_
 refine WP.loopN [7] xs.length (λi c=>c.t 0=.pv (.sl (xs.map bj))/\c.t 1=.pv (Fv f)/\c.t 5=.arr 10 xs.length/\c.t 11=.pv (.sl (xs.map bj))/\c.t 12=.pv (Z xs.length)/\c.t 13=.pv (Z i)/\c.h 7=none/\
  ∃L,c.h 10=some (.row 99 2 L 0)/\L.length=xs.length/\∀j,j<i->L[j]?=((xs.map g).map aA)[j]?) (by simp) ?_
 rintro i c hi ⟨n,o,p,e,k,l,r,L,hL,d,hq⟩
 have q:L.length=((xs.map g).map aA).length:=by simp[d]
 by_cases b:i<xs.length
 .have u:=ai b (lR s)
  have m:i<L.length:=by omega
  with_reducible repeat' (first|refine Sp.h ?_|((first|refine Ss.h ?_|refine Sc.h (hf _) ?_|(refine Sb.h ?_ ?_ ?_<;>(try intro hgd)<;>try exact Xy))<;>simp -implicitDefEqProofs (maxSteps:=2000000) [hP,hN,n,o,p,e,k,l,r,hL,d,b,m,u])|refine X2 ?_ ?_|(refine Xd ?_ ?_<;>intro hcd<;>try exact Xx))
  simpa using Nf q hq (v:=aA (g xs[i])) (by simp[b])
 .skip
  refine GT (zAc n o p e k l r hL d b) ?_;simpa using Ng q hq (by simp;omega)
theorem VZ(a:Int×Int)(b:Int):aO prog 192 [.pv (aA a),.pv (Z b)] [] [] (.pv (B (mJ a b))):=RG a.1 a.2 b
def oT(xs:List (Int×Int)):List Int:=if au vI xs then xs.map f7 else[]
def aR(xs:List (Int×Int))(ys:List Int):Bool:=decide (xs.length=ys.length)&&ew mJ xs ys
def oV(xs ys:List (Int×Int)):Bool:=decide (xs.length=ys.length)&&ew eE xs ys
def ig(x y:Int×Int):Bool:=al x.1 x.2&&al y.1 y.2&&decide (max x.1 y.1<=min x.2 y.2)
def dH(xs ys:List (Int×Int)):Bool:=decide (xs.length=ys.length)&&ew ig xs ys
theorem Ay(xs:List (Int×Int))(ys:List Int)(a:xs.length<=9223372036854775807):aL 115 (iv xs) (zs ys) (B (aR xs ys)):=by
 refine Dp func115 λC hP hN=>?_
 with_reducible repeat' (first|refine Sp.h ?_|((first|refine Ss.h ?_|refine Sc.h (VW _ mJ _ _ a VZ) ?_|(refine Sb.h ?_ ?_ ?_<;>(try intro hgd)<;>try exact Xy))<;>simp -implicitDefEqProofs (maxSteps:=2000000) [hP,hN])|refine X2 ?_ ?_|(refine Xd ?_ ?_<;>intro hcd<;>try exact Xx))
 all_goals (first|(simp_all[aR];done)|((try simp_all[aR])<;>(try omega)<;>grind))
theorem V0(x y:Int×Int):aL 260 (aA x) (aA y) (B (ig x y)):=by
 refine Dp func260 λC hP hN=>?_
 cases h:ig x y with
 |true=>
  have a:(al x.1 x.2&&al y.1 y.2&&decide (max x.1 y.1<=min x.2 y.2))=true:=h;have b:=@RH;exact GS a
 |false=>
  have a:(al x.1 x.2&&al y.1 y.2&&decide (max x.1 y.1<=min x.2 y.2))=false:=h;have b:=@RH;exact GS a
theorem RP(xs ys:List (Int×Int))(a:xs.length<=9223372036854775807):aL 203 (iv xs) (iv ys) (B (dH xs ys)):=by
 refine Dp func203 λC hP hN=>?_
 with_reducible repeat' (first|refine Sp.h ?_|((first|refine Ss.h ?_|refine Sc.h (VX _ ig _ _ a V0) ?_|(refine Sb.h ?_ ?_ ?_<;>(try intro hgd)<;>try exact Xy))<;>simp -implicitDefEqProofs (maxSteps:=2000000) [hP,hN])|refine X2 ?_ ?_|(refine Xd ?_ ?_<;>intro hcd<;>try exact Xx))
 all_goals (first|(simp_all[dH];done)|((try simp_all[dH])<;>(try omega)<;>grind))
end Go.Ab
