/- The contracts and facts that the laws of this seat need, in one text (Ty, CfA). -/
import Derived.Test.YtidomjacfogjlaaGreatU3
import Derived.Test.YtidomjacfogjlaaGreatProg
set_option linter.all false
set_option maxRecDepth 10000
set_option maxHeartbeats 16000000
namespace Go.Ab
open IntKind (i64)
open Go.Proofs.Tryz
open Go.Proofs
variable {aft:Array Edge}{dst:Option Nat}{g:Option (Nat×Bool)}{i:Nat}{k:Int}{α β:Type}{ρ:Operand->AV}{f:α->β->Bool}{p:α->Bool}{xs:List α}{ys:List β}
abbrev BA(f:FuncId)(r:PV):Prop:=aP prog f [] [] [] (.pv r)
abbrev aR(f:FuncId)(a r:PV):Prop:=aP prog f [.pv a] [] [] (.pv r)
abbrev aK(f:FuncId)(a b r:PV):Prop:=aP prog f [.pv a,.pv b] [] [] (.pv r)
abbrev kY(f:FuncId)(a b c r:PV):Prop:=aP prog f [.pv a,.pv b,.pv c] [] [] (.pv r)
abbrev BB(f:FuncId)(a b c d r:PV):Prop:=aP prog f [.pv a,.pv b,.pv c,.pv d] [] [] (.pv r)
abbrev xF(f:FuncId)(a b c d e r:PV):Prop:=aP prog f [.pv a,.pv b,.pv c,.pv d,.pv e] [] [] (.pv r)
abbrev HN(f:FuncId)(a b c d e g r:PV):Prop:=aP prog f [.pv a,.pv b,.pv c,.pv d,.pv e,.pv g] [] [] (.pv r)
abbrev Tw(f:FuncId)(a b c d e g h r:PV):Prop:=aP prog f [.pv a,.pv b,.pv c,.pv d,.pv e,.pv g,.pv h] [] [] (.pv r)
@[simp] theorem W9:af prog 2=some ⟨1,(some (.int .i64 0)),.one⟩/\dN prog 2=some .i64/\af prog 3=some ⟨1,(some (.int .i64 0)),.one⟩/\dN prog 3=some .i64/\af prog 4=some ⟨1,(some (.bool false)),.one⟩/\af prog 5=some ⟨1,(some (.int .u8 0)),.one⟩/\dN prog 5=some .u8/\af prog 6=some ⟨1,(some (.int .u8 0)),.one⟩/\dN prog 6=some .u8/\af prog 7=some ⟨4,(some (.agg #[.int .i64 0,.int .i64 0,.bool false,.int .u8 0])),.struct [(0,1),(1,1),(2,1),(3,1)]⟩/\af prog 8=some ⟨4,(some (.agg #[.int .i64 0,.int .i64 0,.bool false,.int .u8 0])),.struct [(0,1),(1,1),(2,1),(3,1)]⟩/\af prog 9=some ⟨1,(some (.string ByteArray.empty)),.one⟩/\gG prog 9=some none/\af prog 10=some ⟨1,(some (.string ByteArray.empty)),.one⟩/\gG prog 10=some none/\af prog 11=some ⟨1,(some (.string ByteArray.empty)),.one⟩/\gG prog 11=some none/\af prog 12=some ⟨1,(some (.int .u64 0)),.one⟩/\dN prog 12=some .u64/\af prog 13=some ⟨2,(some (.agg #[.string ByteArray.empty,.int .u64 0])),.struct [(0,1),(1,1)]⟩/\af prog 14=some ⟨2,(some (.agg #[.string ByteArray.empty,.int .u64 0])),.struct [(0,1),(1,1)]⟩/\af prog 15=some ⟨1,(some (.pointer none)),.one⟩/\af prog 16=some ⟨1,(some (.pointer none)),.one⟩/\af prog 17=some ⟨1,(some (.pointer none)),.one⟩/\af prog 18=some ⟨1,(some (.agg #[.pointer none])),.struct [(0,1)]⟩/\af prog 19=some ⟨1,(some (.agg #[.pointer none])),.struct [(0,1)]⟩/\af prog 21=some ⟨1,(some (.int .i32 0)),.one⟩/\dN prog 21=some .i32/\af prog 22=some ⟨1,(some (.slice none 0 0)),.slice 97 12 104 (some (.agg #[.string ByteArray.empty,.int .i64 0,.int .i64 0,.int .i64 0,.int .i64 0,.int .i64 0,.int .i64 0,.int .i64 0,.int .i64 0,.int .i64 0,.int .i64 0,.int .i64 0]))⟩/\af prog 23=some ⟨1,(some (.slice none 0 0)),.slice 163 5 40 (some (.agg #[.int .i64 0,.int .i64 0,.int .i64 0,.int .i64 0,.int .i64 0]))⟩/\af prog 24=some ⟨2,(some (.agg #[.slice none 0 0,.slice none 0 0])),.struct [(0,1),(1,1)]⟩/\af prog 25=some ⟨2,(some (.agg #[.slice none 0 0,.slice none 0 0])),.struct [(0,1),(1,1)]⟩/\af prog 26=some ⟨1,(some (.slice none 0 0)),.slice 86 3 40 (some (.agg #[.int .i64 0,.int .i64 0,.slice none 0 0]))⟩/\af prog 27=some ⟨1,(some (.slice none 0 0)),.slice 94 2 16 (some (.agg #[.int .i64 0,.int .i64 0]))⟩/\af prog 28=some ⟨4,(some (.agg #[.slice none 0 0,.slice none 0 0,.slice none 0 0,.slice none 0 0])),.struct [(0,2),(2,1),(3,1)]⟩/\af prog 29=some ⟨4,(some (.agg #[.slice none 0 0,.slice none 0 0,.slice none 0 0,.slice none 0 0])),.struct [(0,2),(2,1),(3,1)]⟩/\af prog 30=some ⟨1,(some (.slice none 0 0)),.slice 99 2 16 (some (.agg #[.int .i64 0,.int .i64 0]))⟩/\af prog 31=some ⟨1,(some (.slice none 0 0)),.slice 80 8 112 (some (.agg #[.int .i64 0,.int .i64 0,.int .i64 0,.int .i64 0,.slice none 0 0,.int .i64 0,.slice none 0 0,.slice none 0 0]))⟩/\af prog 32=some ⟨2,(some (.agg #[.slice none 0 0,.slice none 0 0])),.struct [(0,1),(1,1)]⟩/\af prog 33=some ⟨2,(some (.agg #[.slice none 0 0,.slice none 0 0])),.struct [(0,1),(1,1)]⟩:=by repeat' (first|kernel_rfl|refine ⟨by kernel_rfl,?_⟩)
@[simp] theorem NG:af prog 34=some ⟨1,(some (.slice none 0 0)),.slice 3 1 8 (some (.int .i64 0))⟩:=by kernel_rfl
@[simp] theorem WD:af prog 49=some ⟨1,(some (.slice none 0 0)),.slice 2 1 8 (some (.int .i64 0))⟩/\af prog 55=some ⟨1,(some (.slice none 0 0)),.slice 49 1 24 (some (.slice none 0 0))⟩/\af prog 57=some ⟨1,(some (.slice none 0 0)),.slice 121 2 48 (some (.agg #[.slice none 0 0,.slice none 0 0]))⟩/\af prog 58=some ⟨2,(some (.agg #[.slice none 0 0,.slice none 0 0])),.struct [(0,1),(1,1)]⟩/\af prog 59=some ⟨2,(some (.agg #[.slice none 0 0,.slice none 0 0])),.struct [(0,1),(1,1)]⟩/\af prog 60=some ⟨1,(some (.int .i64 0)),.one⟩/\dN prog 60=some .i64/\af prog 66=some ⟨4,(some (.agg #[.int .i64 0,.int .i64 0,.int .i64 0,.int .i64 0])),.struct [(0,1),(1,1),(2,1),(3,1)]⟩/\af prog 74=some ⟨1,(some (.slice none 0 0)),.slice 84 3 24 (some (.agg #[.int .i64 0,.int .i64 0,.int .i64 0]))⟩/\af prog 75=some ⟨3,(some (.agg #[.int .i64 0,.slice none 0 0,.slice none 0 0])),.struct [(0,1),(1,1),(2,1)]⟩/\af prog 76=some ⟨3,(some (.agg #[.int .i64 0,.slice none 0 0,.slice none 0 0])),.struct [(0,1),(1,1),(2,1)]⟩/\af prog 77=some ⟨5,(some (.agg #[.int .i64 0,.slice none 0 0,.int .i64 0,.slice none 0 0,.slice none 0 0])),.struct [(0,1),(1,1),(2,3)]⟩/\af prog 78=some ⟨5,(some (.agg #[.int .i64 0,.slice none 0 0,.int .i64 0,.slice none 0 0,.slice none 0 0])),.struct [(0,1),(1,1),(2,3)]⟩/\af prog 79=some ⟨8,(some (.agg #[.int .i64 0,.int .i64 0,.int .i64 0,.int .i64 0,.slice none 0 0,.int .i64 0,.slice none 0 0,.slice none 0 0])),.struct [(0,1),(1,1),(2,1),(3,5)]⟩/\af prog 80=some ⟨8,(some (.agg #[.int .i64 0,.int .i64 0,.int .i64 0,.int .i64 0,.slice none 0 0,.int .i64 0,.slice none 0 0,.slice none 0 0])),.struct [(0,1),(1,1),(2,1),(3,5)]⟩/\af prog 83=some ⟨3,(some (.agg #[.int .i64 0,.int .i64 0,.int .i64 0])),.array 3 1⟩/\gG prog 83=some (some 3)/\af prog 84=some ⟨3,(some (.agg #[.int .i64 0,.int .i64 0,.int .i64 0])),.array 3 1⟩/\gG prog 84=some (some 3)/\af prog 85=some ⟨3,(some (.agg #[.int .i64 0,.int .i64 0,.slice none 0 0])),.struct [(0,1),(1,1),(2,1)]⟩/\af prog 86=some ⟨3,(some (.agg #[.int .i64 0,.int .i64 0,.slice none 0 0])),.struct [(0,1),(1,1),(2,1)]⟩/\af prog 87=some ⟨1,(some (.pointer none)),.one⟩/\af prog 93=some ⟨2,(some (.agg #[.int .i64 0,.int .i64 0])),.struct [(0,1),(1,1)]⟩/\af prog 94=some ⟨2,(some (.agg #[.int .i64 0,.int .i64 0])),.struct [(0,1),(1,1)]⟩/\af prog 96=some ⟨12,(some (.agg #[.string ByteArray.empty,.int .i64 0,.int .i64 0,.int .i64 0,.int .i64 0,.int .i64 0,.int .i64 0,.int .i64 0,.int .i64 0,.int .i64 0,.int .i64 0,.int .i64 0])),.struct [(0,1),(1,1),(2,1),(3,3),(6,1),(7,1),(8,1),(9,1),(10,1),(11,1)]⟩/\af prog 97=some ⟨12,(some (.agg #[.string ByteArray.empty,.int .i64 0,.int .i64 0,.int .i64 0,.int .i64 0,.int .i64 0,.int .i64 0,.int .i64 0,.int .i64 0,.int .i64 0,.int .i64 0,.int .i64 0])),.struct [(0,1),(1,1),(2,1),(3,3),(6,1),(7,1),(8,1),(9,1),(10,1),(11,1)]⟩/\af prog 98=some ⟨2,(some (.agg #[.int .i64 0,.int .i64 0])),.struct [(0,1),(1,1)]⟩/\af prog 99=some ⟨2,(some (.agg #[.int .i64 0,.int .i64 0])),.struct [(0,1),(1,1)]⟩/\af prog 114=some ⟨1,(some (.slice none 0 0)),.slice 30 1 24 (some (.slice none 0 0))⟩/\af prog 119=some ⟨1,(some (.slice none 0 0)),.slice 268 3 40 (some (.agg #[.int .i64 0,.int .i64 0,.slice none 0 0]))⟩/\af prog 120=some ⟨2,(some (.agg #[.slice none 0 0,.slice none 0 0])),.struct [(0,1),(1,1)]⟩/\af prog 121=some ⟨2,(some (.agg #[.slice none 0 0,.slice none 0 0])),.struct [(0,1),(1,1)]⟩/\af prog 126=some ⟨1,(some (.slice none 0 0)),.slice 4 1 1 (some (.bool false))⟩/\af prog 127=some ⟨2,(some (.agg #[.slice none 0 0,.slice none 0 0])),.struct [(0,1),(1,1)]⟩/\af prog 128=some ⟨2,(some (.agg #[.slice none 0 0,.slice none 0 0])),.struct [(0,1),(1,1)]⟩/\af prog 134=some ⟨2,(some (.agg #[.int .i64 0,.int .i64 0])),.struct [(0,1),(1,1)]⟩/\af prog 142=some ⟨1,(some (.slice none 0 0)),.slice 148 2 32 (some (.agg #[.slice none 0 0,.int .i64 0]))⟩/\af prog 146=some ⟨1,(some (.slice none 0 0)),.slice 281 6 48 (some (.agg #[.int .i64 0,.int .i64 0,.int .i64 0,.int .i64 0,.int .i64 0,.int .i64 0]))⟩/\af prog 147=some ⟨2,(some (.agg #[.slice none 0 0,.int .i64 0])),.struct [(0,1),(1,1)]⟩/\af prog 148=some ⟨2,(some (.agg #[.slice none 0 0,.int .i64 0])),.struct [(0,1),(1,1)]⟩/\af prog 150=some ⟨1,(some (.pointer none)),.one⟩:=by repeat' (first|kernel_rfl|refine ⟨by kernel_rfl,?_⟩)
@[simp] theorem Ol:af prog 153=some ⟨1,(some (.slice none 0 0)),.slice 34 1 24 (some (.slice none 0 0))⟩:=by kernel_rfl
@[simp] theorem Uh:af prog 154=some ⟨5,(some (.agg #[.slice none 0 0,.slice none 0 0,.slice none 0 0,.slice none 0 0,.slice none 0 0])),.struct [(0,2),(2,1),(3,1),(4,1)]⟩/\af prog 155=some ⟨5,(some (.agg #[.slice none 0 0,.slice none 0 0,.slice none 0 0,.slice none 0 0,.slice none 0 0])),.struct [(0,2),(2,1),(3,1),(4,1)]⟩/\af prog 159=some ⟨2,(some (.agg #[.slice none 0 0,.int .i64 0])),.struct [(0,1),(1,1)]⟩/\af prog 160=some ⟨2,(some (.agg #[.slice none 0 0,.int .i64 0])),.struct [(0,1),(1,1)]⟩/\af prog 162=some ⟨5,(some (.agg #[.int .i64 0,.int .i64 0,.int .i64 0,.int .i64 0,.int .i64 0])),.struct [(0,1),(1,1),(2,3)]⟩/\af prog 163=some ⟨5,(some (.agg #[.int .i64 0,.int .i64 0,.int .i64 0,.int .i64 0,.int .i64 0])),.struct [(0,1),(1,1),(2,3)]⟩/\af prog 187=some ⟨3,(some (.agg #[.int .i64 0,.slice none 0 0,.slice none 0 0])),.struct [(0,3)]⟩/\af prog 188=some ⟨3,(some (.agg #[.int .i64 0,.slice none 0 0,.slice none 0 0])),.struct [(0,3)]⟩/\af prog 189=some ⟨1,(some (.slice none 0 0)),.slice 191 3 40 (some (.agg #[.int .i64 0,.int .i64 0,.slice none 0 0]))⟩/\af prog 190=some ⟨3,(some (.agg #[.int .i64 0,.int .i64 0,.slice none 0 0])),.struct [(0,1),(1,1),(2,1)]⟩/\af prog 191=some ⟨3,(some (.agg #[.int .i64 0,.int .i64 0,.slice none 0 0])),.struct [(0,1),(1,1),(2,1)]⟩/\af prog 192=some ⟨8,(some (.agg #[.int .i64 0,.slice none 0 0,.int .i64 0,.int .i64 0,.slice none 0 0,.int .i64 0,.slice none 0 0,.slice none 0 0])),.struct [(0,1),(1,1),(2,3),(5,3)]⟩/\af prog 193=some ⟨8,(some (.agg #[.int .i64 0,.slice none 0 0,.int .i64 0,.int .i64 0,.slice none 0 0,.int .i64 0,.slice none 0 0,.slice none 0 0])),.struct [(0,1),(1,1),(2,3),(5,3)]⟩/\af prog 202=some ⟨1,(some (.int .u64 0)),.one⟩/\dN prog 202=some .u64/\af prog 206=some ⟨1,(some (.slice none 0 0)),.slice 146 1 24 (some (.slice none 0 0))⟩/\af prog 208=some ⟨1,(some (.slice none 0 0)),.slice 210 2 16 (some (.agg #[.int .i64 0,.int .i64 0]))⟩/\af prog 210=some ⟨2,(some (.agg #[.int .i64 0,.int .i64 0])),.struct [(0,1),(1,1)]⟩/\af prog 217=some ⟨1,(some (.nilFunc)),.one⟩/\af prog 218=some ⟨4,(some (.agg #[.pointer none,.slice none 0 0,.slice none 0 0,.nilFunc])),.struct [(0,1),(1,1),(2,1),(3,1)]⟩/\af prog 219=some ⟨4,(some (.agg #[.pointer none,.slice none 0 0,.slice none 0 0,.nilFunc])),.struct [(0,1),(1,1),(2,1),(3,1)]⟩/\af prog 225=some ⟨3,(some (.agg #[.slice none 0 0,.slice none 0 0,.slice none 0 0])),.struct [(0,1),(1,1),(2,1)]⟩/\af prog 226=some ⟨3,(some (.agg #[.slice none 0 0,.slice none 0 0,.slice none 0 0])),.struct [(0,1),(1,1),(2,1)]⟩/\af prog 229=some ⟨4,(some (.agg #[.slice none 0 0,.slice none 0 0,.int .i64 0,.int .i64 0])),.struct [(0,1),(1,1),(2,1),(3,1)]⟩/\af prog 230=some ⟨4,(some (.agg #[.slice none 0 0,.slice none 0 0,.int .i64 0,.int .i64 0])),.struct [(0,1),(1,1),(2,1),(3,1)]⟩/\af prog 234=some ⟨7,(some (.agg #[.int .i64 0,.int .i64 0,.int .i64 0,.int .i64 0,.slice none 0 0,.slice none 0 0,.int .i64 0])),.struct [(0,1),(1,3),(4,1),(5,1),(6,1)]⟩/\af prog 235=some ⟨7,(some (.agg #[.int .i64 0,.int .i64 0,.int .i64 0,.int .i64 0,.slice none 0 0,.slice none 0 0,.int .i64 0])),.struct [(0,1),(1,3),(4,1),(5,1),(6,1)]⟩/\af prog 239=some ⟨1,(some (.agg #[.slice none 0 0])),.struct [(0,1)]⟩/\af prog 240=some ⟨1,(some (.agg #[.slice none 0 0])),.struct [(0,1)]⟩/\af prog 241=some ⟨8,(some (.agg #[.int .i64 0,.int .i64 0,.int .i64 0,.int .i64 0,.int .i64 0,.int .i64 0,.int .i64 0,.int .i64 0])),.array 8 1⟩/\gG prog 241=some (some 8)/\af prog 260=some ⟨1,(some (.nilIface)),.one⟩/\af prog 263=some ⟨3,(some (.agg #[.int .i64 0,.int .i64 0,.slice none 0 0])),.struct [(0,1),(1,1),(2,1)]⟩/\af prog 264=some ⟨3,(some (.agg #[.int .i64 0,.int .i64 0,.slice none 0 0])),.struct [(0,1),(1,1),(2,1)]⟩/\af prog 267=some ⟨3,(some (.agg #[.int .i64 0,.int .i64 0,.slice none 0 0])),.struct [(0,1),(1,1),(2,1)]⟩/\af prog 268=some ⟨3,(some (.agg #[.int .i64 0,.int .i64 0,.slice none 0 0])),.struct [(0,1),(1,1),(2,1)]⟩/\af prog 275=some ⟨1,(some (.int .u64 0)),.one⟩/\dN prog 275=some .u64/\af prog 276=some ⟨1,(some (.slice none 0 0)),.slice 283 24 192 (some (.agg #[.int .i64 0,.int .i64 0,.int .i64 0,.int .i64 0,.int .i64 0,.int .i64 0,.int .i64 0,.int .i64 0,.int .i64 0,.int .i64 0,.int .i64 0,.int .i64 0,.int .i64 0,.int .i64 0,.int .i64 0,.int .i64 0,.int .i64 0,.int .i64 0,.int .i64 0,.int .i64 0,.int .i64 0,.int .i64 0,.int .i64 0,.int .i64 0]))⟩/\af prog 278=some ⟨6,(some (.agg #[.int .i64 0,.int .i64 0,.int .i64 0,.int .i64 0,.int .i64 0,.int .i64 0])),.array 3 2⟩/\gG prog 278=none/\tz prog 278=some (3,2)/\af prog 279=some ⟨18,(some (.agg #[.int .i64 0,.int .i64 0,.int .i64 0,.int .i64 0,.int .i64 0,.int .i64 0,.int .i64 0,.int .i64 0,.int .i64 0,.int .i64 0,.int .i64 0,.int .i64 0,.int .i64 0,.int .i64 0,.int .i64 0,.int .i64 0,.int .i64 0,.int .i64 0])),.array 3 6⟩/\gG prog 279=none/\tz prog 279=some (3,6)/\af prog 280=some ⟨18,(some (.agg #[.int .i64 0,.int .i64 0,.int .i64 0,.int .i64 0,.int .i64 0,.int .i64 0,.int .i64 0,.int .i64 0,.int .i64 0,.int .i64 0,.int .i64 0,.int .i64 0,.int .i64 0,.int .i64 0,.int .i64 0,.int .i64 0,.int .i64 0,.int .i64 0])),.array 3 6⟩/\gG prog 280=none/\tz prog 280=some (3,6)/\af prog 281=some ⟨6,(some (.agg #[.int .i64 0,.int .i64 0,.int .i64 0,.int .i64 0,.int .i64 0,.int .i64 0])),.array 3 2⟩/\gG prog 281=none/\tz prog 281=some (3,2)/\af prog 282=some ⟨24,(some (.agg #[.int .i64 0,.int .i64 0,.int .i64 0,.int .i64 0,.int .i64 0,.int .i64 0,.int .i64 0,.int .i64 0,.int .i64 0,.int .i64 0,.int .i64 0,.int .i64 0,.int .i64 0,.int .i64 0,.int .i64 0,.int .i64 0,.int .i64 0,.int .i64 0,.int .i64 0,.int .i64 0,.int .i64 0,.int .i64 0,.int .i64 0,.int .i64 0])),.struct [(0,18),(18,6)]⟩/\af prog 283=some ⟨24,(some (.agg #[.int .i64 0,.int .i64 0,.int .i64 0,.int .i64 0,.int .i64 0,.int .i64 0,.int .i64 0,.int .i64 0,.int .i64 0,.int .i64 0,.int .i64 0,.int .i64 0,.int .i64 0,.int .i64 0,.int .i64 0,.int .i64 0,.int .i64 0,.int .i64 0,.int .i64 0,.int .i64 0,.int .i64 0,.int .i64 0,.int .i64 0,.int .i64 0])),.struct [(0,18),(18,6)]⟩/\af prog 294=some ⟨1,(some (.nilFunc)),.one⟩/\af prog 298=some ⟨1,(some (.nilFunc)),.one⟩/\af prog 302=some ⟨2,(some (.agg #[.slice none 0 0,.slice none 0 0])),.struct [(0,1),(1,1)]⟩/\af prog 303=some ⟨2,(some (.agg #[.slice none 0 0,.slice none 0 0])),.struct [(0,1),(1,1)]⟩/\af prog 305=some ⟨2,(some (.agg #[.slice none 0 0,.slice none 0 0])),.struct [(0,2)]⟩/\af prog 306=some ⟨2,(some (.agg #[.slice none 0 0,.slice none 0 0])),.struct [(0,2)]⟩/\af prog 307=some ⟨2,(some (.agg #[.slice none 0 0,.slice none 0 0])),.struct [(0,2)]⟩:=by repeat' (first|kernel_rfl|refine ⟨by kernel_rfl,?_⟩)
@[simp] theorem Vi:af prog 308=some ⟨8,(some (.agg #[.slice none 0 0,.slice none 0 0,.slice none 0 0,.slice none 0 0,.int .i64 0,.int .i64 0,.int .i64 0,.int .i64 0])),.struct [(0,2),(2,2),(4,3),(7,1)]⟩/\af prog 309=some ⟨8,(some (.agg #[.slice none 0 0,.slice none 0 0,.slice none 0 0,.slice none 0 0,.int .i64 0,.int .i64 0,.int .i64 0,.int .i64 0])),.struct [(0,2),(2,2),(4,3),(7,1)]⟩/\af prog 327=some ⟨1,(some (.nilFunc)),.one⟩/\af prog 347=some ⟨2,(some (.agg #[.slice none 0 0,.int .i64 0])),.struct [(0,1),(1,1)]⟩/\af prog 348=some ⟨2,(some (.agg #[.slice none 0 0,.int .i64 0])),.struct [(0,1),(1,1)]⟩/\af prog 349=some ⟨4,(some (.agg #[.slice none 0 0,.int .i64 0,.slice none 0 0,.int .i64 0])),.struct [(0,2),(2,2)]⟩/\af prog 350=some ⟨4,(some (.agg #[.slice none 0 0,.int .i64 0,.slice none 0 0,.int .i64 0])),.struct [(0,2),(2,2)]⟩/\af prog 352=some ⟨1,(some (.pointer none)),.one⟩/\af prog 378=some ⟨1,(some (.nilFunc)),.one⟩/\af prog 379=some ⟨1,(some (.agg #[.nilFunc])),.struct [(0,1)]⟩/\af prog 380=some ⟨1,(some (.agg #[.nilFunc])),.struct [(0,1)]⟩/\af prog 388=some ⟨1,(some (.int .i64 0)),.one⟩/\dN prog 388=some .i64/\af prog 389=some ⟨1,(some (.nilFunc)),.one⟩/\af prog 390=some ⟨2,(some (.agg #[.nilFunc,.nilFunc])),.struct [(0,1),(1,1)]⟩/\af prog 391=some ⟨2,(some (.agg #[.nilFunc,.nilFunc])),.struct [(0,1),(1,1)]⟩/\af prog 398=some ⟨4,(some (.agg #[.int .i64 0,.int .i64 0,.int .i64 0,.int .i64 0])),.array 4 1⟩/\gG prog 398=some (some 4)/\af prog 399=some ⟨11,(some (.agg #[.int .i64 0,.int .i64 0,.int .i64 0,.int .i64 0,.int .i64 0,.int .i64 0,.int .i64 0,.int .i64 0,.int .i64 0,.int .i64 0,.int .i64 0])),.array 11 1⟩/\gG prog 399=some (some 11)/\af prog 403=some ⟨11,(some (.agg #[.int .i64 0,.int .i64 0,.int .i64 0,.int .i64 0,.int .i64 0,.int .i64 0,.int .i64 0,.int .i64 0,.int .i64 0,.int .i64 0,.int .i64 0])),.array 11 1⟩/\gG prog 403=some (some 11)/\af prog 407=some ⟨4,(some (.agg #[.pointer none,.pointer none,.pointer none,.string ByteArray.empty])),.struct [(0,1),(1,1),(2,1),(3,1)]⟩/\af prog 408=some ⟨4,(some (.agg #[.pointer none,.pointer none,.pointer none,.string ByteArray.empty])),.struct [(0,1),(1,1),(2,1),(3,1)]⟩/\af prog 409=some ⟨0,(some (.agg #[])),.array 0 1⟩/\gG prog 409=some (some 0)/\af prog 410=some ⟨0,(some (.agg #[])),.struct [(0,0)]⟩/\af prog 411=some ⟨0,(some (.agg #[])),.struct [(0,0)]⟩/\af prog 413=some ⟨1,(some (.int .u32 0)),.one⟩/\dN prog 413=some .u32/\af prog 414=some ⟨1,(some (.int .u8 0)),.one⟩/\dN prog 414=some .u8/\af prog 415=some ⟨1,(some (.int .u8 0)),.one⟩/\dN prog 415=some .u8/\af prog 416=some ⟨1,(some (.nilFunc)),.one⟩/\af prog 417=some ⟨1,(some (.pointer none)),.one⟩/\af prog 418=some ⟨1,(some (.int .i32 0)),.one⟩/\dN prog 418=some .i32/\af prog 419=some ⟨1,(some (.int .i32 0)),.one⟩/\dN prog 419=some .i32/\af prog 420=some ⟨11,(some (.agg #[.int .u64 0,.int .u64 0,.int .u32 0,.int .u8 0,.int .u8 0,.int .u8 0,.int .u8 0,.nilFunc,.pointer none,.int .i32 0,.int .i32 0])),.struct [(0,1),(1,1),(2,1),(3,1),(4,1),(5,1),(6,1),(7,1),(8,1),(9,1),(10,1)]⟩/\af prog 421=some ⟨11,(some (.agg #[.int .u64 0,.int .u64 0,.int .u32 0,.int .u8 0,.int .u8 0,.int .u8 0,.int .u8 0,.nilFunc,.pointer none,.int .i32 0,.int .i32 0])),.struct [(0,1),(1,1),(2,1),(3,1),(4,1),(5,1),(6,1),(7,1),(8,1),(9,1),(10,1)]⟩:=by repeat' (first|kernel_rfl|refine ⟨by kernel_rfl,?_⟩)
abbrev I(lo hi:Int):PV:=.val (.agg #[.int .i64 lo,.int .i64 hi])
abbrev aC(x:Int×Int):PV:=I x.1 x.2
abbrev B(b:Bool):PV:=.val (.bool b)
abbrev Z(n:Int):PV:=.val (.int .i64 n)
abbrev wr(n:Int):Int:=i64.wrap n
def az(lo hi:Int):Bool:=decide (-2147483648<=lo)&&decide (lo<=hi)&&decide (hi<=2147483648)
theorem SD(a b c d:Int):ak prog (Op.equal 99 (.agg #[.int .i64 a,.int .i64 b]) (.agg #[.int .i64 c,.int .i64 d]))=some (a==c&&b==d):=by
 have hf:(prog.fieldsOf 99).toList=[(prog.fieldsOf 99)[0]!,(prog.fieldsOf 99)[1]!]:=by kernel_rfl
 show ak prog (Op.equalIn (9999+1) 99 _ _)=_;rw[AY 9999 99 _ _ (by kernel_rfl) (by kernel_rfl),hf]
 have h:=wt (P:=prog) (d:=9999) (xs:=#[.int .i64 a,.int .i64 b]) (ys:=#[.int .i64 c,.int .i64 d]) (f:=(prog.fieldsOf 99)[0]!) (fs:=[(prog.fieldsOf 99)[1]!]) (a:=.int .i64 a) (b:=.int .i64 c) (by decide +kernel) (by kernel_rfl) (by kernel_rfl) (ve 9998 _ .i64 .i64 a c (by kernel_rfl))
  (wt (by decide +kernel) (a:=.int .i64 b) (b:=.int .i64 d) (by kernel_rfl) (by kernel_rfl) (ve 9998 _ .i64 .i64 b d (by kernel_rfl)) GN)
 rw[h];simp
def jq(P:Program)(o:Oper)(ρ:Operand->AV):Option cK:=bz P o ρ
def wv(x:AV):Option (Int×Int):=match x with
 |.pv (.val (.agg vs))=>match vs.toList with
  |[.int .i64 a,.int .i64 b]=>some (a,b)
  |_=>none
 |_=>none
theorem qd{x:AV}{a b:Int}(h:wv x=some (a,b)):x=.pv (I a b):=by
 unfold wv at h;split at h
 .split at h
  .rename_i vs _ d e c
   injection h with h;injection h with h1 h2;subst h1;subst h2;rw[<-Array.toArray_toList (xs:=vs),c]
  .cases h
 .cases h
def Ie(x y:AV)(fb:Option cK):Option cK:=match wv x,wv y with
 |some (a,b),some (c,d)=>some (.pv (.val (.bool !(a==c&&b==d))),[])
 |_,_=>fb
@[simp] theorem OA(a b c d:Int)(fb:Option cK):Ie (.pv (.val (.agg #[.int .i64 a,.int .i64 b]))) (.pv (.val (.agg #[.int .i64 c,.int .i64 d]))) fb=some (.pv (.val (.bool !(a==c&&b==d))),[]):=rfl
@[simp] theorem VZ{ty:TypeId}{pos:String}(x y:Operand):
 bz prog ⟨dst,.binOp .neq 99 x y 99,ty,pos,aft,g⟩ ρ=Ie (ρ x) (ρ y) (jq prog ⟨dst,.binOp .neq 99 x y 99,ty,pos,aft,g⟩ ρ):=by
 unfold Ie;split
 .rename_i a b c d e f
  exact zb rfl (qd e) (qd f) (by kernel_rfl) (SD a b c d)
 .rfl
theorem jM(lo hi:Int):aR 216 (I lo hi) (B (az lo hi)):=by
 refine Dp func216 λC hP hN=>?_
 with_reducible repeat' (first|refine Sp.h ?_|((first|refine Ss.h ?_|(refine Sb.h ?_ ?_ ?_<;>(try intro hgd)<;>try exact Xy))<;>simp -implicitDefEqProofs (maxSteps:=2000000) [hP,hN])|refine X2 ?_ ?_|(refine Xd ?_ ?_<;>intro hcd<;>try exact Xx))
 all_goals (first|(simp_all[az];done)|((try simp_all[az])<;>(try omega)<;>grind))
theorem lY(lo hi:Int):aR 130 (I lo hi) (B (az lo hi)):=by
 refine Dp func130 λC hP hN=>?_
 with_reducible repeat' (first|refine Sp.h ?_|((first|refine Ss.h ?_|(refine Sb.h ?_ ?_ ?_<;>(try intro hgd)<;>try exact Xy))<;>simp -implicitDefEqProofs (maxSteps:=2000000) [hP,hN])|refine X2 ?_ ?_|(refine Xd ?_ ?_<;>intro hcd<;>try exact Xx))
 all_goals (first|(simp_all[az];done)|((try simp_all[az])<;>(try omega)<;>grind))
theorem xX(a b c d:Int):aK 229 (I a b) (I c d) (B (az a b&&az c d)):=by
 refine Dp func229 λC hP hN=>?_
 with_reducible repeat' (first|refine Sp.h ?_|((first|refine Ss.h ?_|refine Sc.h (jM _ _) ?_|(refine Sb.h ?_ ?_ ?_<;>(try intro hgd)<;>try exact Xy))<;>simp -implicitDefEqProofs (maxSteps:=2000000) [hP,hN])|refine X2 ?_ ?_|(refine Xd ?_ ?_<;>intro hcd<;>try exact Xx))
 all_goals (first|(simp_all;done)|((try simp_all)<;>(try omega)<;>grind))
theorem Po(a b c d:Int):aK 169 (I a b) (I c d) (B (az a b&&az c d&&decide (c<=a)&&decide (b<=d))):=by
 refine Dp func169 λC hP hN=>?_
 with_reducible repeat' (first|refine Sp.h ?_|((first|refine Ss.h ?_|refine Sc.h (xX _ _ _ _) ?_|(refine Sb.h ?_ ?_ ?_<;>(try intro hgd)<;>try exact Xy))<;>simp -implicitDefEqProofs (maxSteps:=2000000) [hP,hN])|refine X2 ?_ ?_|(refine Xd ?_ ?_<;>intro hcd<;>try exact Xx))
 all_goals (first|(simp_all;done)|((try simp_all)<;>(try omega)<;>grind))
theorem Pp(a b c d:Int):aK 232 (I a b) (I c d) (B (az a b&&az c d&&decide (c<=a)&&decide (b<=d))):=by
 refine Dp func232 λC hP hN=>?_
 with_reducible repeat' (first|refine Sp.h ?_|((first|refine Ss.h ?_|refine Sc.h (lY _ _) ?_|(refine Sb.h ?_ ?_ ?_<;>(try intro hgd)<;>try exact Xy))<;>simp -implicitDefEqProofs (maxSteps:=2000000) [hP,hN])|refine X2 ?_ ?_|(refine Xd ?_ ?_<;>intro hcd<;>try exact Xx))
 all_goals (first|(simp_all;done)|((try simp_all)<;>(try omega)<;>grind))
def jZ(n k:Int):Int:=if n.tmod k<0 then wr (n.tmod k+k)else n.tmod k
theorem Ev(n k:Int)(a:k≠0):aK 14 (Z n) (Z k) (Z (jZ n k)):=by
 refine Dp func14 λC hP hN=>?_
 with_reducible repeat' (first|refine Sp.h ?_|((first|refine Ss.h ?_|(refine Sb.h ?_ ?_ ?_<;>(try intro hgd)<;>try exact Xy))<;>simp -implicitDefEqProofs (maxSteps:=2000000) [hP,hN,a])|refine X2 ?_ ?_|(refine Xd ?_ ?_<;>intro hcd<;>try exact Xx))
 all_goals (first|(simp_all[jZ];done)|((try simp_all[jZ])<;>(try omega)<;>grind))
@[simp] theorem So(a b:Int):(if b<a then b else a)=min a b:=by split<;>omega
@[simp] theorem Sq(a b:Int):(if a<b then b else a)=max a b:=by split<;>omega
theorem aa{n:Int}(h1:-9223372036854775808<=n:=by omega)(a:n<9223372036854775808:=by omega):wr n=n:=by
 rw[wr,IntKind.wrap_i64];omega
theorem NZ(a:k<64):min k.toNat 64=k.toNat:=by omega
theorem LK:i64.bits=64:=rfl
theorem Pq(a:Int):aR 371 (Z a) (Z (min (max a (-2147483648)) 2147483648)):=by
 refine Dp func371 λC hP hN=>?_;exact Gy
 all_goals (first|(simp_all;done)|((try simp_all)<;>(try omega)<;>grind))
theorem LN(a b:Int):aK 360 (Z a) (Z b) (I (min (max a (-2147483648)) 2147483648) (min (max b (-2147483648)) 2147483648)):=by
 refine Dp func360 λC hP hN=>?_;have c:=@Pq;exact GS trivial
 all_goals (first|(simp_all;done)|((try simp_all)<;>(try omega)<;>grind))
theorem Pr(a:Int):aR 340 (Z a) (I (min (max a (-2147483648)) 2147483648) (min (max a (-2147483648)) 2147483648)):=by
 refine Dp func340 λC hP hN=>?_;have b:=@LN;exact GS trivial
 all_goals (first|(simp_all;done)|((try simp_all)<;>(try omega)<;>grind))
theorem Ps(a k:Int)(h:0<=k)(b:k<64):aK 255 (Z a) (Z k) (Z (a.fdiv (2^k.toNat))):=by
 refine Dp func255 λC hP hN=>?_;exact GS (be h @LK (NZ b))
 all_goals (first|(simp_all;done)|((try simp_all)<;>(try omega)<;>grind))
def gF(x y:Int×Int):Int×Int:=if az x.1 x.2&&az y.1 y.2 then(min x.1 y.1,max x.2 y.2)else(0,0)
theorem Fw(a b c d:Int):aK 392 (I a b) (I c d) (aC (gF (a,b) (c,d))):=by
 refine Dp func392 λC hP hN=>?_
 with_reducible repeat' (first|refine Sp.h ?_|((first|refine Ss.h ?_|refine Sc.h (xX _ _ _ _) ?_|(refine Sb.h ?_ ?_ ?_<;>(try intro hgd)<;>try exact Xy))<;>simp -implicitDefEqProofs (maxSteps:=2000000) [hP,hN])|refine X2 ?_ ?_|(refine Xd ?_ ?_<;>intro hcd<;>try exact Xx))
 all_goals (first|(simp_all[gF];done)|((try simp_all[gF])<;>(try omega)<;>grind))
theorem Fx(a b c d:Int):aK 377 (I a b) (I c d) (aC (gF (a,b) (c,d))):=by
 refine Dp func377 λC hP hN=>?_
 with_reducible repeat' (first|refine Sp.h ?_|((first|refine Ss.h ?_|refine Sc.h (lY _ _) ?_|(refine Sb.h ?_ ?_ ?_<;>(try intro hgd)<;>try exact Xy))<;>simp -implicitDefEqProofs (maxSteps:=2000000) [hP,hN])|refine X2 ?_ ?_|(refine Xd ?_ ?_<;>intro hcd<;>try exact Xx))
 all_goals (first|(simp_all[gF];done)|((try simp_all[gF])<;>(try omega)<;>grind))
theorem vf(a b:Int):aR 194 (I a b) (Z (if az a b then wr (b-a)else 0)):=by
 refine Dp func194 λC hP hN=>?_
 with_reducible repeat' (first|refine Sp.h ?_|((first|refine Ss.h ?_|refine Sc.h (jM _ _) ?_|(refine Sb.h ?_ ?_ ?_<;>(try intro hgd)<;>try exact Xy))<;>simp -implicitDefEqProofs (maxSteps:=2000000) [hP,hN])|refine X2 ?_ ?_|(refine Xd ?_ ?_<;>intro hcd<;>try exact Xx))
 all_goals (first|(simp_all;done)|((try simp_all)<;>(try omega)<;>grind))
theorem LO(a b:Int):aR 195 (I a b) (Z (if az a b then(wr (a+b)).fdiv 2 else 0)):=by
 refine Dp func195 λC hP hN=>?_
 with_reducible repeat' (first|refine Sp.h ?_|((first|refine Ss.h ?_|refine Sc.h (jM _ _) ?_|refine Sc.h (Ps _ _ (by decide) (by decide)) ?_|(refine Sb.h ?_ ?_ ?_<;>(try intro hgd)<;>try exact Xy))<;>simp -implicitDefEqProofs (maxSteps:=2000000) [hP,hN])|refine X2 ?_ ?_|(refine Xd ?_ ?_<;>intro hcd<;>try exact Xx))
 all_goals (first|(simp_all;done)|((try simp_all)<;>(try omega)<;>grind))
theorem LP(a b x:Int):aK 192 (I a b) (Z x) (B (az a b&&decide (a<=x)&&decide (x<=b))):=by
 refine Dp func192 λC hP hN=>?_
 with_reducible repeat' (first|refine Sp.h ?_|((first|refine Ss.h ?_|refine Sc.h (jM _ _) ?_|(refine Sb.h ?_ ?_ ?_<;>(try intro hgd)<;>try exact Xy))<;>simp -implicitDefEqProofs (maxSteps:=2000000) [hP,hN])|refine X2 ?_ ?_|(refine Xd ?_ ?_<;>intro hcd<;>try exact Xx))
 all_goals (first|(simp_all;done)|((try simp_all)<;>(try omega)<;>grind))
theorem LQ(a b c d:Int):aK 261 (I a b) (I c d) (.tup (if az a b&&az c d&&decide (max a c<=min b d)then[I (max a c) (min b d),B true]else[I 0 0,B false])):=by
 refine Dp func261 λC hP hN=>?_
 with_reducible repeat' (first|refine Sp.h ?_|((first|refine Ss.h ?_|refine Sc.h (xX _ _ _ _) ?_|(refine Sb.h ?_ ?_ ?_<;>(try intro hgd)<;>try exact Xy))<;>simp -implicitDefEqProofs (maxSteps:=2000000) [hP,hN])|refine X2 ?_ ?_|(refine Xd ?_ ?_<;>intro hcd<;>try exact Xx))
 all_goals (first|(simp_all;done)|((try simp_all)<;>(try omega)<;>grind))
abbrev zs(xs:List Int):PV:=.sl (xs.map Z)
abbrev iv(xs:List (Int×Int)):PV:=.sl (xs.map aC)
abbrev Fv(f:FuncId):PV:=.val (.func (.func f) #[] #[])
theorem vg{n:Nat}(h:n<=16777216):n<=9223372036854775807:=by omega
theorem aj{n:Nat}(h:i<n)(hn:n<=9223372036854775807):i64.wrap ((i:Int)+1)=(i:Int)+1:=by rw[IntKind.wrap_i64];omega
def oh(p:α->Bool)(xs:List α):Int:=match xs.findIdx? p with
 |some i=>i
 |none=>-1
theorem qe(b:i<xs.length)(hq:∀j x,j<i->xs[j]?=some x->p x=false)(hp:p xs[i]=true):oh p xs=i:=by
 have:xs.findIdx? p=some i:=by
  rw[Wf];refine⟨b,hp,λj c=>?_⟩
  have a:j<xs.length:=by omega
  rw[hq j xs[j] c (an a)];simp
 simp[oh,this]
theorem vh(hq:∀(j:Nat) x,xs[j]?=some x->p x=false):oh p xs=-1:=by
 have:xs.findIdx? p=none:=by
  rw[List.findIdx?_eq_none_iff];intro x b;obtain⟨j,a,rfl⟩:=Vn.1 b;exact hq j _ (an a)
 simp[oh,this]
theorem tO(p:α->Bool)(xs:List α):decide (0<=oh p xs)=xs.any p:=by
 unfold oh
 cases h:xs.findIdx? p with
 |none=>
  rw[List.findIdx?_eq_none_iff]at h
  have:xs.any p=false:=by
   rw[VO];intro x b;rw[h x b];simp
  simp[this]
 |some i=>
  rw[Wf]at h;obtain⟨a,hp,_⟩:=h;have:xs.any p=true:=VX.2 ⟨xs[i],Uo a,hp⟩;simp[this]
theorem pf(b:i<xs.length)(hq:∀j x,j<i->xs[j]?=some x->p x=false)(hp:p xs[i]=false):∀j x,j<i+1->xs[j]?=some x->p x=false:=by
 intro j x c a;by_cases e:j=i
 .subst e;rw[an b]at a;injection a with a;subst a;exact hp
 .exact hq j x (by omega) a
theorem xY(b:¬i<xs.length)(hq:∀j x,j<i->xs[j]?=some x->p x=false):∀(j:Nat) x,xs[j]?=some x->p x=false:=by
 intro j x a;have:=(th.1 a).1;exact hq j x (by omega) a
theorem Pt(f:FuncId)(p:Int×Int->Bool)(xs:List (Int×Int))(e:xs.length<=9223372036854775807)(hf:∀x,aP prog f [.pv (aC x)] [] [] (.pv (B (p x)))):aK 304 (iv xs) (Fv f) (Z (oh p xs)):=by
 refine Dp func304 λC hP hN=>?_;refine Gz ?_;refine WP.loopN [] xs.length (λi b=>b.t 0=.pv (iv xs)/\b.t 1=.pv (Fv f)/\b.t 7=.pv (Z xs.length)/\b.t 8=.pv (Z i)/\∀j x,j<i->xs[j]?=some x->p x=false) (by simp) ?_;rintro i b hi ⟨c,d,h7,h8,hq⟩;by_cases a:i<xs.length
 .have g:=aj a e
  with_reducible repeat' (first|refine Sp.h ?_|((first|refine Ss.h ?_|refine Sc.h (hf _) ?_|(refine Sb.h ?_ ?_ ?_<;>(try intro hgd)<;>try exact Xy))<;>simp -implicitDefEqProofs (maxSteps:=2000000) [hP,hN,c,d,h7,h8,a,g])|refine X2 ?_ ?_|(refine Xd ?_ ?_<;>intro hcd<;>try exact Xx))
  .exact(qe a hq hcd).symm
  .simpa using pf a hq hcd
 .skip
  refine Gz ?_;exact(vh (xY a hq)).symm
theorem LR(f:FuncId)(p:Int×Int->Bool)(xs:List (Int×Int))(a:xs.length<=9223372036854775807)(hf:∀x,aP prog f [.pv (aC x)] [] [] (.pv (B (p x)))):aK 253 (iv xs) (Fv f) (B (xs.any p)):=by
 refine Dp func253 λC hP hN=>?_;have b:=Pt _ _ _ a hf;refine GT trivial ?_
 all_goals (first|(simp_all[tO];done)|((try simp_all[tO])<;>(try omega)<;>grind))
def bT(p:α->Bool)(xs:List α):Bool:=xs.all p
theorem Ew(p:α->Bool)(xs:List α):(xs.any λx=>!p x)=!bT p xs:=by simp[bT,List.any_eq_not_all_not]
abbrev vI(x:Int×Int):Bool:=az x.1 x.2
theorem Pu(x:Int×Int):aR 254 (aC x) (B (!az x.1 x.2)):=by
 refine Dp func254 λC hP hN=>?_;have a:=@jM;exact GS trivial
 all_goals (first|(simp_all;done)|((try simp_all)<;>(try omega)<;>grind))
theorem vi(xs:List (Int×Int))(a:xs.length<=9223372036854775807):aR 193 (iv xs) (B (bT vI xs)):=by
 refine Dp func193 λC hP hN=>?_;have b:=LR _ _ _ a Pu;exact GS (Ew vI xs)
 all_goals (first|(simp_all;done)|((try simp_all)<;>(try omega)<;>grind))
def GR(x:Int):Bool:=decide (-2147483648<=x)&&decide (x<=2147483648)
theorem If{T L:List PV}{v:PV}(a:L.length=T.length)(h:∀j,j<i->L[j]?=T[j]?)(b:T[i]?=some v):∀j,j<i+1->(L.set i v)[j]?=T[j]?:=by
 intro j c;have hi:i<T.length:=(th.1 b).1;by_cases e:j=i
 .subst e;rw[b,List.getElem?_set_self (by omega)]
 .rw[List.getElem?_set_ne (by omega)];exact h j (by omega)
theorem Ig{T L:List PV}(a:L.length=T.length)(h:∀j,j<i->L[j]?=T[j]?)(hi:T.length<=i):L=T:=by
 apply UI;intro j;by_cases e:j<i
 .exact h j e
 .rw[Uc (by omega),Uc (by omega)]
theorem vj(a:i<xs.length)(hp:p xs[i]=false):bT p xs=false:=by
 rw[bT,Vz];exact⟨xs[i],Uo a,by simp[hp]⟩
theorem tP(a:i<xs.length)(h:bT p (xs.take i)=true)(hp:p xs[i]=true):bT p (xs.take (i+1))=true:=by
 unfold bT at *;rw[UN a,List.all_append,h];simp[hp]
theorem tR(a:¬i<xs.length)(h:bT p (xs.take i)=true):bT p xs=true:=by
 rwa [Us (by omega)]at h
theorem BF{f:α->β}(a:i<xs.length):(xs.map f).take i++[f xs[i]]=(xs.map f).take (i+1):=by
 rw[UN (by simpa using a)];simp
def fl(f:α->β->Bool)(xs:List α)(ys:List β):Bool:=(List.zipWith f xs ys).all id
def gc(f:α->β->Bool)(xs:List α)(ys:List β)(i:Nat):Bool:=((List.zipWith f xs ys).take i).all id
theorem km(b:i<xs.length)(a:i<ys.length)(hp:f xs[i] ys[i]=false):fl f xs ys=false:=
 vj (p:=id) (xs:=List.zipWith f xs ys) (i:=i) (by simp;omega) (by simpa using hp)
theorem lm(b:i<xs.length)(a:i<ys.length)(h:gc f xs ys i=true)(hp:f xs[i] ys[i]=true):gc f xs ys (i+1)=true:=
 tP (p:=id) (xs:=List.zipWith f xs ys) (i:=i) (by simp;omega) h (by simpa using hp)
theorem ln(a:¬i<xs.length)(h:gc f xs ys i=true):fl f xs ys=true:=
 tR (p:=id) (xs:=List.zipWith f xs ys) (i:=i) (by simp;omega) h
theorem nH(xs:List (Int×Int))(e:xs.length<=9223372036854775807):aR 163 (iv xs) (B (bT vI xs)):=by
 refine Dp func163 λC hP hN=>?_;refine Gz ?_;refine WP.loopN [] xs.length (λi b=>b.t 0=.pv (iv xs)/\b.t 3=.pv (Z i)/\bT vI (xs.take i)=true) (by simp[bT]) ?_;rintro i b hi ⟨c,d,hq⟩;by_cases a:i<xs.length
 .have f:=aj a e
  have hF:vI xs[i]=false->bT vI xs=false:=vj a;have hS:vI xs[i]=true->bT vI (xs.take (i+1))=true:=tP a hq
  with_reducible repeat' (first|refine Sp.h ?_|((first|refine Ss.h ?_|refine Sc.h (lY _ _) ?_|(refine Sb.h ?_ ?_ ?_<;>(try intro hgd)<;>try exact Xy))<;>simp -implicitDefEqProofs (maxSteps:=2000000) [hP,hN,c,d,a,f])|refine X2 ?_ ?_|(refine Xd ?_ ?_<;>intro hcd<;>try exact Xx))
  all_goals first|(rw[hF];simp_all[GR];try omega)|(rw[hS];simp_all[GR];try omega)
 .skip
  refine Gz ?_;simp[tR a hq]
def dV(x y:Int×Int):Bool:=az x.1 x.2&&az y.1 y.2&&decide (y.1<=x.1)&&decide (x.2<=y.2)
def Ih(x:Int×Int)(c:Int):Bool:=az x.1 x.2&&decide (x.1<=c)&&decide (c<=x.2)
def mY(xs ys:List (Int×Int)):Bool:=bT vI xs&&bT vI ys&&decide (xs.length=ys.length)&&fl dV xs ys
theorem Pv(xs:List (Int×Int))(ys:List (Int×Int))(e:xs.length<=9223372036854775807)(g:ys.length<=9223372036854775807):aK 175 (iv xs) (iv ys) (B (mY xs ys)):=by
 refine Dp func175 λC hP hN=>?_
 cases c:bT vI xs with
 |false=>
  have k:=nH _ e;have l:=nH _ g;refine GT c ?_
  all_goals simp[mY,c]
 |true=>
  cases d:bT vI ys with
  |false=>
   have k:=nH _ e;have l:=nH _ g;refine GT (gA c d) ?_
   all_goals simp[mY,c,d]
  |true=>
   by_cases f:xs.length=ys.length
   .skip
    have k:=nH _ e;have l:=nH _ g;refine GT (be c d f) ?_;refine WP.loopN [] xs.length (λi j=>j.t 0=.pv (iv xs)/\j.t 1=.pv (iv ys)/\j.t 5=.pv (Z i)/\gc dV xs ys i=true) (by simp[gc]) ?_;rintro i j hi ⟨m,n,o,hq⟩;by_cases b:i<xs.length
    .have p:=aj b e
     have a:i<ys.length:=by omega
     have hF:dV xs[i] ys[i]=false->fl dV xs ys=false:=km b a;have hS:dV xs[i] ys[i]=true->gc dV xs ys (i+1)=true:=lm b a hq
     with_reducible repeat' (first|refine Sp.h ?_|((first|refine Wd ?_|refine Ss.h ?_|refine Sc.h (Pp _ _ _ _) ?_|(refine Sb.h ?_ ?_ ?_<;>(try intro hgd)<;>try exact Xy))<;>simp -implicitDefEqProofs (maxSteps:=2000000) [hP,hN,m,n,o,b,a,p]<;>try refine Ya ?_)|refine X2 ?_ ?_|(refine Xd ?_ ?_<;>intro hcd<;>try exact Xx))
     all_goals first|(rw[mY,hF (by simp only[dV]<;>grind)];simp;done)|(rw[hS (by simp only[dV]<;>grind)];done)
    .have a:¬i<ys.length:=by omega
     refine GT (go m n o b a) ?_
     all_goals simp[mY,c,d,f,ln b hq]
   .skip
    have k:=nH _ e;have l:=nH _ g;refine GT (be c d f) ?_
    all_goals simp[mY,c,d,f]
def pg[DecidableEq α](x y:α):Bool:=decide (x=y)
theorem KB[DecidableEq α]{ys:List α}(a:xs.length=ys.length):fl pg xs ys=decide (xs=ys):=by
 unfold fl
 induction xs generalizing ys with
 |nil=>cases ys<;>simp at a|-
 |cons x xs ih=>cases ys with
  |nil=>simp at a
  |cons y ys=>simp only[List.zipWith_cons_cons,List.all_cons,ih (by simpa using a)];simp[pg,Bool.decide_and]
def oV[DecidableEq α](xs ys:List α):Bool:=decide (xs.length=ys.length)&&fl pg xs ys
theorem SE(xs:List (Int×Int))(ys:List (Int×Int))(j:xs.length<=9223372036854775807)(l:ys.length<=9223372036854775807):aK 99 (iv xs) (iv ys) (B (oV xs ys)):=by
 refine Dp func99 λC hP hN=>?_;by_cases c:xs.length=ys.length
 .skip
  refine GT c ?_;refine WP.loopN [] xs.length (λi d=>d.t 0=.pv (iv xs)/\d.t 1=.pv (iv ys)/\d.t 5=.pv (Z i)/\gc pg xs ys i=true) (by simp[gc]) ?_;rintro i d hi ⟨e,f,g,hq⟩;by_cases b:i<xs.length
  .have k:=aj b j
   have a:i<ys.length:=by omega
   have hF:pg xs[i] ys[i]=false->fl pg xs ys=false:=km b a;have hS:pg xs[i] ys[i]=true->gc pg xs ys (i+1)=true:=lm b a hq
   with_reducible repeat' (first|refine Sp.h ?_|((first|refine Wd ?_|refine Ss.h ?_|(refine Sb.h ?_ ?_ ?_<;>(try intro hgd)<;>try exact Xy))<;>simp -implicitDefEqProofs (maxSteps:=2000000) [hP,hN,e,f,g,b,a,k]<;>try refine Ya ?_)|refine X2 ?_ ?_|(refine Xd ?_ ?_<;>intro hcd<;>try exact Xx))
   all_goals first|(rw[oV,hF (by simp only[pg]<;>grind)];simp;done)|(rw[hS (by simp only[pg]<;>grind)];done)
  .have a:¬i<ys.length:=by omega
   refine GT (go e f g b a) ?_
   all_goals simp[oV,c,ln b hq]
 .skip
  refine GT c ?_
  all_goals simp[oV,c]
theorem LS(xs:List (Int))(ys:List (Int))(j:xs.length<=9223372036854775807)(l:ys.length<=9223372036854775807):aK 245 (zs xs) (zs ys) (B (oV xs ys)):=by
 refine Dp func245 λC hP hN=>?_;by_cases c:xs.length=ys.length
 .skip
  refine GT c ?_;refine WP.loopN [] xs.length (λi d=>d.t 0=.pv (zs xs)/\d.t 1=.pv (zs ys)/\d.t 5=.pv (Z i)/\gc pg xs ys i=true) (by simp[gc]) ?_;rintro i d hi ⟨e,f,g,hq⟩;by_cases b:i<xs.length
  .have k:=aj b j
   have a:i<ys.length:=by omega
   have hF:pg xs[i] ys[i]=false->fl pg xs ys=false:=km b a;have hS:pg xs[i] ys[i]=true->gc pg xs ys (i+1)=true:=lm b a hq
   with_reducible repeat' (first|refine Sp.h ?_|((first|refine Wd ?_|refine Ss.h ?_|(refine Sb.h ?_ ?_ ?_<;>(try intro hgd)<;>try exact Xy))<;>simp -implicitDefEqProofs (maxSteps:=2000000) [hP,hN,e,f,g,b,a,k]<;>try refine Ya ?_)|refine X2 ?_ ?_|(refine Xd ?_ ?_<;>intro hcd<;>try exact Xx))
   all_goals first|(rw[oV,hF (by simp only[pg]<;>grind)];simp;done)|(rw[hS (by simp only[pg]<;>grind)];done)
  .have a:¬i<ys.length:=by omega
   refine GT (go e f g b a) ?_
   all_goals simp[oV,c,ln b hq]
 .skip
  refine GT c ?_
  all_goals simp[oV,c]
def eR(x:Int×Int):Int:=if az x.1 x.2 then wr (x.2-x.1)else 0
def jp(x:Int×Int):Int:=if az x.1 x.2 then(wr (x.1+x.2)).fdiv 2 else 0
def bL(xs:List (Int×Int))(j:Int):Bool:=decide (0<=j)&&bT vI xs&&(match xs[j.toNat]? with|some x=>decide (2<=eR x)|none=>false)
def dg(xs:List (Int×Int))(j:Int):List (Int×Int):=if bL xs j then(match xs[j.toNat]? with|some x=>xs.set j.toNat (x.1,jp x)|none=>[])else[]
def dh(xs:List (Int×Int))(j:Int):List (Int×Int):=if bL xs j then(match xs[j.toNat]? with|some x=>xs.set j.toNat (jp x,x.2)|none=>[])else[]
theorem Ii(xs:List (Int×Int))(j:Int)(f:xs.length<=16777216):aK 118 (iv xs) (Z j) (.tup [iv (dg xs j),iv (dh xs j),B (bL xs j)]):=by
 refine Dp func118 λC hP hN=>?_;by_cases k:0<=j
 .obtain⟨n,rfl⟩:=Vp k
  by_cases b:n<xs.length
  .cases e:bT vI xs with
   |false=>
    have i:=vi _ (vg f);refine GT (gA b e) ?_
    all_goals simp[dg,dh,bL,e]
   |true=>
    have d:=an b;generalize g:xs[n]=x at d;by_cases c:eR x<2
    .have a:=c
     simp only[eR]at a;have i:=vi _ (vg f);have o:=@vf;refine GT (go b e d g a) ?_
     all_goals simp[dg,dh,bL,e,d,Int.not_le.2 c]
    .have a:=c
     simp only[eR]at a;have i:=vi _ (vg f);have o:=@vf;have p:=@LO;refine GT (so b e d g a (show(16:Int)*xs.length<=281474976710656 by omega) (show(xs.length:Int)<=9223372036854775807 by omega)) ?_
     have l:bL xs (n:Int)=true:=by simp[bL,e,d,Int.not_lt.1 c]
     have m:List.take xs.length (List.map aC xs)=List.map aC xs:=Us (by simp);simp[dg,dh,l,d,m,Vy,jp]
  .skip
   have i:=vi _ (vg f);refine GT b ?_
   all_goals (have d:xs[n]?=none:=Uc (by omega));simp[dg,dh,bL,d]
 .skip
  have i:=vi _ (vg f);refine GT (gA k (show j<0 by omega)) ?_
  all_goals simp[dg,dh,bL,k]
def nx(l:List Int)(n:Nat)(k:Int):Int:=match l[n]? with
 |some x=>jZ x k
 |none=>0
def nn(l:List Int)(n:Nat):Nat:=if n<l.length then n+1 else n
abbrev gD(l:List Int)(n:Nat):List PV:=[zs l,Z n]
theorem LT(l:List Int):aP prog 33 [.pv (zs l)] [] [] (.box (gD l 0)):=by
 refine Dp func33 λC hP hN=>?_;exact Gy
 all_goals (first|(simp_all;done)|((try simp_all)<;>(try omega)<;>grind))
theorem bt(l:List Int)(n:Nat):nn l n<=n+1:=by unfold nn;split<;>omega
theorem iE(l:List Int)(n:Nat)(k:Int)(c:k≠0)(hn:n<1000000):aP prog 35 [.bx 0,.pv (Z k)] [gD l n] [gD l (nn l n)] (.pv (Z (nx l n k))):=by
 have d:i64.wrap ((n:Int)+1)=(n:Int)+1:=by rw[IntKind.wrap_i64];omega
 have b:i64.wrap (n:Int)=n:=by rw[IntKind.wrap_i64];omega
 refine mV func35 rfl (by kernel_rfl) (by simp[f35]) rfl (by intro i j h;rcases i with _|_|_|i<;>simp_all) ?_;intro C hP hN;simp only[f35]at hN|-;by_cases a:n<l.length
 .skip
  with_reducible repeat' (first|refine Sp.h ?_|((first|refine Wd ?_|refine Ss.h ?_|refine Sc.h (Ev _ _ c) ?_|(refine Sb.h ?_ ?_ ?_<;>(try intro hgd)<;>try exact Xy))<;>simp -implicitDefEqProofs (maxSteps:=2000000) [hP,hN,gD,a,d,b,Nat.not_le.2 a]<;>try refine Ya ?_)|refine X2 ?_ ?_|(refine Xd ?_ ?_<;>intro hcd<;>try exact Xx))
  simp[nn,nx,a]
 .skip
  refine Gz ?_;simp[nn,nx,a]
theorem vk(l:List Int)(n:Nat)(k:Int)(c:0<k)(d:k<1000000)(hn:n<1000000):aP prog 37 [.bx 0,.pv (Z k)] [gD l n] [gD l (nn l n)] (.pv (Z (wr (nx l n (2*k+1)-k)))):=by
 have b:i64.wrap (2*k)=2*k:=by rw[IntKind.wrap_i64];omega
 have a:i64.wrap (2*k+1)=2*k+1:=by rw[IntKind.wrap_i64];omega
 refine mV func37 rfl (by kernel_rfl) (by simp[f37]) rfl (by intro i j h;rcases i with _|_|_|i<;>simp_all) ?_;intro C hP hN;simp only[f37]at hN|-;have e:=iE l n (2*k+1) (by omega) hn;exact GS (be @gD.eq_1 b a)
theorem aQ(l:List Int)(n:Nat)(a:0<k)(b:k<4611686018427387904):0<=nx l n k/\nx l n k<k:=by
 unfold nx;split
 .rename_i x _
  have c:-k<x.tmod k:=by have:=Wc x a;omega
  have d:x.tmod k<k:=VK x a;unfold jZ;split
  .rw[aa (by omega) (by omega)];omega
  .omega
 .omega
def Cv(a:Int):Int:=if a=2 then 1 else if a=3 then 2 else if a=4 then 4 else if a=5 then 5 else if a=7 then 0 else 3
theorem KD{c:Int}(a:0<=c)(h8:c<8):∀h,([.int .i64 3,.int .i64 3,.int .i64 1,.int .i64 2,.int .i64 4,.int .i64 5,.int .i64 3,.int .i64 0]:List Value)[c.toNat]'h=.int .i64 (Cv c):=by
 have:c=0\/c=1\/c=2\/c=3\/c=4\/c=5\/c=6\/c=7:=by omega
 rcases this with rfl|rfl|rfl|rfl|rfl|rfl|rfl|rfl<;>(intro h;rfl)
def qU(i:Nat):ByteArray:=⟨#[UInt8.ofNat (97+i)]⟩
abbrev zh:Value:=.string ⟨#[97,98,99,100,101,102,103,104,105,106]⟩
def zi(i:Nat):Operand->AV:=λx=>match x with
 |.tmp 3=>.pv (Z i)
 |.tmp 5=>.pv (Z ((i:Int)+1))
 |_=>.pv (.val zh)
section
variable {dst:Option Nat} {ty:TypeId} {pos:String} {aft:Array Edge} {g:Option (Nat×Bool)} {ρ:Operand->AV}
theorem KE:bz prog ⟨dst,.slice 9 (.const zh) (some (.tmp 3)) (some (.tmp 5)) none,ty,pos,aft,g⟩ (zi 0)=some (.pv (.val (.string (qU 0))),[]):=by kernel_rfl
theorem KF:bz prog ⟨dst,.slice 9 (.const zh) (some (.tmp 3)) (some (.tmp 5)) none,ty,pos,aft,g⟩ (zi 1)=some (.pv (.val (.string (qU 1))),[]):=by kernel_rfl
theorem KG:bz prog ⟨dst,.slice 9 (.const zh) (some (.tmp 3)) (some (.tmp 5)) none,ty,pos,aft,g⟩ (zi 2)=some (.pv (.val (.string (qU 2))),[]):=by kernel_rfl
theorem N0(i:Nat)(e:i<3)(b:ρ (.const zh)=.pv (.val zh))(c:ρ (.tmp 3)=.pv (Z i))(d:ρ (.tmp 5)=.pv (Z ((i:Int)+1))):
 bz prog ⟨dst,.slice 9 (.const zh) (some (.tmp 3)) (some (.tmp 5)) none,ty,pos,aft,g⟩ ρ=some (.pv (.val (.string (qU i))),[]):=by
 have h:bz prog ⟨dst,.slice 9 (.const zh) (some (.tmp 3)) (some (.tmp 5)) none,ty,pos,aft,g⟩ ρ=bz prog ⟨dst,.slice 9 (.const zh) (some (.tmp 3)) (some (.tmp 5)) none,ty,pos,aft,g⟩ (zi i):=by
  refine qT (by intro _ _ h;cases h) ?_;intro x a;simp[Op.operands]at a;rcases a with rfl|rfl|rfl
  .exact b
  .exact c
  .exact d
 rw[h]
 have:i=0\/i=1\/i=2:=by omega
 rcases this with rfl|rfl|rfl
 .exact KE
 .exact KF
 .exact KG
end
theorem LU(i:Nat)(a:i<3):aR 76 (Z i) (.val (.string (qU i))):=by
 have b:i64.wrap ((i:Int)+1)=(i:Int)+1:=by rw[IntKind.wrap_i64];omega
 refine Dp func76 λC hP hN=>?_;refine GT b ?_;rw[N0 i a rfl (by simp) (by simp)];simp[hP,hN];exact Gy
structure J where
 name:ByteArray
 kind:Int
 parent:Int
 ox:Int
 oy:Int
 oz:Int
 lo:Int
 hi:Int
 w:Int
 sp:Int
 ac:Int
 tq:Int
abbrev bu(j:J):PV:=.val (.agg #[.string j.name,.int .i64 j.kind,.int .i64 j.parent,.int .i64 j.ox,.int .i64 j.oy,.int .i64 j.oz,.int .i64 j.lo,.int .i64 j.hi,.int .i64 j.w,.int .i64 j.sp,.int .i64 j.ac,.int .i64 j.tq])
def rP(l:List Int)(n:Nat):Nat:=nn l (nn l (nn l (nn l n)))
def jm(l:List Int)(n i:Nat):Nat:=if 0<i then nn l (nn l (rP l n))else rP l n
def jC(l:List Int)(n:Nat):Int:=Cv (nx l (nn l (nn l n)) 8)
def Ex(l:List Int)(n i:Nat):Int:=if jC l n=0 then 0 else if jC l n=4\/jC l n=5 then wr (wr (-nx l (jm l n i) 3)*65536)else wr ((wr (wr (-nx l (jm l n i) 5)*65536)).tdiv 8)
def Ey(l:List Int)(n i:Nat):Int:=if jC l n=0 then 0 else if jC l n=4\/jC l n=5 then wr (nx l (nn l (jm l n i)) 4*32768)else wr (wr ((wr (wr (1+nx l (nn l (jm l n i)) 4)*65536)).tdiv 8)+nx l (nn l (nn l (jm l n i))) 3)
def Af(l:List Int)(n i:Nat):Nat:=if jC l n=0 then jm l n i else if jC l n=4\/jC l n=5 then nn l (nn l (jm l n i))else nn l (nn l (nn l (jm l n i)))
def eI(l:List Int)(n i:Nat):J where
 name:=qU i
 kind:=jC l n
 parent:=if nx l (nn l (nn l (nn l n))) 4=1 then -1 else wr ((i:Int)-1)
 ox:=if 0<i then 131072 else 0
 oy:=if 0<i then wr (wr (nx l (rP l n) 5-2)*32768)else 0
 oz:=if 0<i then wr (wr (nx l (nn l (rP l n)) 3-1)*32768)else 0
 lo:=Ex l n i
 hi:=Ey l n i
 w:=wr (1+nx l n 4)
 sp:=65536
 ac:=wr (65536+nx l (nn l n) 3)
 tq:=327680
theorem OB(l:List Int)(n i:Nat)(c:i<3)(hn:n<900000):aP prog 85 [.bx 0,.pv (Z i)] [gD l n] [gD l (Af l n i)] (.pv (bu (eI l n i))):=by
 have b:=aQ l (nn l (nn l n)) (k:=8) (by decide) (by decide);have d:=bt l n;have e:=bt l (nn l n);have f:=bt l (nn l (nn l n));have g:=bt l (nn l (nn l (nn l n)));have m:=bt l (nn l (nn l (nn l (nn l n))));have o:=bt l (nn l (nn l (nn l (nn l (nn l n)))));have p:=bt l (nn l (nn l (nn l (nn l (nn l (nn l n))))));have q:=bt l (nn l (nn l (nn l (nn l (nn l (nn l (nn l n)))))));have r:=bt l (nn l (nn l (nn l (nn l (nn l (nn l (nn l (nn l n))))))));have a:=KD b.1 b.2;refine mV func85 rfl (by kernel_rfl) (by simp[f85]) rfl (by intro i j h;rcases i with _|_|_|i<;>simp_all) ?_;intro C hP hN;simp only[f85]at hN|-
 with_reducible repeat' (first|refine Sp.h ?_|((first|refine Ss.h ?_|refine Sc.h (LU i c) ?_|refine Sc.h (iE l _ _ (by decide) (by omega)) ?_|refine Sc.h (vk l _ _ (by decide) (by decide) (by omega)) ?_|(refine Sb.h ?_ ?_ ?_<;>(try intro hgd)<;>try exact Xy))<;>simp -implicitDefEqProofs (maxSteps:=2000000) [hP,hN,gD,a,b.1,b.2])|refine X2 ?_ ?_|(refine Xd ?_ ?_<;>intro hcd<;>try exact Xx))
 all_goals (clear a hP hN d e f g m o p q r b c hn;simp_all[eI,Af,Ex,Ey,jC,jm,rP])
structure Ms where
 link:Int
 mass:Int
 px:Int
 py:Int
 pz:Int
abbrev cG(m:Ms):PV:=.val (.agg #[.int .i64 m.link,.int .i64 m.mass,.int .i64 m.px,.int .i64 m.py,.int .i64 m.pz])
def qV(l:List Int)(m:Nat):Nat->Nat
 |0=>m
 |i+1=>Af l (qV l m i) i
theorem LV(l:List Int)(n i:Nat):jm l n i<=n+6:=by
 have a:=bt l n;have b:=bt l (nn l n);have c:=bt l (nn l (nn l n));have d:=bt l (nn l (nn l (nn l n)));have e:=bt l (nn l (nn l (nn l (nn l n))));have f:=bt l (nn l (nn l (nn l (nn l (nn l n)))));unfold jm rP;split<;>omega
theorem KH(l:List Int)(n i:Nat):Af l n i<=n+9:=by
 have h:=LV l n i;have a:=bt l (jm l n i);have b:=bt l (nn l (jm l n i));have c:=bt l (nn l (nn l (jm l n i)));unfold Af;split
 .omega
 .split<;>omega
theorem Cw(l:List Int)(m i:Nat):qV l m i<=m+9*i:=by
 induction i with
 |zero=>simp[qV]
 |succ i ih=>have:=KH l (qV l m i) i;simp only[qV];omega
def zj(l:List Int)(m k:Nat):List J:=(List.range k).map λi=>eI l (qV l m i) i
theorem Ij(l:List Int)(m k:Nat):(zj l m (k+1)).map bu=(zj l m k).map bu++[bu (eI l (qV l m k) k)]:=by simp[zj,Vq]
theorem ol(l:List Int)(m k:Nat):(zj l m k).length=k:=by simp[zj]
def mZ(l:List Int)(m:Nat):Nat->Nat
 |0=>m
 |i+1=>nn l (nn l (nn l (nn l (mZ l m i))))
theorem GU(l:List Int)(m i:Nat):mZ l m i<=m+4*i:=by
 induction i with
 |zero=>simp[mZ]
 |succ i ih=>
  have a:=bt l (mZ l m i);have b:=bt l (nn l (mZ l m i));have c:=bt l (nn l (nn l (mZ l m i)));have d:=bt l (nn l (nn l (nn l (mZ l m i))));simp only[mZ];omega
def ww(l:List Int)(m:Nat)(n:Int):Ms where
 link:=nx l m n
 mass:=wr (1+nx l (nn l m) 9000)
 px:=wr (wr (nx l (nn l (nn l m)) 7-3)*32768)
 py:=0
 pz:=wr (wr (nx l (nn l (nn l (nn l m))) 5-2)*32768)
def xh(l:List Int)(m:Nat)(n:Int)(k:Nat):List Ms:=(List.range k).map λi=>ww l (mZ l m i) n
theorem Ik(l:List Int)(m:Nat)(n:Int)(k:Nat):(xh l m n (k+1)).map cG=(xh l m n k).map cG++[cG (ww l (mZ l m k) n)]:=by simp[xh,Vq]
theorem wx(l:List Int)(m:Nat)(n:Int)(k:Nat):(xh l m n k).length=k:=by simp[xh]
abbrev gl:AV:=.pv (.val (.slice none 0 0))
def rN(l:List Int)(n:Nat):Nat:=(1+nx l n 3).toNat
def rM(l:List Int)(n:Nat):Nat:=qV l (nn l n) (rN l n)
def rK(l:List Int)(n:Nat):Nat:=(nx l (rM l n) 3).toNat
def jR(l:List Int)(n:Nat):List J:=zj l (nn l n) (rN l n)
def pO(l:List Int)(n:Nat):List Ms:=xh l (nn l (rM l n)) (rN l n) (rK l n)
def tS(l:List Int)(n:Nat):Nat:=mZ l (nn l (rM l n)) (rK l n)
theorem SF(l:List Int)(n:Nat)(hn:n<100000):aP prog 34 [.bx 0] [gD l n] [gD l (tS l n)] (.pv (.agg [.sl ((jR l n).map bu),.sl ((pO l n).map cG)])):=by
 have P:=aQ l n (k:=3) (by decide) (by decide)
 have E:i64.wrap (1+nx l n 3)=((rN l n:Nat):Int):=by rw[IntKind.wrap_i64,rN];omega
 have N:rN l n<=3/\0<rN l n:=by unfold rN;omega
 have J:=bt l n;refine mV func34 rfl (by kernel_rfl) (by simp[f34]) rfl (by intro i j h;rcases i with _|_|_|i<;>simp_all) ?_;intro C hP hN;simp only[f34]at hN|-
 with_reducible repeat' (first|refine Sp.h ?_|((first|refine Wd ?_|refine Ss.h ?_|refine Sc.h (iE l n 3 (by decide) (by omega)) ?_|(refine Sb.h ?_ ?_ ?_<;>(try intro hgd)<;>try exact Xy))<;>simp -implicitDefEqProofs (maxSteps:=2000000) [hP,hN,gD,E]<;>try refine Ya ?_)|refine X2 ?_ ?_|(refine Xd ?_ ?_<;>intro hcd<;>try exact Xx))
 refine WP.loopN [20] (rN l n) (λi e=>e.t 0=.ptr (pk 0) 0/\e.t 2=.ptr 2 0/\e.t 3=.ptr 3 0/\e.t 4=.pv (Z (rN l n))/\e.t 5=.pv (Z i)/\
  e.h (pk 0)=some (.box [.pv (zs l),.pv (Z (qV l (nn l n) i))] false false)/\e.h 2=some (.box [gl,gl] true false)/\e.h 20=none/\e.h 45=none/\e.h 46=none/\
  ((i=0/\e.h 3=some (.box [gl,gl] true false)/\e.h 21=none)\/(0<i/\e.h 3=some (.box [.arr 21 i,gl] true false)/\e.h 21=some (.row 97 12 ((zj l (nn l n) i).map bu) 0)))) (by simp[qV]) ?_
 rintro i e hi ⟨q,r,s,u,h5,hp,g,m,c,a,p⟩;by_cases o:i<rN l n
 .have z:i64.wrap ((i:Int)+1)=(i:Int)+1:=by rw[IntKind.wrap_i64];omega
  have G:=Cw l (nn l n) i;have D:=Ij l (nn l n) i;have hS:qV l (nn l n) (i+1)=Af l (qV l (nn l n) i) i:=rfl;rcases p with⟨f,d,b⟩|⟨f,d,b⟩
  .subst f
   with_reducible repeat' (first|refine Sp.h ?_|((first|refine Wd ?_|refine Ss.h ?_|refine Sc.h (OB l _ 0 (by omega) (by omega)) ?_|(refine Sb.h ?_ ?_ ?_<;>(try intro hgd)<;>try exact Xy))<;>simp -implicitDefEqProofs (maxSteps:=2000000) [hP,hN,q,r,s,u,h5,hp,g,m,c,a,d,b,o,z,hS]<;>try refine Ya ?_)|refine X2 ?_ ?_|(refine Xd ?_ ?_<;>intro hcd<;>try exact Xx))
   exact⟨by decide,by simp[zj]⟩
  .have B:=ol l (nn l n) i
   with_reducible repeat' (first|refine Sp.h ?_|((first|refine Wd ?_|refine Ss.h ?_|refine Sc.h (OB l _ i (by omega) (by omega)) ?_|(refine Sb.h ?_ ?_ ?_<;>(try intro hgd)<;>try exact Xy))<;>simp -implicitDefEqProofs (maxSteps:=2000000) [hP,hN,q,r,s,u,h5,hp,g,m,c,a,d,b,o,z,hS,B,show(i+1)*104<=140737488355328 by omega,show i<=9223372036854775806 by omega]<;>try refine Ya ?_)|refine X2 ?_ ?_|(refine Xd ?_ ?_<;>intro hcd<;>try exact Xx))
   simp[D]
 .have v:i=rN l n:=by omega
  rcases p with⟨f,_⟩|⟨f,d,b⟩
  .omega
  subst v;have G:=Cw l (nn l n) (rN l n);have O:=aQ l (rM l n) (k:=3) (by decide) (by decide)
  have H:nx l (qV l (nn l n) (rN l n)) 3=((rK l n:Nat):Int):=by show nx l (rM l n) 3=_;unfold rK;omega
  have I:rK l n<3:=by unfold rK;omega
  have B:=ol l (nn l n) (rN l n);have K:=bt l (rM l n);have M:rM l n<=nn l n+9*rN l n:=G
  with_reducible repeat' (first|refine Sp.h ?_|((first|refine Wd ?_|refine Ss.h ?_|refine Sc.h (iE l _ 3 (by decide) (by omega)) ?_|(refine Sb.h ?_ ?_ ?_<;>(try intro hgd)<;>try exact Xy))<;>simp -implicitDefEqProofs (maxSteps:=2000000) [hP,hN,q,r,s,u,h5,hp,g,m,c,a,d,b,o,H]<;>try refine Ya ?_)|refine X2 ?_ ?_|(refine Xd ?_ ?_<;>intro hcd<;>try exact Xx))
  refine WP.loopN [] (rK l n) (λi e=>e.t 0=.ptr (pk 0) 0/\e.t 2=.ptr 2 0/\e.t 3=.ptr 3 0/\e.t 4=.pv (Z (rN l n))/\e.t 6=.pv (Z ((rK l n:Int)-i))/\
   e.h (pk 0)=some (.box [.pv (zs l),.pv (Z (mZ l (nn l (rM l n)) i))] false false)/\e.h 2=some (.box [gl,gl] true false)/\e.h 45=none/\e.h 21=some (.row 97 12 ((jR l n).map bu) 0)/\
   ((i=0/\e.h 3=some (.box [.arr 21 (rN l n),gl] true false)/\e.h 46=none)\/(0<i/\e.h 3=some (.box [.arr 21 (rN l n),.arr 46 i] true false)/\e.h 46=some (.row 163 5 ((xh l (nn l (rM l n)) (rN l n) i).map cG) 0)))) (by simp[q,r,s,u,g,c,a,d,b,mZ,rM,jR]) ?_
  clear g m c a d b hp q r s u h5;rintro i e hi ⟨q,r,s,u,h6,hp,g,c,b,p⟩;by_cases o:i<rK l n
  .have z:i64.wrap ((rK l n:Int)-i-1)=(rK l n:Int)-((i:Int)+1):=by rw[IntKind.wrap_i64];omega
   have x:(0:Int)<(rK l n:Int)-i:=by omega
   have L:=GU l (nn l (rM l n)) i;have Q:=bt l (mZ l (nn l (rM l n)) i);have R:=bt l (nn l (mZ l (nn l (rM l n)) i));have S:=bt l (nn l (nn l (mZ l (nn l (rM l n)) i)));have D:=Ik l (nn l (rM l n)) (rN l n) i;have hS:mZ l (nn l (rM l n)) (i+1)=nn l (nn l (nn l (nn l (mZ l (nn l (rM l n)) i)))):=rfl
   have y:((rN l n:Nat):Int)≠0:=by omega
   rcases p with⟨f,d,a⟩|⟨f,d,a⟩
   .subst f
    with_reducible repeat' (first|refine Sp.h ?_|((first|refine Wd ?_|refine Ss.h ?_|refine Sc.h (iE l _ _ y (by omega)) ?_|refine Sc.h (iE l _ _ (by decide) (by omega)) ?_|refine Sc.h (vk l _ _ (by decide) (by decide) (by omega)) ?_|(refine Sb.h ?_ ?_ ?_<;>(try intro hgd)<;>try exact Xy))<;>simp -implicitDefEqProofs (maxSteps:=2000000) [hP,hN,q,r,s,u,h6,hp,g,c,a,d,b,o,z,x,hS]<;>try refine Ya ?_)|refine X2 ?_ ?_|(refine Xd ?_ ?_<;>intro hcd<;>try exact Xx))
    exact⟨by rw[IntKind.wrap_i64];omega,by simp[xh,ww,mZ]⟩
   .have B:=wx l (nn l (rM l n)) (rN l n) i
    with_reducible repeat' (first|refine Sp.h ?_|((first|refine Wd ?_|refine Ss.h ?_|refine Sc.h (iE l _ _ y (by omega)) ?_|refine Sc.h (iE l _ _ (by decide) (by omega)) ?_|refine Sc.h (vk l _ _ (by decide) (by decide) (by omega)) ?_|(refine Sb.h ?_ ?_ ?_<;>(try intro hgd)<;>try exact Xy))<;>simp -implicitDefEqProofs (maxSteps:=2000000) [hP,hN,q,r,s,u,h6,hp,g,c,a,d,b,o,z,x,hS,B,show(i+1)*40<=140737488355328 by omega,show i<=9223372036854775806 by omega]<;>try refine Ya ?_)|refine X2 ?_ ?_|(refine Xd ?_ ?_<;>intro hcd<;>try exact Xx))
    simp[D,ww]
  .have v:i=rK l n:=by omega
   subst v;have A:(jR l n).length=rN l n:=ol l (nn l n) (rN l n);have F:=wx l (nn l (rM l n)) (rN l n) (rK l n);rcases p with⟨f,d,a⟩|⟨f,d,a⟩
   .skip
    refine GT (s7 q r s u h6 hp g c a d b (gA f A)) ?_
    all_goals simp[tS,pO,f,xh]
   .skip
    refine GT (s7 q r s u h6 hp g c a d b (gA A F)) ?_
    all_goals simp[tS,pO]
abbrev iN(js:List J)(ms:List Ms):PV:=.agg [.sl (js.map bu),.sl (ms.map cG)]
def OC(j:J):Prop:=-1000000<=j.lo/\j.lo<=j.hi/\j.hi<=1000000
theorem Il(l:List Int)(n i:Nat):OC (eI l n i)/\(eI l n i).lo<=0/\0<=(eI l n i).hi:=by
 have o:=aQ l (jm l n i) (k:=3) (by decide) (by decide);have p:=aQ l (jm l n i) (k:=5) (by decide) (by decide);have d:=aQ l (nn l (jm l n i)) (k:=4) (by decide) (by decide);have e:=aQ l (nn l (nn l (jm l n i))) (k:=3) (by decide) (by decide)
 have j:-1000000<=Ex l n i/\Ex l n i<=0:=by
  unfold Ex;generalize nx l (jm l n i) 3=a at *;generalize nx l (jm l n i) 5=b at *;split
  .omega
  .split
   .simp only[wr,IntKind.wrap_i64];omega
   .have:b=0\/b=1\/b=2\/b=3\/b=4:=by omega
    rcases this with rfl|rfl|rfl|rfl|rfl<;>decide
 have g:0<=Ey l n i/\Ey l n i<=1000000:=by
  unfold Ey;generalize nx l (nn l (jm l n i)) 4=a at *;generalize nx l (nn l (nn l (jm l n i))) 3=b at *;split
  .omega
  .split
   .simp only[wr,IntKind.wrap_i64];omega
   .have f:∀c:Int,0<=c->c<4->0<=wr ((wr (wr (1+c)*65536)).tdiv 8)/\wr ((wr (wr (1+c)*65536)).tdiv 8)<=32768:=by
     intro c m e
     have:c=0\/c=1\/c=2\/c=3:=by omega
     rcases this with rfl|rfl|rfl|rfl<;>decide
    have:=f a d.1 d.2;rw[aa (n:=wr ((wr (wr (1+a)*65536)).tdiv 8)+b) (by omega) (by omega)];omega
 simp only[OC,eI];omega
theorem Ag(l:List Int)(n:Nat):(jR l n).length<=3/\0<(jR l n).length:=by
 have a:=aQ l n (k:=3) (by decide) (by decide);rw[jR,ol,rN];omega
theorem DZ(x:Int)(b:0<k)(a:k<4611686018427387904):0<=jZ x k/\jZ x k<k:=by
 have:=aQ [x] 0 b a;simpa[nx]using this
theorem Ez{P:Program}(d:Nat)(t:TypeId)(a b:Bool)(h:P.underlying t=some .bool):ak P (Op.equalIn (d+1) t (.bool a) (.bool b))=some (a==b):=by
 simp only[Op.equalIn,ah,jB h,Ud];rfl
def BM(x y:AV):Option (Bool×Bool):=match x,y with
 |.pv (.val (.bool a)),.pv (.val (.bool b))=>some (a,b)
 |_,_=>none
def Im(x y:AV)(fb:Option cK):Option cK:=match BM x y with
 |some (a,b)=>some (.pv (.val (.bool (a==b))),[])
 |none=>fb
@[simp] theorem OD(a b:Bool)(fb:Option cK):Im (.pv (.val (.bool a))) (.pv (.val (.bool b))) fb=some (.pv (.val (.bool (a==b))),[]):=rfl
@[simp] theorem SG{ty:TypeId}{pos:String}(x y:Operand):
 bz prog ⟨dst,.binOp .eql 4 x y 4,ty,pos,aft,g⟩ ρ=Im (ρ x) (ρ y) (jq prog ⟨dst,.binOp .eql 4 x y 4,ty,pos,aft,g⟩ ρ):=by
 unfold Im;split
 .rename_i a b h
  unfold BM at h;split at h
  .rename_i c d i j
   injection h with h;injection h with e f;subst e;subst f;refine d7 (by simp[Op.operands,i,j,eZ]) ?_;unfold execOp;simp only[(bG i).2,(bG j).2]
   have e:ak prog (eqGuard .eql 4 x y (.bool c) (.bool d))=some ():=by kernel_rfl
   have f:ak prog (binOp .eql 4 (.bool c) (.bool d))=some (.bool (c==d)):=by
    simp only[binOp,ah];rw[show ak prog (Op.equal 4 (.bool c) (.bool d))=some (c==d) from Ez 9999 4 c d Tryz.underlying4];rfl
   simp only[ah,e,f,Ud];rfl
  .cases h
 .rfl
theorem Pw(f:FuncId)(p:Int×Int->Int->Bool)(xs:List (Int×Int))(ys:List (Int))(r:xs.length<=9223372036854775807)(hf:∀a b,aP prog f [.pv (aC a),.pv (Z b)] [] [] (.pv (B (p a b)))):kY 191 (.sl (xs.map aC)) (.sl (ys.map Z)) (Fv f) (B (decide (xs.length=ys.length)&&fl p xs ys)):=by
 refine Dp func191 λC hP hN=>?_;by_cases l:xs.length=ys.length
 .skip
  refine Gz ?_;refine WP.loopN [8] xs.length (λi e=>e.t 0=.pv (.sl (xs.map aC))/\e.t 1=.pv (.sl (ys.map Z))/\e.t 2=.pv (Fv f)/\e.t 14=.pv (.sl (xs.map aC))/\e.t 15=.pv (Z xs.length)/\e.t 16=.pv (Z i)/\e.h 8=none/\gc p xs ys i=true) (by simp[gc,l]) ?_;rintro i e hi ⟨m,n,o,g,j,k,q,hq⟩;by_cases c:i<xs.length
  .have s:=aj c r
   have d:i<ys.length:=by omega
   have hF:p xs[i] ys[i]=false->fl p xs ys=false:=km c d;have hS:p xs[i] ys[i]=true->gc p xs ys (i+1)=true:=lm c d hq
   with_reducible repeat' (first|refine Sp.h ?_|((first|refine Wd ?_|refine Ss.h ?_|refine Sc.h (hf _ _) ?_|(refine Sb.h ?_ ?_ ?_<;>(try intro hgd)<;>try exact Xy))<;>simp -implicitDefEqProofs (maxSteps:=2000000) [hP,hN,m,n,o,g,j,k,q,c,d,s]<;>try refine Ya ?_)|refine X2 ?_ ?_|(refine Xd ?_ ?_<;>intro hcd<;>try exact Xx))
   all_goals first|exact hF (by simpa using hcd)|simpa using hS (by simpa using hcd)
  .skip
   refine Gz ?_
   all_goals simp[l,ln c hq]
 .skip
  exact Gy
  all_goals simp[l]
theorem Px(f:FuncId)(p:Int×Int->Int×Int->Bool)(xs:List (Int×Int))(ys:List (Int×Int))(r:xs.length<=9223372036854775807)(hf:∀a b,aP prog f [.pv (aC a),.pv (aC b)] [] [] (.pv (B (p a b)))):kY 259 (.sl (xs.map aC)) (.sl (ys.map aC)) (Fv f) (B (decide (xs.length=ys.length)&&fl p xs ys)):=by
 refine Dp func259 λC hP hN=>?_;by_cases l:xs.length=ys.length
 .skip
  refine Gz ?_;refine WP.loopN [8] xs.length (λi e=>e.t 0=.pv (.sl (xs.map aC))/\e.t 1=.pv (.sl (ys.map aC))/\e.t 2=.pv (Fv f)/\e.t 14=.pv (.sl (xs.map aC))/\e.t 15=.pv (Z xs.length)/\e.t 16=.pv (Z i)/\e.h 8=none/\gc p xs ys i=true) (by simp[gc,l]) ?_;rintro i e hi ⟨m,n,o,g,j,k,q,hq⟩;by_cases c:i<xs.length
  .have s:=aj c r
   have d:i<ys.length:=by omega
   have hF:p xs[i] ys[i]=false->fl p xs ys=false:=km c d;have hS:p xs[i] ys[i]=true->gc p xs ys (i+1)=true:=lm c d hq
   with_reducible repeat' (first|refine Sp.h ?_|((first|refine Wd ?_|refine Ss.h ?_|refine Sc.h (hf _ _) ?_|(refine Sb.h ?_ ?_ ?_<;>(try intro hgd)<;>try exact Xy))<;>simp -implicitDefEqProofs (maxSteps:=2000000) [hP,hN,m,n,o,g,j,k,q,c,d,s]<;>try refine Ya ?_)|refine X2 ?_ ?_|(refine Xd ?_ ?_<;>intro hcd<;>try exact Xx))
   all_goals first|exact hF (by simpa using hcd)|simpa using hS (by simpa using hcd)
  .skip
   refine Gz ?_
   all_goals simp[l,ln c hq]
 .skip
  exact Gy
  all_goals simp[l]
theorem Py(f:FuncId)(g:J->Int×Int)(xs:List (J))(q:xs.length<=16777216)(hf:∀a,aP prog f [.pv (bu a)] [] [] (.pv (aC (g a)))):aK 113 (.sl (xs.map bu)) (Fv f) (.sl ((xs.map g).map aC)):=by
 refine Dp func113 λC hP hN=>?_;refine GT (be q (show(16:Int)*xs.length<=281474976710656 by omega) (show(xs.length:Int)<=9223372036854775807 by omega)) ?_
 refine WP.loopN [7] xs.length (λi c=>c.t 0=.pv (.sl (xs.map bu))/\c.t 1=.pv (Fv f)/\c.t 5=.arr 10 xs.length/\c.t 11=.pv (.sl (xs.map bu))/\c.t 12=.pv (Z xs.length)/\c.t 13=.pv (Z i)/\c.h 7=none/\
  ∃L,c.h 10=some (.row 99 2 L 0)/\L.length=xs.length/\∀j,j<i->L[j]?=((xs.map g).map aC)[j]?) (by simp) ?_
 rintro i c hi ⟨m,n,h5,h11,e,k,p,L,hL,d,hq⟩
 have o:L.length=((xs.map g).map aC).length:=by simp[d]
 by_cases b:i<xs.length
 .have r:=aj b (vg q)
  have l:i<L.length:=by omega
  with_reducible repeat' (first|refine Sp.h ?_|((first|refine Ss.h ?_|refine Sc.h (hf _) ?_|(refine Sb.h ?_ ?_ ?_<;>(try intro hgd)<;>try exact Xy))<;>simp -implicitDefEqProofs (maxSteps:=2000000) [hP,hN,m,n,h5,h11,e,k,p,hL,d,b,l,r])|refine X2 ?_ ?_|(refine Xd ?_ ?_<;>intro hcd<;>try exact Xx))
  simpa using If o hq (v:=aC (g xs[i])) (by simp[b])
 .skip
  refine GT (s6 m n h5 h11 e k p hL d b) ?_;simpa using Ig o hq (by simp;omega)
theorem Pz(a:Int×Int)(b:Int):aP prog 192 [.pv (aC a),.pv (Z b)] [] [] (.pv (B (Ih a b))):=LP a.1 a.2 b
theorem KI(a b:Int×Int):aP prog 169 [.pv (aC a),.pv (aC b)] [] [] (.pv (B (dV a b))):=Po a.1 a.2 b.1 b.2
def Ah(xs:List (Int×Int))(ys:List Int):Bool:=decide (xs.length=ys.length)&&fl Ih xs ys
def om(xs ys:List (Int×Int)):Bool:=decide (xs.length=ys.length)&&fl dV xs ys
def zk(x y:Int×Int):Bool:=az x.1 x.2&&az y.1 y.2&&decide (max x.1 y.1<=min x.2 y.2)
def j0(xs ys:List (Int×Int)):Bool:=decide (xs.length=ys.length)&&fl zk xs ys
theorem LW(xs:List (Int×Int))(ys:List Int)(a:xs.length<=9223372036854775807):aK 115 (iv xs) (zs ys) (B (Ah xs ys)):=by
 refine Dp func115 λC hP hN=>?_
 with_reducible repeat' (first|refine Sp.h ?_|((first|refine Ss.h ?_|refine Sc.h (Pw _ Ih _ _ a Pz) ?_|(refine Sb.h ?_ ?_ ?_<;>(try intro hgd)<;>try exact Xy))<;>simp -implicitDefEqProofs (maxSteps:=2000000) [hP,hN])|refine X2 ?_ ?_|(refine Xd ?_ ?_<;>intro hcd<;>try exact Xx))
 all_goals (first|(simp_all[Ah];done)|((try simp_all[Ah])<;>(try omega)<;>grind))
theorem PA(x y:Int×Int):aK 260 (aC x) (aC y) (B (zk x y)):=by
 refine Dp func260 λC hP hN=>?_
 cases h:zk x y with
 |true=>
  have a:(az x.1 x.2&&az y.1 y.2&&decide (max x.1 y.1<=min x.2 y.2))=true:=h;have b:=@LQ;exact GS a
 |false=>
  have a:(az x.1 x.2&&az y.1 y.2&&decide (max x.1 y.1<=min x.2 y.2))=false:=h;have b:=@LQ;exact GS a
theorem PB(xs ys:List (Int×Int))(a:xs.length<=9223372036854775807):aK 203 (iv xs) (iv ys) (B (j0 xs ys)):=by
 refine Dp func203 λC hP hN=>?_
 with_reducible repeat' (first|refine Sp.h ?_|((first|refine Ss.h ?_|refine Sc.h (Px _ zk _ _ a PA) ?_|(refine Sb.h ?_ ?_ ?_<;>(try intro hgd)<;>try exact Xy))<;>simp -implicitDefEqProofs (maxSteps:=2000000) [hP,hN])|refine X2 ?_ ?_|(refine Xd ?_ ?_<;>intro hcd<;>try exact Xx))
 all_goals (first|(simp_all[j0];done)|((try simp_all[j0])<;>(try omega)<;>grind))
end Go.Ab
