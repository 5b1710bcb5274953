/- The contracts and facts that the laws of this seat need, in one text (Ty, CfA). -/
import Derived.Test.YtnhmldjcmpfaeaaGreatF3
import Derived.Test.YtnhmldjcmpfaeaaGreatProg
set_option linter.all false
set_option maxHeartbeats 16000000
namespace Go.Ab
open Go.Proofs
variable {aft:Array Edge}{dst:Option Nat}{g:Option (Nat×Bool)}{i n:Nat}{k:Int}{α β:Type}{ρ:Operand->AV}{f:α->β->Bool}{p:α->Bool}{xs:List α}{ys:List β}
@[simp] theorem RZ:ak Tryz.prog 2=some ⟨1,(some (.int .i64 0)),.one⟩∧dh Tryz.prog 2=some .i64∧ak Tryz.prog 3=some ⟨1,(some (.int .i64 0)),.one⟩∧dh Tryz.prog 3=some .i64∧ak Tryz.prog 4=some ⟨1,(some (.bool false)),.one⟩∧ak Tryz.prog 5=some ⟨1,(some (.int .u8 0)),.one⟩∧dh Tryz.prog 5=some .u8∧ak Tryz.prog 6=some ⟨1,(some (.int .u8 0)),.one⟩∧dh Tryz.prog 6=some .u8∧ak Tryz.prog 7=some ⟨4,(some (.agg #[.int .i64 0,.int .i64 0,.bool false,.int .u8 0])),.struct [(0,1),(1,1),(2,1),(3,1)]⟩∧ak Tryz.prog 8=some ⟨4,(some (.agg #[.int .i64 0,.int .i64 0,.bool false,.int .u8 0])),.struct [(0,1),(1,1),(2,1),(3,1)]⟩∧ak Tryz.prog 9=some ⟨1,(some (.string ByteArray.empty)),.one⟩∧fT Tryz.prog 9=some none∧ak Tryz.prog 10=some ⟨1,(some (.string ByteArray.empty)),.one⟩∧fT Tryz.prog 10=some none∧ak Tryz.prog 11=some ⟨1,(some (.string ByteArray.empty)),.one⟩∧fT Tryz.prog 11=some none∧ak Tryz.prog 12=some ⟨1,(some (.int .u64 0)),.one⟩∧dh Tryz.prog 12=some .u64∧ak Tryz.prog 13=some ⟨2,(some (.agg #[.string ByteArray.empty,.int .u64 0])),.struct [(0,1),(1,1)]⟩∧ak Tryz.prog 14=some ⟨2,(some (.agg #[.string ByteArray.empty,.int .u64 0])),.struct [(0,1),(1,1)]⟩∧ak Tryz.prog 15=some ⟨1,(some (.pointer none)),.one⟩∧ak Tryz.prog 16=some ⟨1,(some (.pointer none)),.one⟩∧ak Tryz.prog 17=some ⟨1,(some (.pointer none)),.one⟩∧ak Tryz.prog 18=some ⟨1,(some (.agg #[.pointer none])),.struct [(0,1)]⟩∧ak Tryz.prog 19=some ⟨1,(some (.agg #[.pointer none])),.struct [(0,1)]⟩∧ak Tryz.prog 21=some ⟨1,(some (.int .i32 0)),.one⟩∧dh Tryz.prog 21=some .i32:=by repeat' (first|kernel_rfl|refine ⟨by kernel_rfl,?_⟩)
@[simp] theorem Rk:ak Tryz.prog 22=some ⟨1,(some (.slice none 0 0)),.slice 3 1 8 (some (.int .i64 0))⟩:=by kernel_rfl
@[simp] theorem Rl:ak Tryz.prog 23=some ⟨1,(some (.slice none 0 0)),.slice 54 12 104 (some (.agg #[.string ByteArray.empty,.int .i64 0,.int .i64 0,.int .i64 0,.int .i64 0,.int .i64 0,.int .i64 0,.int .i64 0,.int .i64 0,.int .i64 0,.int .i64 0,.int .i64 0]))⟩∧ak Tryz.prog 24=some ⟨1,(some (.slice none 0 0)),.slice 142 5 40 (some (.agg #[.int .i64 0,.int .i64 0,.int .i64 0,.int .i64 0,.int .i64 0]))⟩∧ak Tryz.prog 25=some ⟨2,(some (.agg #[.slice none 0 0,.slice none 0 0])),.struct [(0,1),(1,1)]⟩∧ak Tryz.prog 26=some ⟨2,(some (.agg #[.slice none 0 0,.slice none 0 0])),.struct [(0,1),(1,1)]⟩∧ak Tryz.prog 27=some ⟨1,(some (.slice none 0 0)),.slice 52 3 40 (some (.agg #[.int .i64 0,.int .i64 0,.slice none 0 0]))⟩∧ak Tryz.prog 28=some ⟨1,(some (.slice none 0 0)),.slice 83 2 16 (some (.agg #[.int .i64 0,.int .i64 0]))⟩∧ak Tryz.prog 29=some ⟨4,(some (.agg #[.slice none 0 0,.slice none 0 0,.slice none 0 0,.slice none 0 0])),.struct [(0,2),(2,1),(3,1)]⟩∧ak Tryz.prog 30=some ⟨4,(some (.agg #[.slice none 0 0,.slice none 0 0,.slice none 0 0,.slice none 0 0])),.struct [(0,2),(2,1),(3,1)]⟩∧ak Tryz.prog 32=some ⟨1,(some (.slice none 0 0)),.slice 2 1 8 (some (.int .i64 0))⟩∧ak Tryz.prog 35=some ⟨1,(some (.slice none 0 0)),.slice 94 2 16 (some (.agg #[.int .i64 0,.int .i64 0]))⟩∧ak Tryz.prog 36=some ⟨1,(some (.slice none 0 0)),.slice 76 8 112 (some (.agg #[.int .i64 0,.int .i64 0,.int .i64 0,.int .i64 0,.slice none 0 0,.int .i64 0,.slice none 0 0,.slice none 0 0]))⟩∧ak Tryz.prog 37=some ⟨2,(some (.agg #[.slice none 0 0,.slice none 0 0])),.struct [(0,1),(1,1)]⟩∧ak Tryz.prog 38=some ⟨2,(some (.agg #[.slice none 0 0,.slice none 0 0])),.struct [(0,1),(1,1)]⟩∧ak Tryz.prog 44=some ⟨1,(some (.pointer none)),.one⟩∧ak Tryz.prog 48=some ⟨3,(some (.agg #[.int .i64 0,.int .i64 0,.int .i64 0])),.array 3 1⟩∧fT Tryz.prog 48=some (some 3)∧ak Tryz.prog 49=some ⟨3,(some (.agg #[.int .i64 0,.int .i64 0,.int .i64 0])),.array 3 1⟩∧fT Tryz.prog 49=some (some 3)∧ak Tryz.prog 50=some ⟨1,(some (.slice none 0 0)),.slice 49 3 24 (some (.agg #[.int .i64 0,.int .i64 0,.int .i64 0]))⟩∧ak Tryz.prog 51=some ⟨3,(some (.agg #[.int .i64 0,.int .i64 0,.slice none 0 0])),.struct [(0,1),(1,1),(2,1)]⟩∧ak Tryz.prog 52=some ⟨3,(some (.agg #[.int .i64 0,.int .i64 0,.slice none 0 0])),.struct [(0,1),(1,1),(2,1)]⟩∧ak Tryz.prog 53=some ⟨12,(some (.agg #[.string ByteArray.empty,.int .i64 0,.int .i64 0,.int .i64 0,.int .i64 0,.int .i64 0,.int .i64 0,.int .i64 0,.int .i64 0,.int .i64 0,.int .i64 0,.int .i64 0])),.struct [(0,1),(1,1),(2,1),(3,3),(6,1),(7,1),(8,1),(9,1),(10,1),(11,1)]⟩∧ak Tryz.prog 54=some ⟨12,(some (.agg #[.string ByteArray.empty,.int .i64 0,.int .i64 0,.int .i64 0,.int .i64 0,.int .i64 0,.int .i64 0,.int .i64 0,.int .i64 0,.int .i64 0,.int .i64 0,.int .i64 0])),.struct [(0,1),(1,1),(2,1),(3,3),(6,1),(7,1),(8,1),(9,1),(10,1),(11,1)]⟩∧ak Tryz.prog 55=some ⟨1,(some (.int .i64 0)),.one⟩∧dh Tryz.prog 55=some .i64∧ak Tryz.prog 62=some ⟨1,(some (.pointer none)),.one⟩∧ak Tryz.prog 65=some ⟨1,(some (.slice none 0 0)),.slice 35 1 24 (some (.slice none 0 0))⟩:=by repeat' (first|kernel_rfl|refine ⟨by kernel_rfl,?_⟩)
@[simp] theorem Kp:ak Tryz.prog 66=some ⟨1,(some (.slice none 0 0)),.slice 22 1 24 (some (.slice none 0 0))⟩:=by kernel_rfl
@[simp] theorem P2:ak Tryz.prog 67=some ⟨5,(some (.agg #[.slice none 0 0,.slice none 0 0,.slice none 0 0,.slice none 0 0,.slice none 0 0])),.struct [(0,2),(2,1),(3,1),(4,1)]⟩∧ak Tryz.prog 68=some ⟨5,(some (.agg #[.slice none 0 0,.slice none 0 0,.slice none 0 0,.slice none 0 0,.slice none 0 0])),.struct [(0,2),(2,1),(3,1),(4,1)]⟩∧ak Tryz.prog 71=some ⟨3,(some (.agg #[.int .i64 0,.slice none 0 0,.slice none 0 0])),.struct [(0,1),(1,1),(2,1)]⟩∧ak Tryz.prog 72=some ⟨3,(some (.agg #[.int .i64 0,.slice none 0 0,.slice none 0 0])),.struct [(0,1),(1,1),(2,1)]⟩∧ak Tryz.prog 73=some ⟨5,(some (.agg #[.int .i64 0,.slice none 0 0,.int .i64 0,.slice none 0 0,.slice none 0 0])),.struct [(0,1),(1,1),(2,3)]⟩∧ak Tryz.prog 74=some ⟨5,(some (.agg #[.int .i64 0,.slice none 0 0,.int .i64 0,.slice none 0 0,.slice none 0 0])),.struct [(0,1),(1,1),(2,3)]⟩∧ak Tryz.prog 75=some ⟨8,(some (.agg #[.int .i64 0,.int .i64 0,.int .i64 0,.int .i64 0,.slice none 0 0,.int .i64 0,.slice none 0 0,.slice none 0 0])),.struct [(0,1),(1,1),(2,1),(3,5)]⟩∧ak Tryz.prog 76=some ⟨8,(some (.agg #[.int .i64 0,.int .i64 0,.int .i64 0,.int .i64 0,.slice none 0 0,.int .i64 0,.slice none 0 0,.slice none 0 0])),.struct [(0,1),(1,1),(2,1),(3,5)]⟩∧ak Tryz.prog 82=some ⟨2,(some (.agg #[.int .i64 0,.int .i64 0])),.struct [(0,1),(1,1)]⟩∧ak Tryz.prog 83=some ⟨2,(some (.agg #[.int .i64 0,.int .i64 0])),.struct [(0,1),(1,1)]⟩∧ak Tryz.prog 84=some ⟨2,(some (.agg #[.slice none 0 0,.int .i64 0])),.struct [(0,1),(1,1)]⟩∧ak Tryz.prog 85=some ⟨2,(some (.agg #[.slice none 0 0,.int .i64 0])),.struct [(0,1),(1,1)]⟩∧ak Tryz.prog 93=some ⟨2,(some (.agg #[.int .i64 0,.int .i64 0])),.struct [(0,1),(1,1)]⟩∧ak Tryz.prog 94=some ⟨2,(some (.agg #[.int .i64 0,.int .i64 0])),.struct [(0,1),(1,1)]⟩∧ak Tryz.prog 109=some ⟨1,(some (.nilFunc)),.one⟩∧ak Tryz.prog 111=some ⟨4,(some (.agg #[.pointer none,.slice none 0 0,.slice none 0 0,.nilFunc])),.struct [(0,1),(1,1),(2,1),(3,1)]⟩∧ak Tryz.prog 112=some ⟨4,(some (.agg #[.pointer none,.slice none 0 0,.slice none 0 0,.nilFunc])),.struct [(0,1),(1,1),(2,1),(3,1)]⟩∧ak Tryz.prog 118=some ⟨1,(some (.slice none 0 0)),.slice 166 2 16 (some (.agg #[.int .i64 0,.int .i64 0]))⟩∧ak Tryz.prog 119=some ⟨1,(some (.slice none 0 0)),.slice 124 1 24 (some (.slice none 0 0))⟩∧ak Tryz.prog 120=some ⟨3,(some (.agg #[.slice none 0 0,.slice none 0 0,.slice none 0 0])),.struct [(0,1),(1,1),(2,1)]⟩∧ak Tryz.prog 121=some ⟨3,(some (.agg #[.slice none 0 0,.slice none 0 0,.slice none 0 0])),.struct [(0,1),(1,1),(2,1)]⟩∧ak Tryz.prog 124=some ⟨1,(some (.slice none 0 0)),.slice 183 6 48 (some (.agg #[.int .i64 0,.int .i64 0,.int .i64 0,.int .i64 0,.int .i64 0,.int .i64 0]))⟩∧ak Tryz.prog 125=some ⟨4,(some (.agg #[.slice none 0 0,.slice none 0 0,.int .i64 0,.int .i64 0])),.struct [(0,1),(1,1),(2,1),(3,1)]⟩∧ak Tryz.prog 126=some ⟨4,(some (.agg #[.slice none 0 0,.slice none 0 0,.int .i64 0,.int .i64 0])),.struct [(0,1),(1,1),(2,1),(3,1)]⟩∧ak Tryz.prog 130=some ⟨7,(some (.agg #[.int .i64 0,.int .i64 0,.int .i64 0,.int .i64 0,.slice none 0 0,.slice none 0 0,.int .i64 0])),.struct [(0,1),(1,3),(4,1),(5,1),(6,1)]⟩∧ak Tryz.prog 131=some ⟨7,(some (.agg #[.int .i64 0,.int .i64 0,.int .i64 0,.int .i64 0,.slice none 0 0,.slice none 0 0,.int .i64 0])),.struct [(0,1),(1,3),(4,1),(5,1),(6,1)]⟩∧ak Tryz.prog 136=some ⟨3,(some (.agg #[.int .i64 0,.slice none 0 0,.slice none 0 0])),.struct [(0,3)]⟩∧ak Tryz.prog 137=some ⟨3,(some (.agg #[.int .i64 0,.slice none 0 0,.slice none 0 0])),.struct [(0,3)]⟩∧ak Tryz.prog 138=some ⟨1,(some (.agg #[.slice none 0 0])),.struct [(0,1)]⟩∧ak Tryz.prog 139=some ⟨1,(some (.agg #[.slice none 0 0])),.struct [(0,1)]⟩∧ak Tryz.prog 141=some ⟨5,(some (.agg #[.int .i64 0,.int .i64 0,.int .i64 0,.int .i64 0,.int .i64 0])),.struct [(0,1),(1,1),(2,3)]⟩∧ak Tryz.prog 142=some ⟨5,(some (.agg #[.int .i64 0,.int .i64 0,.int .i64 0,.int .i64 0,.int .i64 0])),.struct [(0,1),(1,1),(2,3)]⟩∧ak Tryz.prog 158=some ⟨1,(some (.nilFunc)),.one⟩∧ak Tryz.prog 166=some ⟨2,(some (.agg #[.int .i64 0,.int .i64 0])),.struct [(0,1),(1,1)]⟩∧ak Tryz.prog 168=some ⟨1,(some (.nilFunc)),.one⟩∧ak Tryz.prog 172=some ⟨2,(some (.agg #[.slice none 0 0,.slice none 0 0])),.struct [(0,1),(1,1)]⟩∧ak Tryz.prog 173=some ⟨2,(some (.agg #[.slice none 0 0,.slice none 0 0])),.struct [(0,1),(1,1)]⟩∧ak Tryz.prog 175=some ⟨2,(some (.agg #[.slice none 0 0,.slice none 0 0])),.struct [(0,2)]⟩∧ak Tryz.prog 176=some ⟨2,(some (.agg #[.slice none 0 0,.slice none 0 0])),.struct [(0,2)]⟩∧ak Tryz.prog 177=some ⟨2,(some (.agg #[.slice none 0 0,.slice none 0 0])),.struct [(0,2)]⟩∧ak Tryz.prog 178=some ⟨8,(some (.agg #[.slice none 0 0,.slice none 0 0,.slice none 0 0,.slice none 0 0,.int .i64 0,.int .i64 0,.int .i64 0,.int .i64 0])),.struct [(0,2),(2,2),(4,3),(7,1)]⟩∧ak Tryz.prog 179=some ⟨8,(some (.agg #[.slice none 0 0,.slice none 0 0,.slice none 0 0,.slice none 0 0,.int .i64 0,.int .i64 0,.int .i64 0,.int .i64 0])),.struct [(0,2),(2,2),(4,3),(7,1)]⟩∧ak Tryz.prog 182=some ⟨6,(some (.agg #[.int .i64 0,.int .i64 0,.int .i64 0,.int .i64 0,.int .i64 0,.int .i64 0])),.array 3 2⟩∧fT Tryz.prog 182=none∧o7 Tryz.prog 182=some (3,2)∧ak Tryz.prog 183=some ⟨6,(some (.agg #[.int .i64 0,.int .i64 0,.int .i64 0,.int .i64 0,.int .i64 0,.int .i64 0])),.array 3 2⟩∧fT Tryz.prog 183=none∧o7 Tryz.prog 183=some (3,2)∧ak Tryz.prog 187=some ⟨1,(some (.nilIface)),.one⟩∧ak Tryz.prog 188=some ⟨8,(some (.agg #[.int .i64 0,.int .i64 0,.int .i64 0,.int .i64 0,.int .i64 0,.int .i64 0,.int .i64 0,.int .i64 0])),.array 8 1⟩∧fT Tryz.prog 188=some (some 8)∧ak Tryz.prog 192=some ⟨1,(some (.nilFunc)),.one⟩∧ak Tryz.prog 208=some ⟨1,(some (.slice none 0 0)),.slice 213 24 192 (some (.agg #[.int .i64 0,.int .i64 0,.int .i64 0,.int .i64 0,.int .i64 0,.int .i64 0,.int .i64 0,.int .i64 0,.int .i64 0,.int .i64 0,.int .i64 0,.int .i64 0,.int .i64 0,.int .i64 0,.int .i64 0,.int .i64 0,.int .i64 0,.int .i64 0,.int .i64 0,.int .i64 0,.int .i64 0,.int .i64 0,.int .i64 0,.int .i64 0]))⟩∧ak Tryz.prog 210=some ⟨18,(some (.agg #[.int .i64 0,.int .i64 0,.int .i64 0,.int .i64 0,.int .i64 0,.int .i64 0,.int .i64 0,.int .i64 0,.int .i64 0,.int .i64 0,.int .i64 0,.int .i64 0,.int .i64 0,.int .i64 0,.int .i64 0,.int .i64 0,.int .i64 0,.int .i64 0])),.array 3 6⟩∧fT Tryz.prog 210=none∧o7 Tryz.prog 210=some (3,6)∧ak Tryz.prog 211=some ⟨18,(some (.agg #[.int .i64 0,.int .i64 0,.int .i64 0,.int .i64 0,.int .i64 0,.int .i64 0,.int .i64 0,.int .i64 0,.int .i64 0,.int .i64 0,.int .i64 0,.int .i64 0,.int .i64 0,.int .i64 0,.int .i64 0,.int .i64 0,.int .i64 0,.int .i64 0])),.array 3 6⟩∧fT Tryz.prog 211=none∧o7 Tryz.prog 211=some (3,6)∧ak Tryz.prog 212=some ⟨24,(some (.agg #[.int .i64 0,.int .i64 0,.int .i64 0,.int .i64 0,.int .i64 0,.int .i64 0,.int .i64 0,.int .i64 0,.int .i64 0,.int .i64 0,.int .i64 0,.int .i64 0,.int .i64 0,.int .i64 0,.int .i64 0,.int .i64 0,.int .i64 0,.int .i64 0,.int .i64 0,.int .i64 0,.int .i64 0,.int .i64 0,.int .i64 0,.int .i64 0])),.struct [(0,18),(18,6)]⟩:=by repeat' (first|kernel_rfl|refine ⟨by kernel_rfl,?_⟩)
@[simp] theorem NH:ak Tryz.prog 213=some ⟨24,(some (.agg #[.int .i64 0,.int .i64 0,.int .i64 0,.int .i64 0,.int .i64 0,.int .i64 0,.int .i64 0,.int .i64 0,.int .i64 0,.int .i64 0,.int .i64 0,.int .i64 0,.int .i64 0,.int .i64 0,.int .i64 0,.int .i64 0,.int .i64 0,.int .i64 0,.int .i64 0,.int .i64 0,.int .i64 0,.int .i64 0,.int .i64 0,.int .i64 0])),.struct [(0,18),(18,6)]⟩∧ak Tryz.prog 220=some ⟨2,(some (.agg #[.slice none 0 0,.int .i64 0])),.struct [(0,1),(1,1)]⟩∧ak Tryz.prog 221=some ⟨2,(some (.agg #[.slice none 0 0,.int .i64 0])),.struct [(0,1),(1,1)]⟩∧ak Tryz.prog 222=some ⟨4,(some (.agg #[.slice none 0 0,.int .i64 0,.slice none 0 0,.int .i64 0])),.struct [(0,2),(2,2)]⟩∧ak Tryz.prog 223=some ⟨4,(some (.agg #[.slice none 0 0,.int .i64 0,.slice none 0 0,.int .i64 0])),.struct [(0,2),(2,2)]⟩∧ak Tryz.prog 225=some ⟨1,(some (.pointer none)),.one⟩∧ak Tryz.prog 250=some ⟨1,(some (.nilFunc)),.one⟩∧ak Tryz.prog 251=some ⟨1,(some (.agg #[.nilFunc])),.struct [(0,1)]⟩∧ak Tryz.prog 252=some ⟨1,(some (.agg #[.nilFunc])),.struct [(0,1)]⟩∧ak Tryz.prog 261=some ⟨1,(some (.int .i64 0)),.one⟩∧dh Tryz.prog 261=some .i64∧ak Tryz.prog 266=some ⟨1,(some (.nilFunc)),.one⟩∧ak Tryz.prog 267=some ⟨2,(some (.agg #[.nilFunc,.nilFunc])),.struct [(0,1),(1,1)]⟩∧ak Tryz.prog 268=some ⟨2,(some (.agg #[.nilFunc,.nilFunc])),.struct [(0,1),(1,1)]⟩∧ak Tryz.prog 272=some ⟨1,(some (.int .u64 0)),.one⟩∧dh Tryz.prog 272=some .u64∧ak Tryz.prog 274=some ⟨4,(some (.agg #[.int .i64 0,.int .i64 0,.int .i64 0,.int .i64 0])),.array 4 1⟩∧fT Tryz.prog 274=some (some 4)∧ak Tryz.prog 277=some ⟨1,(some (.int .u64 0)),.one⟩∧dh Tryz.prog 277=some .u64∧ak Tryz.prog 281=some ⟨11,(some (.agg #[.int .i64 0,.int .i64 0,.int .i64 0,.int .i64 0,.int .i64 0,.int .i64 0,.int .i64 0,.int .i64 0,.int .i64 0,.int .i64 0,.int .i64 0])),.array 11 1⟩∧fT Tryz.prog 281=some (some 11)∧ak Tryz.prog 282=some ⟨11,(some (.agg #[.int .i64 0,.int .i64 0,.int .i64 0,.int .i64 0,.int .i64 0,.int .i64 0,.int .i64 0,.int .i64 0,.int .i64 0,.int .i64 0,.int .i64 0])),.array 11 1⟩∧fT Tryz.prog 282=some (some 11)∧ak Tryz.prog 287=some ⟨4,(some (.agg #[.pointer none,.pointer none,.pointer none,.string ByteArray.empty])),.struct [(0,1),(1,1),(2,1),(3,1)]⟩∧ak Tryz.prog 288=some ⟨4,(some (.agg #[.pointer none,.pointer none,.pointer none,.string ByteArray.empty])),.struct [(0,1),(1,1),(2,1),(3,1)]⟩∧ak Tryz.prog 289=some ⟨0,(some (.agg #[])),.array 0 1⟩∧fT Tryz.prog 289=some (some 0)∧ak Tryz.prog 290=some ⟨0,(some (.agg #[])),.struct [(0,0)]⟩∧ak Tryz.prog 291=some ⟨0,(some (.agg #[])),.struct [(0,0)]⟩∧ak Tryz.prog 293=some ⟨1,(some (.int .u32 0)),.one⟩∧dh Tryz.prog 293=some .u32∧ak Tryz.prog 294=some ⟨1,(some (.int .u8 0)),.one⟩∧dh Tryz.prog 294=some .u8∧ak Tryz.prog 295=some ⟨1,(some (.int .u8 0)),.one⟩∧dh Tryz.prog 295=some .u8∧ak Tryz.prog 296=some ⟨1,(some (.nilFunc)),.one⟩∧ak Tryz.prog 297=some ⟨1,(some (.pointer none)),.one⟩∧ak Tryz.prog 298=some ⟨1,(some (.int .i32 0)),.one⟩∧dh Tryz.prog 298=some .i32∧ak Tryz.prog 299=some ⟨1,(some (.int .i32 0)),.one⟩∧dh Tryz.prog 299=some .i32∧ak Tryz.prog 300=some ⟨11,(some (.agg #[.int .u64 0,.int .u64 0,.int .u32 0,.int .u8 0,.int .u8 0,.int .u8 0,.int .u8 0,.nilFunc,.pointer none,.int .i32 0,.int .i32 0])),.struct [(0,1),(1,1),(2,1),(3,1),(4,1),(5,1),(6,1),(7,1),(8,1),(9,1),(10,1)]⟩∧ak Tryz.prog 301=some ⟨11,(some (.agg #[.int .u64 0,.int .u64 0,.int .u32 0,.int .u8 0,.int .u8 0,.int .u8 0,.int .u8 0,.nilFunc,.pointer none,.int .i32 0,.int .i32 0])),.struct [(0,1),(1,1),(2,1),(3,1),(4,1),(5,1),(6,1),(7,1),(8,1),(9,1),(10,1)]⟩:=by repeat' (first|kernel_rfl|refine ⟨by kernel_rfl,?_⟩)
abbrev I(lo hi:Int):PV:=.val (.agg #[.int .i64 lo,.int .i64 hi])
abbrev aU(x:Int×Int):PV:=I x.1 x.2
abbrev B(b:Bool):PV:=.val (.bool b)
abbrev Z(n:Int):PV:=.val (.int .i64 n)
abbrev wr(n:Int):Int:=IntKind.i64.wrap n
def aC(lo hi:Int):Bool:=decide (-2147483648<=lo)&&decide (lo<=hi)&&decide (hi<=2147483648)
theorem NI(a b c d:Int):al Tryz.prog (Op.equal 94 (.agg #[.int .i64 a,.int .i64 b]) (.agg #[.int .i64 c,.int .i64 d]))=some (a==c&&b==d):=by
 have hf:(Tryz.prog.fieldsOf 94).toList=[(Tryz.prog.fieldsOf 94)[0]!,(Tryz.prog.fieldsOf 94)[1]!]:=by kernel_rfl
 show al Tryz.prog (Op.equalIn (9999+1) 94 _ _)=_;rw[y8 9999 94 _ _ (by kernel_rfl) (by kernel_rfl),hf]
 have h:=uo (P:=Tryz.prog) (d:=9999) (xs:=#[.int .i64 a,.int .i64 b]) (ys:=#[.int .i64 c,.int .i64 d]) (f:=(Tryz.prog.fieldsOf 94)[0]!) (fs:=[(Tryz.prog.fieldsOf 94)[1]!]) (a:=.int .i64 a) (b:=.int .i64 c) (by decide +kernel) (by kernel_rfl) (by kernel_rfl) (tn 9998 _ .i64 .i64 a c (by kernel_rfl))
  (uo (by decide +kernel) (a:=.int .i64 b) (b:=.int .i64 d) (by kernel_rfl) (by kernel_rfl) (tn 9998 _ .i64 .i64 b d (by kernel_rfl)) Eo)
 rw[h];simp
def mF(P:Program)(o:Oper)(ρ:Operand->AV):Option dm:=bz P o ρ
def uw(x:AV):Option (Int×Int):=match x with
 |.pv (.val (.agg vs))=>match vs.toList with
  |[.int .i64 a,.int .i64 b]=>some (a,b)
  |_=>none
 |_=>none
theorem oa{x:AV}{a b:Int}(h:uw x=some (a,b)):x=.pv (I a b):=by
 unfold uw at h;split at h
 .split at h
  .rename_i vs _ a' b' hv
   injection h with h;injection h with h1 h2;subst h1;subst h2;rw[<-Array.toArray_toList (xs:=vs),hv]
  .cases h
 .cases h
def Fq(x y:AV)(fb:Option dm):Option dm:=match uw x,uw y with
 |some (a,b),some (c,d)=>some (.pv (.val (.bool !(a==c&&b==d))),[])
 |_,_=>fb
@[simp] theorem Kr(a b c d:Int)(fb:Option dm):Fq (.pv (.val (.agg #[.int .i64 a,.int .i64 b]))) (.pv (.val (.agg #[.int .i64 c,.int .i64 d]))) fb=some (.pv (.val (.bool !(a==c&&b==d))),[]):=rfl
@[simp] theorem Q1{ty:TypeId}{pos:String}(x y:Operand):
 bz Tryz.prog ⟨dst,.binOp .neq 94 x y 94,ty,pos,aft,g⟩ ρ=Fq (ρ x) (ρ y) (mF Tryz.prog ⟨dst,.binOp .neq 94 x y 94,ty,pos,aft,g⟩ ρ):=by
 unfold Fq;split
 .rename_i a b c d hx hy
  exact wW rfl (oa hx) (oa hy) (by kernel_rfl) (NI a b c d)
 .rfl
theorem CI(lo hi:Int):aa Tryz.prog 91 [.pv (I lo hi)] [] [] (.pv (B (aC lo hi))):=by
 refine Dp Tryz.func91 ?_;intro C hP hN;simp only[Tryz.f91]at hN|-
 with_reducible repeat' (first|refine Sp.h ?_|((first|refine Ss.h ?_|(refine Sb.h ?_ ?_ ?_<;>(try intro hgd)<;>try exact Xy))<;>simp -implicitDefEqProofs (maxSteps:=2000000) [hP,hN])|refine X2 ?_ ?_|(refine Xd ?_ ?_<;>intro hcd<;>try exact Xx))
 all_goals (first|(simp_all[aC];done)|((try simp_all[aC])<;>(try omega)<;>grind))
theorem IA(a b c d:Int):aa Tryz.prog 111 [.pv (I a b),.pv (I c d)] [] [] (.pv (B (aC a b&&aC c d))):=by
 refine Dp Tryz.func111 ?_;intro C hP hN;simp only[Tryz.f111]at hN|-
 with_reducible repeat' (first|refine Sp.h ?_|((first|refine Ss.h ?_|refine Sc.h (CI _ _) ?_|(refine Sb.h ?_ ?_ ?_<;>(try intro hgd)<;>try exact Xy))<;>simp -implicitDefEqProofs (maxSteps:=2000000) [hP,hN])|refine X2 ?_ ?_|(refine Xd ?_ ?_<;>intro hcd<;>try exact Xx))
 all_goals (first|(simp_all;done)|((try simp_all)<;>(try omega)<;>grind))
theorem NG(a b c d:Int):aa Tryz.prog 77 [.pv (I a b),.pv (I c d)] [] [] (.pv (B (aC a b&&aC c d&&decide (c<=a)&&decide (b<=d)))):=by
 refine Dp Tryz.func77 ?_;intro C hP hN;simp only[Tryz.f77]at hN|-
 with_reducible repeat' (first|refine Sp.h ?_|((first|refine Ss.h ?_|refine Sc.h (IA _ _ _ _) ?_|(refine Sb.h ?_ ?_ ?_<;>(try intro hgd)<;>try exact Xy))<;>simp -implicitDefEqProofs (maxSteps:=2000000) [hP,hN])|refine X2 ?_ ?_|(refine Xd ?_ ?_<;>intro hcd<;>try exact Xx))
 all_goals (first|(simp_all;done)|((try simp_all)<;>(try omega)<;>grind))
def tp(n k:Int):Int:=if n.tmod k<0 then wr (n.tmod k+k)else n.tmod k
theorem d7(n k:Int)(hk:k≠0):aa Tryz.prog 7 [.pv (Z n),.pv (Z k)] [] [] (.pv (Z (tp n k))):=by
 refine Dp Tryz.func7 ?_;intro C hP hN;simp only[Tryz.f7]at hN|-
 with_reducible repeat' (first|refine Sp.h ?_|((first|refine Ss.h ?_|(refine Sb.h ?_ ?_ ?_<;>(try intro hgd)<;>try exact Xy))<;>simp -implicitDefEqProofs (maxSteps:=2000000) [hP,hN,hk])|refine X2 ?_ ?_|(refine Xd ?_ ?_<;>intro hcd<;>try exact Xx))
 all_goals (first|(simp_all[tp];done)|((try simp_all[tp])<;>(try omega)<;>grind))
@[simp] theorem Nm(a b:Int):(if b<a then b else a)=min a b:=by split<;>omega
@[simp] theorem Nn(a b:Int):(if a<b then b else a)=max a b:=by split<;>omega
theorem ab{n:Int}(h1:-9223372036854775808<=n:=by omega)(h2:n<9223372036854775808:=by omega):wr n=n:=by
 rw[wr,IntKind.wrap_i64];omega
theorem JR(hk:k<64):min k.toNat 64=k.toNat:=by omega
theorem Ik:IntKind.i64.bits=64:=rfl
theorem I6(a:Int):aa Tryz.prog 194 [.pv (Z a)] [] [] (.pv (Z (min (max a (-2147483648)) 2147483648))):=by
 refine Dp Tryz.func194 ?_;intro C hP hN;simp only[Tryz.f194]at hN|-;exact Gy
 all_goals (first|(simp_all;done)|((try simp_all)<;>(try omega)<;>grind))
theorem Jf(a b:Int):aa Tryz.prog 187 [.pv (Z a),.pv (Z b)] [] [] (.pv (I (min (max a (-2147483648)) 2147483648) (min (max b (-2147483648)) 2147483648))):=by
 refine Dp Tryz.func187 ?_;intro C hP hN;simp only[Tryz.f187]at hN|-;have q1:=@I6;exact GS trivial
 all_goals (first|(simp_all;done)|((try simp_all)<;>(try omega)<;>grind))
theorem MC(a:Int):aa Tryz.prog 173 [.pv (Z a)] [] [] (.pv (I (min (max a (-2147483648)) 2147483648) (min (max a (-2147483648)) 2147483648))):=by
 refine Dp Tryz.func173 ?_;intro C hP hN;simp only[Tryz.f173]at hN|-;have q1:=@Jf;exact GS trivial
 all_goals (first|(simp_all;done)|((try simp_all)<;>(try omega)<;>grind))
theorem ui(a k:Int)(h:0<=k)(hk:k<64):aa Tryz.prog 118 [.pv (Z a),.pv (Z k)] [] [] (.pv (Z (a.fdiv (2^k.toNat)))):=by
 refine Dp Tryz.func118 ?_;intro C hP hN;simp only[Tryz.f118]at hN|-;exact GS (gA h (gA @Ik (JR hk)))
 all_goals (first|(simp_all;done)|((try simp_all)<;>(try omega)<;>grind))
def oc(x y:Int×Int):Int×Int:=if aC x.1 x.2&&aC y.1 y.2 then(min x.1 y.1,max x.2 y.2)else(0,0)
theorem I0(a b c d:Int):aa Tryz.prog 207 [.pv (I a b),.pv (I c d)] [] [] (.pv (aU (oc (a,b) (c,d)))):=by
 refine Dp Tryz.func207 ?_;intro C hP hN;simp only[Tryz.f207]at hN|-
 with_reducible repeat' (first|refine Sp.h ?_|((first|refine Ss.h ?_|refine Sc.h (IA _ _ _ _) ?_|(refine Sb.h ?_ ?_ ?_<;>(try intro hgd)<;>try exact Xy))<;>simp -implicitDefEqProofs (maxSteps:=2000000) [hP,hN])|refine X2 ?_ ?_|(refine Xd ?_ ?_<;>intro hcd<;>try exact Xx))
 all_goals (first|(simp_all[oc];done)|((try simp_all[oc])<;>(try omega)<;>grind))
theorem xm(a b:Int):aa Tryz.prog 84 [.pv (I a b)] [] [] (.pv (Z (if aC a b then wr (b-a)else 0))):=by
 refine Dp Tryz.func84 ?_;intro C hP hN;simp only[Tryz.f84]at hN|-
 with_reducible repeat' (first|refine Sp.h ?_|((first|refine Ss.h ?_|refine Sc.h (CI _ _) ?_|(refine Sb.h ?_ ?_ ?_<;>(try intro hgd)<;>try exact Xy))<;>simp -implicitDefEqProofs (maxSteps:=2000000) [hP,hN])|refine X2 ?_ ?_|(refine Xd ?_ ?_<;>intro hcd<;>try exact Xx))
 all_goals (first|(simp_all;done)|((try simp_all)<;>(try omega)<;>grind))
theorem IW(a b:Int):aa Tryz.prog 85 [.pv (I a b)] [] [] (.pv (Z (if aC a b then(wr (a+b)).fdiv 2 else 0))):=by
 refine Dp Tryz.func85 ?_;intro C hP hN;simp only[Tryz.f85]at hN|-
 with_reducible repeat' (first|refine Sp.h ?_|((first|refine Ss.h ?_|refine Sc.h (CI _ _) ?_|refine Sc.h (ui _ _ (by decide) (by decide)) ?_|(refine Sb.h ?_ ?_ ?_<;>(try intro hgd)<;>try exact Xy))<;>simp -implicitDefEqProofs (maxSteps:=2000000) [hP,hN])|refine X2 ?_ ?_|(refine Xd ?_ ?_<;>intro hcd<;>try exact Xx))
 all_goals (first|(simp_all;done)|((try simp_all)<;>(try omega)<;>grind))
theorem JD(a b x:Int):aa Tryz.prog 124 [.pv (I a b),.pv (Z x)] [] [] (.pv (B (aC a b&&decide (a<=x)&&decide (x<=b)))):=by
 refine Dp Tryz.func124 ?_;intro C hP hN;simp only[Tryz.f124]at hN|-
 with_reducible repeat' (first|refine Sp.h ?_|((first|refine Ss.h ?_|refine Sc.h (CI _ _) ?_|(refine Sb.h ?_ ?_ ?_<;>(try intro hgd)<;>try exact Xy))<;>simp -implicitDefEqProofs (maxSteps:=2000000) [hP,hN])|refine X2 ?_ ?_|(refine Xd ?_ ?_<;>intro hcd<;>try exact Xx))
 all_goals (first|(simp_all;done)|((try simp_all)<;>(try omega)<;>grind))
theorem Gg(a b c d:Int):aa Tryz.prog 122 [.pv (I a b),.pv (I c d)] [] [] (.pv (.tup (if aC a b&&aC c d&&decide (max a c<=min b d)then[I (max a c) (min b d),B true]else[I 0 0,B false]))):=by
 refine Dp Tryz.func122 ?_;intro C hP hN;simp only[Tryz.f122]at hN|-
 with_reducible repeat' (first|refine Sp.h ?_|((first|refine Ss.h ?_|refine Sc.h (IA _ _ _ _) ?_|(refine Sb.h ?_ ?_ ?_<;>(try intro hgd)<;>try exact Xy))<;>simp -implicitDefEqProofs (maxSteps:=2000000) [hP,hN])|refine X2 ?_ ?_|(refine Xd ?_ ?_<;>intro hcd<;>try exact Xx))
 all_goals (first|(simp_all;done)|((try simp_all)<;>(try omega)<;>grind))
abbrev zs(xs:List Int):PV:=.sl (xs.map Z)
abbrev iv(xs:List (Int×Int)):PV:=.sl (xs.map aU)
abbrev Fv(f:FuncId):PV:=.val (.func (.func f) #[] #[])
theorem pY(h:n<=16777216):n<=9223372036854775807:=by omega
theorem au(h:i<n)(hn:n<=9223372036854775807):IntKind.i64.wrap ((i:Int)+1)=(i:Int)+1:=by rw[IntKind.wrap_i64];omega
def mG(p:α->Bool)(xs:List α):Int:=match xs.findIdx? p with
 |some i=>i
 |none=>-1
theorem od(hlt:i<xs.length)(hq:∀j x,j<i->xs[j]?=some x->p x=false)(hp:p xs[i]=true):mG p xs=i:=by
 have:xs.findIdx? p=some i:=by
  rw[List.findIdx?_eq_some_iff_getElem];refine⟨hlt,hp,λj hj=>?_⟩
  have hjl:j<xs.length:=by omega
  rw[hq j xs[j] hj (List.getElem?_eq_getElem hjl)];simp
 simp[mG,this]
theorem tu(hq:∀(j:Nat) x,xs[j]?=some x->p x=false):mG p xs=-1:=by
 have:xs.findIdx? p=none:=by
  rw[List.findIdx?_eq_none_iff];intro x hx;obtain⟨j,hj,rfl⟩:=List.mem_iff_getElem.1 hx;exact hq j _ (List.getElem?_eq_getElem hj)
 simp[mG,this]
theorem rZ(p:α->Bool)(xs:List α):decide (0<=mG p xs)=xs.any p:=by
 unfold mG
 cases h:xs.findIdx? p with
 |none=>
  rw[List.findIdx?_eq_none_iff]at h
  have:xs.any p=false:=by
   rw[List.any_eq_false];intro x hx;rw[h x hx];simp
  simp[this]
 |some i=>
  rw[List.findIdx?_eq_some_iff_getElem]at h;obtain⟨hl,hp,_⟩:=h;have:xs.any p=true:=List.any_eq_true.2 ⟨xs[i],List.getElem_mem hl,hp⟩;simp[this]
theorem nq(hlt:i<xs.length)(hq:∀j x,j<i->xs[j]?=some x->p x=false)(hp:p xs[i]=false):∀j x,j<i+1->xs[j]?=some x->p x=false:=by
 intro j x hj hx;by_cases e:j=i
 .subst e;rw[List.getElem?_eq_getElem hlt]at hx;injection hx with hx;subst hx;exact hp
 .exact hq j x (by omega) hx
theorem na(hlt:¬i<xs.length)(hq:∀j x,j<i->xs[j]?=some x->p x=false):∀(j:Nat) x,xs[j]?=some x->p x=false:=by
 intro j x hx;have:=(List.getElem?_eq_some_iff.1 hx).1;exact hq j x (by omega) hx
theorem Li(f:FuncId)(p:Int×Int->Bool)(xs:List (Int×Int))(hl:xs.length<=9223372036854775807)(hf:∀x,aa Tryz.prog f [.pv (aU x)] [] [] (.pv (B (p x)))):aa Tryz.prog 153 [.pv (iv xs),.pv (Fv f)] [] [] (.pv (Z (mG p xs))):=by
 refine Dp Tryz.func153 ?_;intro C hP hN;simp only[Tryz.f153]at hN|-;refine Gz ?_;refine WP.loopN [] xs.length (λi st=>st.t 0=.pv (iv xs)∧st.t 1=.pv (Fv f)∧st.t 7=.pv (Z xs.length)∧st.t 8=.pv (Z i)∧∀j x,j<i->xs[j]?=some x->p x=false) (by simp) ?_;rintro i st hi ⟨h0,h1,h7,h8,hq⟩;by_cases hlt:i<xs.length
 .have hw:=au hlt hl
  with_reducible repeat' (first|refine Sp.h ?_|((first|refine Ss.h ?_|refine Sc.h (hf _) ?_|(refine Sb.h ?_ ?_ ?_<;>(try intro hgd)<;>try exact Xy))<;>simp -implicitDefEqProofs (maxSteps:=2000000) [hP,hN,h0,h1,h7,h8,hlt,hw])|refine X2 ?_ ?_|(refine Xd ?_ ?_<;>intro hcd<;>try exact Xx))
  .exact(od hlt hq hcd).symm
  .simpa using nq hlt hq hcd
 .skip
  refine Gz ?_;exact(tu (na hlt hq)).symm
theorem Hu(f:FuncId)(p:Int×Int->Bool)(xs:List (Int×Int))(hl:xs.length<=9223372036854775807)(hf:∀x,aa Tryz.prog f [.pv (aU x)] [] [] (.pv (B (p x)))):aa Tryz.prog 116 [.pv (iv xs),.pv (Fv f)] [] [] (.pv (B (xs.any p))):=by
 refine Dp Tryz.func116 ?_;intro C hP hN;simp only[Tryz.f116]at hN|-;have q1:=Li _ _ _ hl hf;refine GT trivial ?_
 all_goals (first|(simp_all[rZ];done)|((try simp_all[rZ])<;>(try omega)<;>grind))
def bi(p:α->Bool)(xs:List α):Bool:=xs.all p
theorem Cm(p:α->Bool)(xs:List α):(xs.any λx=>!p x)=!bi p xs:=by simp[bi,List.any_eq_not_all_not]
abbrev vI(x:Int×Int):Bool:=aC x.1 x.2
theorem t5(x:Int×Int):aa Tryz.prog 117 [.pv (aU x)] [] [] (.pv (B (!aC x.1 x.2))):=by
 refine Dp Tryz.func117 ?_;intro C hP hN;simp only[Tryz.f117]at hN|-;have q1:=@CI;exact GS trivial
 all_goals (first|(simp_all;done)|((try simp_all)<;>(try omega)<;>grind))
theorem GR(xs:List (Int×Int))(hl:xs.length<=9223372036854775807):aa Tryz.prog 83 [.pv (iv xs)] [] [] (.pv (B (bi vI xs))):=by
 refine Dp Tryz.func83 ?_;intro C hP hN;simp only[Tryz.f83]at hN|-;have q1:=Hu _ _ _ hl t5;exact GS (Cm vI xs)
 all_goals (first|(simp_all;done)|((try simp_all)<;>(try omega)<;>grind))
theorem Fr{T L:List PV}{v:PV}(hlen:L.length=T.length)(h:∀j,j<i->L[j]?=T[j]?)(hv:T[i]?=some v):∀j,j<i+1->(L.set i v)[j]?=T[j]?:=by
 intro j hj;have hi:i<T.length:=(List.getElem?_eq_some_iff.1 hv).1;by_cases e:j=i
 .subst e;rw[hv,List.getElem?_set_self (by omega)]
 .rw[List.getElem?_set_ne (by omega)];exact h j (by omega)
theorem Fs{T L:List PV}(hlen:L.length=T.length)(h:∀j,j<i->L[j]?=T[j]?)(hi:T.length<=i):L=T:=by
 apply List.ext_getElem?;intro j;by_cases e:j<i
 .exact h j e
 .rw[List.getElem?_eq_none (by omega),List.getElem?_eq_none (by omega)]
theorem tw(hlt:i<xs.length)(hp:p xs[i]=false):bi p xs=false:=by
 rw[bi,List.all_eq_false];exact⟨xs[i],List.getElem_mem hlt,by simp[hp]⟩
theorem yn(hlt:i<xs.length)(h:bi p (xs.take i)=true)(hp:p xs[i]=true):bi p (xs.take (i+1))=true:=by
 unfold bi at *;rw[List.take_succ_eq_append_getElem hlt,List.all_append,h];simp[hp]
theorem r5(hlt:¬i<xs.length)(h:bi p (xs.take i)=true):bi p xs=true:=by
 rwa [List.take_of_length_le (by omega)]at h
theorem Es(hn:xs.length=n)(hi:¬i<n):xs.take i=xs:=List.take_of_length_le (by omega)
def fp(f:α->β->Bool)(xs:List α)(ys:List β):Bool:=(List.zipWith f xs ys).all id
def fM(f:α->β->Bool)(xs:List α)(ys:List β)(i:Nat):Bool:=((List.zipWith f xs ys).take i).all id
theorem km(hlt:i<xs.length)(hlt':i<ys.length)(hp:f xs[i] ys[i]=false):fp f xs ys=false:=
 tw (p:=id) (xs:=List.zipWith f xs ys) (i:=i) (by simp;omega) (by simpa using hp)
theorem lr(hlt:i<xs.length)(hlt':i<ys.length)(h:fM f xs ys i=true)(hp:f xs[i] ys[i]=true):fM f xs ys (i+1)=true:=
 yn (p:=id) (xs:=List.zipWith f xs ys) (i:=i) (by simp;omega) h (by simpa using hp)
theorem lu(hlt:¬i<xs.length)(h:fM f xs ys i=true):fp f xs ys=true:=
 r5 (p:=id) (xs:=List.zipWith f xs ys) (i:=i) (by simp;omega) h
def oH(x y:Int×Int):Bool:=aC x.1 x.2&&aC y.1 y.2&&decide (y.1<=x.1)&&decide (x.2<=y.2)
def mH(x:Int×Int)(c:Int):Bool:=aC x.1 x.2&&decide (x.1<=c)&&decide (c<=x.2)
def cV(x:Int×Int):Int:=if aC x.1 x.2 then wr (x.2-x.1)else 0
def ic(x:Int×Int):Int:=if aC x.1 x.2 then(wr (x.1+x.2)).fdiv 2 else 0
def br(xs:List (Int×Int))(j:Int):Bool:=decide (0<=j)&&bi vI xs&&(match xs[j.toNat]? with|some x=>decide (2<=cV x)|none=>false)
def cF(xs:List (Int×Int))(j:Int):List (Int×Int):=if br xs j then(match xs[j.toNat]? with|some x=>xs.set j.toNat (x.1,ic x)|none=>[])else[]
def cG(xs:List (Int×Int))(j:Int):List (Int×Int):=if br xs j then(match xs[j.toNat]? with|some x=>xs.set j.toNat (ic x,x.2)|none=>[])else[]
theorem I1(xs:List (Int×Int))(j:Int)(hl:xs.length<=16777216):aa Tryz.prog 45 [.pv (iv xs),.pv (Z j)] [] [] (.pv (.tup [iv (cF xs j),iv (cG xs j),B (br xs j)])):=by
 refine Dp Tryz.func45 ?_;intro C hP hN;simp only[Tryz.f45]at hN|-;by_cases hj:0<=j
 .obtain⟨n,rfl⟩:=Int.eq_ofNat_of_zero_le hj
  by_cases hlt:n<xs.length
  .cases hv:bi vI xs with
   |false=>
    have q1:=GR _ (pY hl);refine GT (gA hlt hv) ?_
    all_goals simp[cF,cG,br,hv]
   |true=>
    have hx:=List.getElem?_eq_getElem hlt;generalize hxx:xs[n]=x at hx;by_cases hwd:cV x<2
    .have hwd':=hwd
     simp only[cV]at hwd'
     with_reducible repeat' (first|refine Sp.h ?_|((first|refine Wd ?_|refine Ss.h ?_|refine Sc.h (GR _ (pY hl)) ?_|refine Sc.h (xm _ _) ?_|(refine Sb.h ?_ ?_ ?_<;>(try intro hgd)<;>try exact Xy))<;>simp -implicitDefEqProofs (maxSteps:=2000000) [hP,hN,hlt,hv,hx,hxx,hwd']<;>try refine Ya ?_)|refine X2 ?_ ?_|(refine Xd ?_ ?_<;>intro hcd<;>try exact Xx))
     all_goals simp[cF,cG,br,hv,hx,Int.not_le.2 hwd]
    .have hwd':=hwd
     simp only[cV]at hwd'
     with_reducible repeat' (first|refine Sp.h ?_|((first|refine Wd ?_|refine Ss.h ?_|refine Sc.h (GR _ (pY hl)) ?_|refine Sc.h (xm _ _) ?_|refine Sc.h (IW _ _) ?_|(refine Sb.h ?_ ?_ ?_<;>(try intro hgd)<;>try exact Xy))<;>simp -implicitDefEqProofs (maxSteps:=2000000) [hP,hN,hlt,hv,hx,hxx,hwd',show(16:Int)*xs.length<=281474976710656 by omega,show(xs.length:Int)<=9223372036854775807 by omega]<;>try refine Ya ?_)|refine X2 ?_ ?_|(refine Xd ?_ ?_<;>intro hcd<;>try exact Xx))
     have hok:br xs (n:Int)=true:=by simp[br,hv,hx,Int.not_lt.1 hwd]
     have ht:List.take xs.length (List.map aU xs)=List.map aU xs:=List.take_of_length_le (by simp);simp[cF,cG,hok,hx,ht,List.map_set,ic]
  .skip
   have q1:=GR _ (pY hl);refine GT hlt ?_
   all_goals (have hx:xs[n]?=none:=List.getElem?_eq_none (by omega));simp[cF,cG,br,hx]
 .skip
  have q1:=GR _ (pY hl);refine GT (gA hj (show j<0 by omega)) ?_
  all_goals simp[cF,cG,br,hj]
def nx(l:List Int)(n:Nat)(k:Int):Int:=match l[n]? with
 |some x=>tp x k
 |none=>0
def nn(l:List Int)(n:Nat):Nat:=if n<l.length then n+1 else n
abbrev gx(l:List Int)(n:Nat):List PV:=[zs l,Z n]
theorem FD(l:List Int):aa Tryz.prog 11 [.pv (zs l)] [] [] (.box (gx l 0)):=by
 refine Dp Tryz.func11 ?_;intro C hP hN;simp only[Tryz.f11]at hN|-;exact Gy
 all_goals (first|(simp_all;done)|((try simp_all)<;>(try omega)<;>grind))
theorem lV(l:List Int)(n:Nat):nn l n<=n+1:=by unfold nn;split<;>omega
theorem NV(l:List Int)(n:Nat)(k:Int)(hk:k≠0)(hn:n<1000000):aa Tryz.prog 12 [.bx 0,.pv (Z k)] [gx l n] [gx l (nn l n)] (.pv (Z (nx l n k))):=by
 have hw:IntKind.i64.wrap ((n:Int)+1)=(n:Int)+1:=by rw[IntKind.wrap_i64];omega
 have hw':IntKind.i64.wrap (n:Int)=n:=by rw[IntKind.wrap_i64];omega
 refine qU Tryz.func12 rfl (by kernel_rfl) (by simp[Tryz.f12]) rfl (by intro i j h;rcases i with _|_|_|i<;>simp_all) ?_;intro C hP hN;simp only[Tryz.f12]at hN|-;by_cases hlt:n<l.length
 .skip
  with_reducible repeat' (first|refine Sp.h ?_|((first|refine Wd ?_|refine Ss.h ?_|refine Sc.h (d7 _ _ hk) ?_|(refine Sb.h ?_ ?_ ?_<;>(try intro hgd)<;>try exact Xy))<;>simp -implicitDefEqProofs (maxSteps:=2000000) [hP,hN,gx,hlt,hw,hw',Nat.not_le.2 hlt]<;>try refine Ya ?_)|refine X2 ?_ ?_|(refine Xd ?_ ?_<;>intro hcd<;>try exact Xx))
  simp[nn,nx,hlt]
 .skip
  refine Gz ?_;simp[nn,nx,hlt]
theorem Ks(l:List Int)(n:Nat)(k:Int)(h0:0<k)(hk:k<1000000)(hn:n<1000000):aa Tryz.prog 27 [.bx 0,.pv (Z k)] [gx l n] [gx l (nn l n)] (.pv (Z (wr (nx l n (2*k+1)-k)))):=by
 have hw:IntKind.i64.wrap (2*k)=2*k:=by rw[IntKind.wrap_i64];omega
 have hw':IntKind.i64.wrap (2*k+1)=2*k+1:=by rw[IntKind.wrap_i64];omega
 refine qU Tryz.func27 rfl (by kernel_rfl) (by simp[Tryz.f27]) rfl (by intro i j h;rcases i with _|_|_|i<;>simp_all) ?_;intro C hP hN;simp only[Tryz.f27]at hN|-;have q1:=NV l n (2*k+1) (by omega) hn;exact GS (gA @gx.eq_1 (gA hw hw'))
theorem ld(l:List Int)(n:Nat)(hk:0<k)(hk':k<4611686018427387904):0<=nx l n k∧nx l n k<k:=by
 unfold nx;split
 .rename_i x _
  have h1:-k<x.tmod k:=by have:=Int.lt_tmod_of_pos x hk;omega
  have h2:x.tmod k<k:=Int.tmod_lt_of_pos x hk;unfold tp;split
  .rw[ab (by omega) (by omega)];omega
  .omega
 .omega
def CO(a:Int):Int:=if a=2 then 1 else if a=3 then 2 else if a=4 then 4 else if a=5 then 5 else if a=7 then 0 else 3
theorem Gd{c:Int}(h0:0<=c)(h8:c<8):∀h,([.int .i64 3,.int .i64 3,.int .i64 1,.int .i64 2,.int .i64 4,.int .i64 5,.int .i64 3,.int .i64 0]:List Value)[c.toNat]'h=.int .i64 (CO c):=by
 have:c=0∨c=1∨c=2∨c=3∨c=4∨c=5∨c=6∨c=7:=by omega
 rcases this with rfl|rfl|rfl|rfl|rfl|rfl|rfl|rfl<;>(intro h;rfl)
def yr(i:Nat):ByteArray:=⟨#[UInt8.ofNat (97+i)]⟩
abbrev xc:Value:=.string ⟨#[97,98,99,100,101,102,103,104,105,106]⟩
def xd(i:Nat):Operand->AV:=λx=>match x with
 |.tmp 3=>.pv (Z i)
 |.tmp 5=>.pv (Z ((i:Int)+1))
 |_=>.pv (.val xc)
section
variable {dst:Option Nat} {ty:TypeId} {pos:String} {aft:Array Edge} {g:Option (Nat×Bool)} {ρ:Operand->AV}
theorem Hk:bz Tryz.prog ⟨dst,.slice 9 (.const xc) (some (.tmp 3)) (some (.tmp 5)) none,ty,pos,aft,g⟩ (xd 0)=some (.pv (.val (.string (yr 0))),[]):=by kernel_rfl
theorem Hl:bz Tryz.prog ⟨dst,.slice 9 (.const xc) (some (.tmp 3)) (some (.tmp 5)) none,ty,pos,aft,g⟩ (xd 1)=some (.pv (.val (.string (yr 1))),[]):=by kernel_rfl
theorem Hm:bz Tryz.prog ⟨dst,.slice 9 (.const xc) (some (.tmp 3)) (some (.tmp 5)) none,ty,pos,aft,g⟩ (xd 2)=some (.pv (.val (.string (yr 2))),[]):=by kernel_rfl
theorem JS(i:Nat)(h3:i<3)(hc:ρ (.const xc)=.pv (.val xc))(hx:ρ (.tmp 3)=.pv (Z i))(hy:ρ (.tmp 5)=.pv (Z ((i:Int)+1))):
 bz Tryz.prog ⟨dst,.slice 9 (.const xc) (some (.tmp 3)) (some (.tmp 5)) none,ty,pos,aft,g⟩ ρ=some (.pv (.val (.string (yr i))),[]):=by
 have h:bz Tryz.prog ⟨dst,.slice 9 (.const xc) (some (.tmp 3)) (some (.tmp 5)) none,ty,pos,aft,g⟩ ρ=bz Tryz.prog ⟨dst,.slice 9 (.const xc) (some (.tmp 3)) (some (.tmp 5)) none,ty,pos,aft,g⟩ (xd i):=by
  refine oZ (by intro _ _ h;cases h) ?_;intro x hx';simp[Op.operands]at hx';rcases hx' with rfl|rfl|rfl
  .exact hc
  .exact hx
  .exact hy
 rw[h]
 have:i=0∨i=1∨i=2:=by omega
 rcases this with rfl|rfl|rfl
 .exact Hk
 .exact Hl
 .exact Hm
end
theorem HA(i:Nat)(h3:i<3):aa Tryz.prog 28 [.pv (Z i)] [] [] (.pv (.val (.string (yr i)))):=by
 have hw:IntKind.i64.wrap ((i:Int)+1)=(i:Int)+1:=by rw[IntKind.wrap_i64];omega
 refine Dp Tryz.func28 ?_;intro C hP hN;simp only[Tryz.f28]at hN|-
 with_reducible repeat' (first|refine Sp.h ?_|((first|refine Ss.h ?_|(refine Sb.h ?_ ?_ ?_<;>(try intro hgd)<;>try exact Xy))<;>simp -implicitDefEqProofs (maxSteps:=2000000) [hP,hN,hw])|refine X2 ?_ ?_|(refine Xd ?_ ?_<;>intro hcd<;>try exact Xx))
 rw[JS i h3 rfl (by simp) (by simp)];simp[hP,hN];exact Gy
structure J where
 name:ByteArray
 kind:Int
 parent:Int
 ox:Int
 oy:Int
 oz:Int
 lo:Int
 hi:Int
 w:Int
 sp:Int
 ac:Int
 tq:Int
abbrev cW(j:J):PV:=.val (.agg #[.string j.name,.int .i64 j.kind,.int .i64 j.parent,.int .i64 j.ox,.int .i64 j.oy,.int .i64 j.oz,.int .i64 j.lo,.int .i64 j.hi,.int .i64 j.w,.int .i64 j.sp,.int .i64 j.ac,.int .i64 j.tq])
def A3(l:List Int)(n:Nat):Nat:=nn l (nn l (nn l (nn l n)))
def gj(l:List Int)(n i:Nat):Nat:=if 0<i then nn l (nn l (A3 l n))else A3 l n
def ik(l:List Int)(n:Nat):Int:=CO (nx l (nn l (nn l n)) 8)
def CP(l:List Int)(n i:Nat):Int:=if ik l n=0 then 0 else if ik l n=4∨ik l n=5 then wr (wr (-nx l (gj l n i) 3)*65536)else wr ((wr (wr (-nx l (gj l n i) 5)*65536)).tdiv 8)
def Dd(l:List Int)(n i:Nat):Int:=if ik l n=0 then 0 else if ik l n=4∨ik l n=5 then wr (nx l (nn l (gj l n i)) 4*32768)else wr (wr ((wr (wr (1+nx l (nn l (gj l n i)) 4)*65536)).tdiv 8)+nx l (nn l (nn l (gj l n i))) 3)
def ve(l:List Int)(n i:Nat):Nat:=if ik l n=0 then gj l n i else if ik l n=4∨ik l n=5 then nn l (nn l (gj l n i))else nn l (nn l (nn l (gj l n i)))
def lG(l:List Int)(n i:Nat):J where
 name:=yr i
 kind:=ik l n
 parent:=if nx l (nn l (nn l (nn l n))) 4=1 then -1 else wr ((i:Int)-1)
 ox:=if 0<i then 131072 else 0
 oy:=if 0<i then wr (wr (nx l (A3 l n) 5-2)*32768)else 0
 oz:=if 0<i then wr (wr (nx l (nn l (A3 l n)) 3-1)*32768)else 0
 lo:=CP l n i
 hi:=Dd l n i
 w:=wr (1+nx l n 4)
 sp:=65536
 ac:=wr (65536+nx l (nn l n) 3)
 tq:=327680
theorem NM(l:List Int)(n i:Nat)(h3:i<3)(hn:n<900000):aa Tryz.prog 67 [.bx 0,.pv (Z i)] [gx l n] [gx l (ve l n i)] (.pv (cW (lG l n i))):=by
 have hx:=ld l (nn l (nn l n)) (k:=8) (by decide) (by decide);have l1:=lV l n;have l2:=lV l (nn l n);have l3:=lV l (nn l (nn l n));have l4:=lV l (nn l (nn l (nn l n)));have l5:=lV l (nn l (nn l (nn l (nn l n))));have l6:=lV l (nn l (nn l (nn l (nn l (nn l n)))));have l7:=lV l (nn l (nn l (nn l (nn l (nn l (nn l n))))));have l8:=lV l (nn l (nn l (nn l (nn l (nn l (nn l (nn l n)))))));have l9:=lV l (nn l (nn l (nn l (nn l (nn l (nn l (nn l (nn l n))))))));have hix:=Gd hx.1 hx.2;refine qU Tryz.func67 rfl (by kernel_rfl) (by simp[Tryz.f67]) rfl (by intro i j h;rcases i with _|_|_|i<;>simp_all) ?_;intro C hP hN;simp only[Tryz.f67]at hN|-
 with_reducible repeat' (first|refine Sp.h ?_|((first|refine Ss.h ?_|refine Sc.h (HA i h3) ?_|refine Sc.h (NV l _ _ (by decide) (by omega)) ?_|refine Sc.h (Ks l _ _ (by decide) (by decide) (by omega)) ?_|(refine Sb.h ?_ ?_ ?_<;>(try intro hgd)<;>try exact Xy))<;>simp -implicitDefEqProofs (maxSteps:=2000000) [hP,hN,gx,hix,hx.1,hx.2])|refine X2 ?_ ?_|(refine Xd ?_ ?_<;>intro hcd<;>try exact Xx))
 all_goals (clear hix hP hN l1 l2 l3 l4 l5 l6 l7 l8 l9 hx h3 hn;simp_all[lG,ve,CP,Dd,ik,gj,A3])
structure Ms where
 link:Int
 mass:Int
 px:Int
 py:Int
 pz:Int
abbrev fc(m:Ms):PV:=.val (.agg #[.int .i64 m.link,.int .i64 m.mass,.int .i64 m.px,.int .i64 m.py,.int .i64 m.pz])
def mu(l:List Int)(m:Nat):Nat->Nat
 |0=>m
 |i+1=>ve l (mu l m i) i
theorem HC(l:List Int)(n i:Nat):gj l n i<=n+6:=by
 have l1:=lV l n;have l2:=lV l (nn l n);have l3:=lV l (nn l (nn l n));have l4:=lV l (nn l (nn l (nn l n)));have l5:=lV l (nn l (nn l (nn l (nn l n))));have l6:=lV l (nn l (nn l (nn l (nn l (nn l n)))));unfold gj A3;split<;>omega
theorem Gj(l:List Int)(n i:Nat):ve l n i<=n+9:=by
 have h:=HC l n i;have l1:=lV l (gj l n i);have l2:=lV l (nn l (gj l n i));have l3:=lV l (nn l (nn l (gj l n i)));unfold ve;split
 .omega
 .split<;>omega
theorem yL(l:List Int)(m i:Nat):mu l m i<=m+9*i:=by
 induction i with
 |zero=>simp[mu]
 |succ i ih=>have:=Gj l (mu l m i) i;simp only[mu];omega
def tC(l:List Int)(m k:Nat):List J:=(List.range k).map λi=>lG l (mu l m i) i
theorem EM(l:List Int)(m k:Nat):(tC l m (k+1)).map cW=(tC l m k).map cW++[cW (lG l (mu l m k) k)]:=by simp[tC,List.range_succ]
theorem nF(l:List Int)(m k:Nat):(tC l m k).length=k:=by simp[tC]
def iD(l:List Int)(m:Nat):Nat->Nat
 |0=>m
 |i+1=>nn l (nn l (nn l (nn l (iD l m i))))
theorem Dl(l:List Int)(m i:Nat):iD l m i<=m+4*i:=by
 induction i with
 |zero=>simp[iD]
 |succ i ih=>
  have l1:=lV l (iD l m i);have l2:=lV l (nn l (iD l m i));have l3:=lV l (nn l (nn l (iD l m i)));have l4:=lV l (nn l (nn l (nn l (iD l m i))));simp only[iD];omega
def xP(l:List Int)(m:Nat)(n:Int):Ms where
 link:=nx l m n
 mass:=wr (1+nx l (nn l m) 9000)
 px:=wr (wr (nx l (nn l (nn l m)) 7-3)*32768)
 py:=0
 pz:=wr (wr (nx l (nn l (nn l (nn l m))) 5-2)*32768)
def tP(l:List Int)(m:Nat)(n:Int)(k:Nat):List Ms:=(List.range k).map λi=>xP l (iD l m i) n
theorem EN(l:List Int)(m:Nat)(n:Int)(k:Nat):(tP l m n (k+1)).map fc=(tP l m n k).map fc++[fc (xP l (iD l m k) n)]:=by simp[tP,List.range_succ]
theorem vz(l:List Int)(m:Nat)(n:Int)(k:Nat):(tP l m n k).length=k:=by simp[tP]
abbrev AN:AV:=.pv (.val (.slice none 0 0))
def rN(l:List Int)(n:Nat):Nat:=(1+nx l n 3).toNat
def rM(l:List Int)(n:Nat):Nat:=mu l (nn l n) (rN l n)
def rK(l:List Int)(n:Nat):Nat:=(nx l (rM l n) 3).toNat
def gD(l:List Int)(n:Nat):List J:=tC l (nn l n) (rN l n)
def mI(l:List Int)(n:Nat):List Ms:=tP l (nn l (rM l n)) (rN l n) (rK l n)
def qu(l:List Int)(n:Nat):Nat:=iD l (nn l (rM l n)) (rK l n)
theorem JV(l:List Int)(n:Nat)(hn:n<100000):aa Tryz.prog 25 [.bx 0] [gx l n] [gx l (qu l n)] (.pv (.agg [.sl ((gD l n).map cW),.sl ((mI l n).map fc)])):=by
 have hx:=ld l n (k:=3) (by decide) (by decide)
 have hw1:IntKind.i64.wrap (1+nx l n 3)=((rN l n:Nat):Int):=by rw[IntKind.wrap_i64,rN];omega
 have hrN:rN l n<=3∧0<rN l n:=by unfold rN;omega
 have hl1:=lV l n;refine qU Tryz.func25 rfl (by kernel_rfl) (by simp[Tryz.f25]) rfl (by intro i j h;rcases i with _|_|_|i<;>simp_all) ?_;intro C hP hN;simp only[Tryz.f25]at hN|-
 with_reducible repeat' (first|refine Sp.h ?_|((first|refine Wd ?_|refine Ss.h ?_|refine Sc.h (NV l n 3 (by decide) (by omega)) ?_|(refine Sb.h ?_ ?_ ?_<;>(try intro hgd)<;>try exact Xy))<;>simp -implicitDefEqProofs (maxSteps:=2000000) [hP,hN,gx,hw1]<;>try refine Ya ?_)|refine X2 ?_ ?_|(refine Xd ?_ ?_<;>intro hcd<;>try exact Xx))
 refine WP.loopN [20] (rN l n) (λi st=>st.t 0=.ptr (pk 0) 0∧st.t 2=.ptr 2 0∧st.t 3=.ptr 3 0∧st.t 4=.pv (Z (rN l n))∧st.t 5=.pv (Z i)∧
  st.h (pk 0)=some (.box [.pv (zs l),.pv (Z (mu l (nn l n) i))] false false)∧st.h 2=some (.box [AN,AN] true false)∧st.h 20=none∧st.h 45=none∧st.h 46=none∧
  ((i=0∧st.h 3=some (.box [AN,AN] true false)∧st.h 21=none)∨(0<i∧st.h 3=some (.box [.arr 21 i,AN] true false)∧st.h 21=some (.row 54 12 ((tC l (nn l n) i).map cW) 0)))) (by simp[mu]) ?_
 rintro i st hi ⟨h0,h2,h3,h4,h5,hp,hb2,hb20,hb45,hb46,hor⟩;by_cases hlt:i<rN l n
 .have hw:IntKind.i64.wrap ((i:Int)+1)=(i:Int)+1:=by rw[IntKind.wrap_i64];omega
  have hm:=yL l (nn l n) i;have hJ:=EM l (nn l n) i;have hS:mu l (nn l n) (i+1)=ve l (mu l (nn l n) i) i:=rfl;rcases hor with⟨hi0,hb3,hb21⟩|⟨hi0,hb3,hb21⟩
  .subst hi0
   with_reducible repeat' (first|refine Sp.h ?_|((first|refine Wd ?_|refine Ss.h ?_|refine Sc.h (NM l _ 0 (by omega) (by omega)) ?_|(refine Sb.h ?_ ?_ ?_<;>(try intro hgd)<;>try exact Xy))<;>simp -implicitDefEqProofs (maxSteps:=2000000) [hP,hN,h0,h2,h3,h4,h5,hp,hb2,hb20,hb45,hb46,hb3,hb21,hlt,hw,hS]<;>try refine Ya ?_)|refine X2 ?_ ?_|(refine Xd ?_ ?_<;>intro hcd<;>try exact Xx))
   exact⟨by decide,by simp[tC]⟩
  .have hz:=nF l (nn l n) i
   with_reducible repeat' (first|refine Sp.h ?_|((first|refine Wd ?_|refine Ss.h ?_|refine Sc.h (NM l _ i (by omega) (by omega)) ?_|(refine Sb.h ?_ ?_ ?_<;>(try intro hgd)<;>try exact Xy))<;>simp -implicitDefEqProofs (maxSteps:=2000000) [hP,hN,h0,h2,h3,h4,h5,hp,hb2,hb20,hb45,hb46,hb3,hb21,hlt,hw,hS,hz,show(i+1)*104<=140737488355328 by omega,show i<=9223372036854775806 by omega]<;>try refine Ya ?_)|refine X2 ?_ ?_|(refine Xd ?_ ?_<;>intro hcd<;>try exact Xx))
   simp[hJ]
 .have hir:i=rN l n:=by omega
  rcases hor with⟨hi0,_⟩|⟨hi0,hb3,hb21⟩
  .omega
  subst hir;have hm:=yL l (nn l n) (rN l n);have hx3:=ld l (rM l n) (k:=3) (by decide) (by decide)
  have hk:nx l (mu l (nn l n) (rN l n)) 3=((rK l n:Nat):Int):=by show nx l (rM l n) 3=_;unfold rK;omega
  have hk3:rK l n<3:=by unfold rK;omega
  have hz:=nF l (nn l n) (rN l n);have hl2:=lV l (rM l n);have hmr:rM l n<=nn l n+9*rN l n:=hm
  with_reducible repeat' (first|refine Sp.h ?_|((first|refine Wd ?_|refine Ss.h ?_|refine Sc.h (NV l _ 3 (by decide) (by omega)) ?_|(refine Sb.h ?_ ?_ ?_<;>(try intro hgd)<;>try exact Xy))<;>simp -implicitDefEqProofs (maxSteps:=2000000) [hP,hN,h0,h2,h3,h4,h5,hp,hb2,hb20,hb45,hb46,hb3,hb21,hlt,hk]<;>try refine Ya ?_)|refine X2 ?_ ?_|(refine Xd ?_ ?_<;>intro hcd<;>try exact Xx))
  refine WP.loopN [] (rK l n) (λi st=>st.t 0=.ptr (pk 0) 0∧st.t 2=.ptr 2 0∧st.t 3=.ptr 3 0∧st.t 4=.pv (Z (rN l n))∧st.t 6=.pv (Z ((rK l n:Int)-i))∧
   st.h (pk 0)=some (.box [.pv (zs l),.pv (Z (iD l (nn l (rM l n)) i))] false false)∧st.h 2=some (.box [AN,AN] true false)∧st.h 45=none∧st.h 21=some (.row 54 12 ((gD l n).map cW) 0)∧
   ((i=0∧st.h 3=some (.box [.arr 21 (rN l n),AN] true false)∧st.h 46=none)∨(0<i∧st.h 3=some (.box [.arr 21 (rN l n),.arr 46 i] true false)∧st.h 46=some (.row 142 5 ((tP l (nn l (rM l n)) (rN l n) i).map fc) 0)))) (by simp[h0,h2,h3,h4,hb2,hb45,hb46,hb3,hb21,iD,rM,gD]) ?_
  clear hb2 hb20 hb45 hb46 hb3 hb21 hp h0 h2 h3 h4 h5;rintro i st hi ⟨h0,h2,h3,h4,h6,hp,hb2,hb45,hb21,hor⟩;by_cases hlt:i<rK l n
  .have hw:IntKind.i64.wrap ((rK l n:Int)-i-1)=(rK l n:Int)-((i:Int)+1):=by rw[IntKind.wrap_i64];omega
   have hgt:(0:Int)<(rK l n:Int)-i:=by omega
   have hm2:=Dl l (nn l (rM l n)) i;have l1:=lV l (iD l (nn l (rM l n)) i);have l2:=lV l (nn l (iD l (nn l (rM l n)) i));have l3:=lV l (nn l (nn l (iD l (nn l (rM l n)) i)));have hJ:=EN l (nn l (rM l n)) (rN l n) i;have hS:iD l (nn l (rM l n)) (i+1)=nn l (nn l (nn l (nn l (iD l (nn l (rM l n)) i)))):=rfl
   have hne:((rN l n:Nat):Int)≠0:=by omega
   rcases hor with⟨hi0,hb3,hb46⟩|⟨hi0,hb3,hb46⟩
   .subst hi0
    with_reducible repeat' (first|refine Sp.h ?_|((first|refine Wd ?_|refine Ss.h ?_|refine Sc.h (NV l _ _ hne (by omega)) ?_|refine Sc.h (NV l _ _ (by decide) (by omega)) ?_|refine Sc.h (Ks l _ _ (by decide) (by decide) (by omega)) ?_|(refine Sb.h ?_ ?_ ?_<;>(try intro hgd)<;>try exact Xy))<;>simp -implicitDefEqProofs (maxSteps:=2000000) [hP,hN,h0,h2,h3,h4,h6,hp,hb2,hb45,hb46,hb3,hb21,hlt,hw,hgt,hS]<;>try refine Ya ?_)|refine X2 ?_ ?_|(refine Xd ?_ ?_<;>intro hcd<;>try exact Xx))
    exact⟨by rw[IntKind.wrap_i64];omega,by simp[tP,xP,iD]⟩
   .have hz:=vz l (nn l (rM l n)) (rN l n) i
    with_reducible repeat' (first|refine Sp.h ?_|((first|refine Wd ?_|refine Ss.h ?_|refine Sc.h (NV l _ _ hne (by omega)) ?_|refine Sc.h (NV l _ _ (by decide) (by omega)) ?_|refine Sc.h (Ks l _ _ (by decide) (by decide) (by omega)) ?_|(refine Sb.h ?_ ?_ ?_<;>(try intro hgd)<;>try exact Xy))<;>simp -implicitDefEqProofs (maxSteps:=2000000) [hP,hN,h0,h2,h3,h4,h6,hp,hb2,hb45,hb46,hb3,hb21,hlt,hw,hgt,hS,hz,show(i+1)*40<=140737488355328 by omega,show i<=9223372036854775806 by omega]<;>try refine Ya ?_)|refine X2 ?_ ?_|(refine Xd ?_ ?_<;>intro hcd<;>try exact Xx))
    simp[hJ,xP]
  .have hir:i=rK l n:=by omega
   subst hir;have hzJ:(gD l n).length=rN l n:=nF l (nn l n) (rN l n);have hzM:=vz l (nn l (rM l n)) (rN l n) (rK l n);rcases hor with⟨hi0,hb3,hb46⟩|⟨hi0,hb3,hb46⟩
   .skip
    with_reducible repeat' (first|refine Sp.h ?_|((first|refine Wd ?_|refine Ss.h ?_|(refine Sb.h ?_ ?_ ?_<;>(try intro hgd)<;>try exact Xy))<;>simp -implicitDefEqProofs (maxSteps:=2000000) [hP,hN,h0,h2,h3,h4,h6,hp,hb2,hb45,hb46,hb3,hb21,hi0,hzJ]<;>try refine Ya ?_)|refine X2 ?_ ?_|(refine Xd ?_ ?_<;>intro hcd<;>try exact Xx))
    all_goals simp[qu,mI,hi0,tP]
   .skip
    with_reducible repeat' (first|refine Sp.h ?_|((first|refine Wd ?_|refine Ss.h ?_|(refine Sb.h ?_ ?_ ?_<;>(try intro hgd)<;>try exact Xy))<;>simp -implicitDefEqProofs (maxSteps:=2000000) [hP,hN,h0,h2,h3,h4,h6,hp,hb2,hb45,hb46,hb3,hb21,hzJ,hzM]<;>try refine Ya ?_)|refine X2 ?_ ?_|(refine Xd ?_ ?_<;>intro hcd<;>try exact Xx))
    all_goals simp[qu,mI]
abbrev ja(js:List J)(ms:List Ms):PV:=.agg [.sl (js.map cW),.sl (ms.map fc)]
def xQ(l:List Int)(m:Nat):Nat:=if nx l m 6=0 then nn l m else if nx l m 6=1 then nn l m else nn l (nn l m)
def og(l:List Int):Nat->Nat
 |0=>0
 |i+1=>xQ l (og l i)
theorem HD(l:List Int)(i:Nat):og l i<=2*i:=by
 induction i with
 |zero=>simp[og]
 |succ i ih=>
  have l1:=lV l (og l i);have l2:=lV l (nn l (og l i));simp only[og,xQ];split
  .omega
  .split<;>omega
def E5(l:List Int)(m:Nat)(lo hi:Int):Int:=if nx l m 6=0 then lo else if nx l m 6=1 then hi else wr (lo+nx l (nn l m) (hi-lo+1))
def fo(l:List Int)(js:List J):List Int:=js.mapIdx λi j=>E5 l (og l i) j.lo j.hi
def tQ(j:J):Prop:=-1000000<=j.lo∧j.lo<=j.hi∧j.hi<=1000000
theorem E7{l:List Int}{js:List J}(hlt:i<js.length):((fo l js).map Z).take i++[Z (E5 l (og l i) js[i].lo js[i].hi)]=((fo l js).map Z).take (i+1):=by
 rw[List.take_succ_eq_append_getElem (by simpa[fo]using hlt)];simp[fo]
theorem d6(l:List Int)(js:List J)(ms:List Ms)(hl:js.length<=1000)(hj:∀j∈js,tQ j):aa Tryz.prog 6 [.pv (ja js ms),.pv (zs l)] [] [] (.pv (zs (fo l js))):=by
 refine Dp Tryz.func6 ?_;intro C hP hN;simp only[Tryz.f6]at hN|-
 with_reducible repeat' (first|refine Sp.h ?_|((first|refine Wh [6] ?_|refine Wi [6] ?_|refine Ss.h ?_|refine Sc.h (FD _) ?_|(refine Sb.h ?_ ?_ ?_<;>(try intro hgd)<;>try exact Xy))<;>simp -implicitDefEqProofs (maxSteps:=2000000) [hP,hN,gx]<;>try refine Ya ?_)|refine X2 ?_ ?_|(refine Xd ?_ ?_<;>intro hcd<;>try exact Xx))
 refine WP.loopN [] js.length (λi st=>st.t 2=.ptr 2 0∧st.t 5=.ptr 11 0∧st.t 6=.arr 6 i∧st.t 7=.pv (Z i)∧st.h 2=some (.box [.pv (.sl (js.map cW)),.pv (.sl (ms.map fc))] true false)∧
  st.h 11=some (.box [.pv (zs l),.pv (Z (og l i))] true false)∧st.h 6=some (.row 2 1 (((fo l js).map Z).take i) 0)) (by simp[og]) ?_
 rintro i st hi ⟨h2,h5,h6,h7,hb2,hb11,hb6⟩
 have hzT:min i (fo l js).length=i:=by simp[fo];omega
 by_cases hlt:i<js.length
 .have hw:IntKind.i64.wrap ((i:Int)+1)=(i:Int)+1:=by rw[IntKind.wrap_i64];omega
  have hm:=HD l i;have l1:=lV l (og l i);have hs:=E7 (l:=l) hlt;have hok:=hj js[i] (List.getElem_mem hlt)
  have hw2:IntKind.i64.wrap (js[i].hi-js[i].lo)=js[i].hi-js[i].lo:=by unfold tQ at hok;rw[IntKind.wrap_i64];omega
  have hw3:IntKind.i64.wrap (js[i].hi-js[i].lo+1)=js[i].hi-js[i].lo+1:=by unfold tQ at hok;rw[IntKind.wrap_i64];omega
  have hS:og l (i+1)=xQ l (og l i):=rfl
  have hne:js[i].hi-js[i].lo+1≠0:=by unfold tQ at hok;omega
  with_reducible repeat' (first|refine Sp.h ?_|((first|refine Wd ?_|refine Ss.h ?_|refine Sc.h (NV l _ 6 (by decide) (by omega)) ?_|refine Sc.h (NV l _ _ hne (by omega)) ?_|(refine Sb.h ?_ ?_ ?_<;>(try intro hgd)<;>try exact Xy))<;>simp -implicitDefEqProofs (maxSteps:=2000000) [hP,hN,h2,h5,h6,h7,hb2,hb11,hb6,hzT,hlt,hw,hw2,hw3,hS,show(i+1)*8<=140737488355328 by omega,show i<=9223372036854775806 by omega]<;>try refine Ya ?_)|refine X2 ?_ ?_|(refine Xd ?_ ?_<;>intro hcd<;>try exact Xx))
  all_goals (rw[<-hs];clear hs hj hb2 hb11 hb6 h2 h5 h6 h7 hP hN hw2 hw3 hw hS;simp_all[xQ,E5])
 .skip
  with_reducible repeat' (first|refine Sp.h ?_|((first|refine Wd ?_|refine Ss.h ?_|(refine Sb.h ?_ ?_ ?_<;>(try intro hgd)<;>try exact Xy))<;>simp -implicitDefEqProofs (maxSteps:=2000000) [hP,hN,h2,h5,h6,h7,hb2,hb11,hb6,hzT,hlt]<;>try refine Ya ?_)|refine X2 ?_ ?_|(refine Xd ?_ ?_<;>intro hcd<;>try exact Xx))
  exact Es (by simp[fo]) hlt
theorem E9(l:List Int)(n i:Nat):tQ (lG l n i)∧(lG l n i).lo<=0∧0<=(lG l n i).hi:=by
 have h1:=ld l (gj l n i) (k:=3) (by decide) (by decide);have h2:=ld l (gj l n i) (k:=5) (by decide) (by decide);have h3:=ld l (nn l (gj l n i)) (k:=4) (by decide) (by decide);have h4:=ld l (nn l (nn l (gj l n i))) (k:=3) (by decide) (by decide)
 have hlo:-1000000<=CP l n i∧CP l n i<=0:=by
  unfold CP;generalize nx l (gj l n i) 3=a at *;generalize nx l (gj l n i) 5=b at *;split
  .omega
  .split
   .simp only[wr,IntKind.wrap_i64];omega
   .have:b=0∨b=1∨b=2∨b=3∨b=4:=by omega
    rcases this with rfl|rfl|rfl|rfl|rfl<;>decide
 have hhi:0<=Dd l n i∧Dd l n i<=1000000:=by
  unfold Dd;generalize nx l (nn l (gj l n i)) 4=a at *;generalize nx l (nn l (nn l (gj l n i))) 3=b at *;split
  .omega
  .split
   .simp only[wr,IntKind.wrap_i64];omega
   .have ha:∀c:Int,0<=c->c<4->0<=wr ((wr (wr (1+c)*65536)).tdiv 8)∧wr ((wr (wr (1+c)*65536)).tdiv 8)<=32768:=by
     intro c h0 h4
     have:c=0∨c=1∨c=2∨c=3:=by omega
     rcases this with rfl|rfl|rfl|rfl<;>decide
    have:=ha a h3.1 h3.2;rw[ab (n:=wr ((wr (wr (1+a)*65536)).tdiv 8)+b) (by omega) (by omega)];omega
 simp only[tQ,lG];omega
theorem Dm(l:List Int)(n:Nat):∀j∈gD l n,tQ j:=by
 intro j hj;simp only[gD,tC,List.mem_map]at hj;obtain⟨i,_,rfl⟩:=hj;exact(E9 l _ i).1
theorem A4(l:List Int)(n:Nat):(gD l n).length<=3∧0<(gD l n).length:=by
 have hx:=ld l n (k:=3) (by decide) (by decide);rw[gD,nF,rN];omega
theorem eF(x:Int)(hk:0<k)(hk':k<4611686018427387904):0<=tp x k∧tp x k<k:=by
 have:=ld [x] 0 hk hk';simpa[nx]using this
theorem Hn{P:Program}(d:Nat)(t:TypeId)(a b:Bool)(h:P.underlying t=some .bool):al P (Op.equalIn (d+1) t (.bool a) (.bool b))=some (a==b):=by
 simp only[Op.equalIn,aj,iy h,Option.bind_some];rfl
def GN(x y:AV):Option (Bool×Bool):=match x,y with
 |.pv (.val (.bool a)),.pv (.val (.bool b))=>some (a,b)
 |_,_=>none
def Ft(x y:AV)(fb:Option dm):Option dm:=match GN x y with
 |some (a,b)=>some (.pv (.val (.bool (a==b))),[])
 |none=>fb
@[simp] theorem Kt(a b:Bool)(fb:Option dm):Ft (.pv (.val (.bool a))) (.pv (.val (.bool b))) fb=some (.pv (.val (.bool (a==b))),[]):=rfl
@[simp] theorem NL{ty:TypeId}{pos:String}(x y:Operand):
 bz Tryz.prog ⟨dst,.binOp .eql 4 x y 4,ty,pos,aft,g⟩ ρ=Ft (ρ x) (ρ y) (mF Tryz.prog ⟨dst,.binOp .eql 4 x y 4,ty,pos,aft,g⟩ ρ):=by
 unfold Ft;split
 .rename_i a b h
  unfold GN at h;split at h
  .rename_i a' b' hx hy
   injection h with h;injection h with h1 h2;subst h1;subst h2;refine eC (by simp[Op.operands,hx,hy,fl]) ?_;unfold execOp;simp only[(bO hx).2,(bO hy).2]
   have h1:al Tryz.prog (eqGuard .eql 4 x y (.bool a') (.bool b'))=some ():=by kernel_rfl
   have h2:al Tryz.prog (binOp .eql 4 (.bool a') (.bool b'))=some (.bool (a'==b')):=by
    simp only[binOp,aj];rw[show al Tryz.prog (Op.equal 4 (.bool a') (.bool b'))=some (a'==b') from Hn 9999 4 a' b' Tryz.underlying4];rfl
   simp only[aj,h1,h2,Option.bind_some];rfl
  .cases h
 .rfl
theorem Ju(f:FuncId)(p:Int×Int->Int->Bool)(xs:List (Int×Int))(ys:List (Int))(hl:xs.length<=9223372036854775807)(hf:∀a b,aa Tryz.prog f [.pv (aU a),.pv (Z b)] [] [] (.pv (B (p a b)))):aa Tryz.prog 123 [.pv (.sl (xs.map aU)),.pv (.sl (ys.map Z)),.pv (Fv f)] [] [] (.pv (B (decide (xs.length=ys.length)&&fp p xs ys))):=by
 refine Dp Tryz.func123 ?_;intro C hP hN;simp only[Tryz.f123]at hN|-;by_cases he:xs.length=ys.length
 .skip
  refine Gz ?_;refine WP.loopN [8] xs.length (λi st=>st.t 0=.pv (.sl (xs.map aU))∧st.t 1=.pv (.sl (ys.map Z))∧st.t 2=.pv (Fv f)∧st.t 14=.pv (.sl (xs.map aU))∧st.t 15=.pv (Z xs.length)∧st.t 16=.pv (Z i)∧st.h 8=none∧fM p xs ys i=true) (by simp[fM,he]) ?_;rintro i st hi ⟨h0,h1,h2,h14,h15,h16,hb,hq⟩;by_cases hlt:i<xs.length
  .have hw:=au hlt hl
   have hlt':i<ys.length:=by omega
   have hF:p xs[i] ys[i]=false->fp p xs ys=false:=km hlt hlt';have hS:p xs[i] ys[i]=true->fM p xs ys (i+1)=true:=lr hlt hlt' hq
   with_reducible repeat' (first|refine Sp.h ?_|((first|refine Wd ?_|refine Ss.h ?_|refine Sc.h (hf _ _) ?_|(refine Sb.h ?_ ?_ ?_<;>(try intro hgd)<;>try exact Xy))<;>simp -implicitDefEqProofs (maxSteps:=2000000) [hP,hN,h0,h1,h2,h14,h15,h16,hb,hlt,hlt',hw]<;>try refine Ya ?_)|refine X2 ?_ ?_|(refine Xd ?_ ?_<;>intro hcd<;>try exact Xx))
   all_goals first|exact hF (by simpa using hcd)|simpa using hS (by simpa using hcd)
  .skip
   refine Gz ?_
   all_goals simp[he,lu hlt hq]
 .skip
  exact Gy
  all_goals simp[he]
theorem I9(f:FuncId)(p:Int×Int->Int×Int->Bool)(xs:List (Int×Int))(ys:List (Int×Int))(hl:xs.length<=9223372036854775807)(hf:∀a b,aa Tryz.prog f [.pv (aU a),.pv (aU b)] [] [] (.pv (B (p a b)))):aa Tryz.prog 120 [.pv (.sl (xs.map aU)),.pv (.sl (ys.map aU)),.pv (Fv f)] [] [] (.pv (B (decide (xs.length=ys.length)&&fp p xs ys))):=by
 refine Dp Tryz.func120 ?_;intro C hP hN;simp only[Tryz.f120]at hN|-;by_cases he:xs.length=ys.length
 .skip
  refine Gz ?_;refine WP.loopN [8] xs.length (λi st=>st.t 0=.pv (.sl (xs.map aU))∧st.t 1=.pv (.sl (ys.map aU))∧st.t 2=.pv (Fv f)∧st.t 14=.pv (.sl (xs.map aU))∧st.t 15=.pv (Z xs.length)∧st.t 16=.pv (Z i)∧st.h 8=none∧fM p xs ys i=true) (by simp[fM,he]) ?_;rintro i st hi ⟨h0,h1,h2,h14,h15,h16,hb,hq⟩;by_cases hlt:i<xs.length
  .have hw:=au hlt hl
   have hlt':i<ys.length:=by omega
   have hF:p xs[i] ys[i]=false->fp p xs ys=false:=km hlt hlt';have hS:p xs[i] ys[i]=true->fM p xs ys (i+1)=true:=lr hlt hlt' hq
   with_reducible repeat' (first|refine Sp.h ?_|((first|refine Wd ?_|refine Ss.h ?_|refine Sc.h (hf _ _) ?_|(refine Sb.h ?_ ?_ ?_<;>(try intro hgd)<;>try exact Xy))<;>simp -implicitDefEqProofs (maxSteps:=2000000) [hP,hN,h0,h1,h2,h14,h15,h16,hb,hlt,hlt',hw]<;>try refine Ya ?_)|refine X2 ?_ ?_|(refine Xd ?_ ?_<;>intro hcd<;>try exact Xx))
   all_goals first|exact hF (by simpa using hcd)|simpa using hS (by simpa using hcd)
  .skip
   refine Gz ?_
   all_goals simp[he,lu hlt hq]
 .skip
  exact Gy
  all_goals simp[he]
theorem KA(f:FuncId)(g:J->Int×Int)(xs:List (J))(hl:xs.length<=16777216)(hf:∀a,aa Tryz.prog f [.pv (cW a)] [] [] (.pv (aU (g a)))):aa Tryz.prog 38 [.pv (.sl (xs.map cW)),.pv (Fv f)] [] [] (.pv (.sl ((xs.map g).map aU))):=by
 refine Dp Tryz.func38 ?_;intro C hP hN;simp only[Tryz.f38]at hN|-;refine GT (gA hl (gA (show(16:Int)*xs.length<=281474976710656 by omega) (show(xs.length:Int)<=9223372036854775807 by omega))) ?_
 refine WP.loopN [7] xs.length (λi st=>st.t 0=.pv (.sl (xs.map cW))∧st.t 1=.pv (Fv f)∧st.t 5=.arr 10 xs.length∧st.t 11=.pv (.sl (xs.map cW))∧st.t 12=.pv (Z xs.length)∧st.t 13=.pv (Z i)∧st.h 7=none∧
  ∃L,st.h 10=some (.row 94 2 L 0)∧L.length=xs.length∧∀j,j<i->L[j]?=((xs.map g).map aU)[j]?) (by simp) ?_
 rintro i st hi ⟨h0,h1,h5,h11,h12,h13,hb,L,hL,hLl,hq⟩
 have hT:L.length=((xs.map g).map aU).length:=by simp[hLl]
 by_cases hlt:i<xs.length
 .have hw:=au hlt (pY hl)
  have hltL:i<L.length:=by omega
  with_reducible repeat' (first|refine Sp.h ?_|((first|refine Ss.h ?_|refine Sc.h (hf _) ?_|(refine Sb.h ?_ ?_ ?_<;>(try intro hgd)<;>try exact Xy))<;>simp -implicitDefEqProofs (maxSteps:=2000000) [hP,hN,h0,h1,h5,h11,h12,h13,hb,hL,hLl,hlt,hltL,hw])|refine X2 ?_ ?_|(refine Xd ?_ ?_<;>intro hcd<;>try exact Xx))
  simpa using Fr hT hq (v:=aU (g xs[i])) (by simp[hlt])
 .skip
  refine GT (gA h0 (gA h1 (gA h5 (gA h11 (gA h12 (gA h13 (gA hb (gA hL (gA hLl hlt))))))))) ?_;simpa using Fs hT hq (by simp;omega)
theorem Lf(a:Int×Int)(b:Int):aa Tryz.prog 124 [.pv (aU a),.pv (Z b)] [] [] (.pv (B (mH a b))):=JD a.1 a.2 b
theorem Ho(a b:Int×Int):aa Tryz.prog 77 [.pv (aU a),.pv (aU b)] [] [] (.pv (B (oH a b))):=NG a.1 a.2 b.1 b.2
def jz(xs:List (Int×Int))(ys:List Int):Bool:=decide (xs.length=ys.length)&&fp mH xs ys
def fV(x y:Int×Int):Bool:=aC x.1 x.2&&aC y.1 y.2&&decide (max x.1 y.1<=min x.2 y.2)
def eo(xs ys:List (Int×Int)):Bool:=decide (xs.length=ys.length)&&fp fV xs ys
theorem Kz(xs:List (Int×Int))(ys:List Int)(hl:xs.length<=9223372036854775807):aa Tryz.prog 90 [.pv (iv xs),.pv (zs ys)] [] [] (.pv (B (jz xs ys))):=by
 refine Dp Tryz.func90 ?_;intro C hP hN;simp only[Tryz.f90]at hN|-
 with_reducible repeat' (first|refine Sp.h ?_|((first|refine Ss.h ?_|refine Sc.h (Ju _ mH _ _ hl Lf) ?_|(refine Sb.h ?_ ?_ ?_<;>(try intro hgd)<;>try exact Xy))<;>simp -implicitDefEqProofs (maxSteps:=2000000) [hP,hN])|refine X2 ?_ ?_|(refine Xd ?_ ?_<;>intro hcd<;>try exact Xx))
 all_goals (first|(simp_all[jz];done)|((try simp_all[jz])<;>(try omega)<;>grind))
theorem Jg(x y:Int×Int):aa Tryz.prog 121 [.pv (aU x),.pv (aU y)] [] [] (.pv (B (fV x y))):=by
 refine Dp Tryz.func121 ?_;intro C hP hN;simp only[Tryz.f121]at hN|-
 cases h:fV x y with
 |true=>
  have h':(aC x.1 x.2&&aC y.1 y.2&&decide (max x.1 y.1<=min x.2 y.2))=true:=h;have q1:=@Gg;exact GS h'
 |false=>
  have h':(aC x.1 x.2&&aC y.1 y.2&&decide (max x.1 y.1<=min x.2 y.2))=false:=h;have q1:=@Gg;exact GS h'
theorem Om(xs ys:List (Int×Int))(hl:xs.length<=9223372036854775807):aa Tryz.prog 88 [.pv (iv xs),.pv (iv ys)] [] [] (.pv (B (eo xs ys))):=by
 refine Dp Tryz.func88 ?_;intro C hP hN;simp only[Tryz.f88]at hN|-
 with_reducible repeat' (first|refine Sp.h ?_|((first|refine Ss.h ?_|refine Sc.h (I9 _ fV _ _ hl Jg) ?_|(refine Sb.h ?_ ?_ ?_<;>(try intro hgd)<;>try exact Xy))<;>simp -implicitDefEqProofs (maxSteps:=2000000) [hP,hN])|refine X2 ?_ ?_|(refine Xd ?_ ?_<;>intro hcd<;>try exact Xx))
 all_goals (first|(simp_all[eo];done)|((try simp_all[eo])<;>(try omega)<;>grind))
end Go.Ab
