/- The contracts and facts that the laws of this seat need, in one text (Ty, CfA). -/
import Derived.Test.YtpiahagjopediaaGreatX3
import Derived.Test.YtpiahagjopediaaGreatProg
set_option linter.all false
namespace Go.Ab
open Go.Proofs
variable {aft:Array Edge}{dst:Option Nat}{g:Option (Nat×Bool)}{i n:Nat}{k:Int}{α β:Type}{ρ:Operand->AV}{f:α->β->Bool}{p:α->Bool}{xs:List α}{ys:List β}
@[simp] theorem RZ:ak Tryz.prog 2=some ⟨1,(some (.int .i64 0)),.one⟩:=by kernel_rfl
@[simp] theorem R0:dh Tryz.prog 2=some .i64:=by kernel_rfl
@[simp] theorem R3:ak Tryz.prog 3=some ⟨1,(some (.int .i64 0)),.one⟩:=by kernel_rfl
@[simp] theorem R4:dh Tryz.prog 3=some .i64:=by kernel_rfl
@[simp] theorem R5:ak Tryz.prog 4=some ⟨1,(some (.bool false)),.one⟩:=by kernel_rfl
@[simp] theorem R6:ak Tryz.prog 5=some ⟨1,(some (.int .u8 0)),.one⟩:=by kernel_rfl
@[simp] theorem R7:dh Tryz.prog 5=some .u8:=by kernel_rfl
@[simp] theorem R8:ak Tryz.prog 6=some ⟨1,(some (.int .u8 0)),.one⟩:=by kernel_rfl
@[simp] theorem R9:dh Tryz.prog 6=some .u8:=by kernel_rfl
@[simp] theorem Sa:ak Tryz.prog 7=some ⟨4,(some (.agg #[.int .i64 0,.int .i64 0,.bool false,.int .u8 0])),.struct [(0,1),(1,1),(2,1),(3,1)]⟩:=by kernel_rfl
@[simp] theorem Sd:ak Tryz.prog 8=some ⟨4,(some (.agg #[.int .i64 0,.int .i64 0,.bool false,.int .u8 0])),.struct [(0,1),(1,1),(2,1),(3,1)]⟩:=by kernel_rfl
@[simp] theorem Se:ak Tryz.prog 9=some ⟨1,(some (.string ByteArray.empty)),.one⟩:=by kernel_rfl
@[simp] theorem Sf:fT Tryz.prog 9=some none:=by kernel_rfl
@[simp] theorem Q5:ak Tryz.prog 10=some ⟨1,(some (.string ByteArray.empty)),.one⟩:=by kernel_rfl
@[simp] theorem Q6:fT Tryz.prog 10=some none:=by kernel_rfl
@[simp] theorem Q7:ak Tryz.prog 11=some ⟨1,(some (.string ByteArray.empty)),.one⟩:=by kernel_rfl
@[simp] theorem Q8:fT Tryz.prog 11=some none:=by kernel_rfl
@[simp] theorem Q9:ak Tryz.prog 12=some ⟨1,(some (.int .u64 0)),.one⟩:=by kernel_rfl
@[simp] theorem Ra:dh Tryz.prog 12=some .u64:=by kernel_rfl
@[simp] theorem Rb:ak Tryz.prog 13=some ⟨2,(some (.agg #[.string ByteArray.empty,.int .u64 0])),.struct [(0,1),(1,1)]⟩:=by kernel_rfl
@[simp] theorem Rc:ak Tryz.prog 14=some ⟨2,(some (.agg #[.string ByteArray.empty,.int .u64 0])),.struct [(0,1),(1,1)]⟩:=by kernel_rfl
@[simp] theorem Rd:ak Tryz.prog 15=some ⟨1,(some (.pointer none)),.one⟩:=by kernel_rfl
@[simp] theorem Re:ak Tryz.prog 16=some ⟨1,(some (.pointer none)),.one⟩:=by kernel_rfl
@[simp] theorem Rf:ak Tryz.prog 17=some ⟨1,(some (.pointer none)),.one⟩:=by kernel_rfl
@[simp] theorem Rg:ak Tryz.prog 18=some ⟨1,(some (.agg #[.pointer none])),.struct [(0,1)]⟩:=by kernel_rfl
@[simp] theorem Rh:ak Tryz.prog 19=some ⟨1,(some (.agg #[.pointer none])),.struct [(0,1)]⟩:=by kernel_rfl
@[simp] theorem Ri:ak Tryz.prog 21=some ⟨1,(some (.int .i32 0)),.one⟩:=by kernel_rfl
@[simp] theorem Rj:dh Tryz.prog 21=some .i32:=by kernel_rfl
@[simp] theorem Rk:ak Tryz.prog 22=some ⟨1,(some (.slice none 0 0)),.slice 65 2 16 (some (.agg #[.int .i64 0,.int .i64 0]))⟩:=by kernel_rfl
@[simp] theorem Rl:ak Tryz.prog 23=some ⟨1,(some (.slice none 0 0)),.slice 91 8 112 (some (.agg #[.int .i64 0,.int .i64 0,.int .i64 0,.int .i64 0,.slice none 0 0,.int .i64 0,.slice none 0 0,.slice none 0 0]))⟩:=by kernel_rfl
@[simp] theorem Rm:ak Tryz.prog 24=some ⟨2,(some (.agg #[.slice none 0 0,.slice none 0 0])),.struct [(0,1),(1,1)]⟩:=by kernel_rfl
@[simp] theorem Rn:ak Tryz.prog 25=some ⟨2,(some (.agg #[.slice none 0 0,.slice none 0 0])),.struct [(0,1),(1,1)]⟩:=by kernel_rfl
@[simp] theorem Ro:ak Tryz.prog 26=some ⟨1,(some (.slice none 0 0)),.slice 2 1 8 (some (.int .i64 0))⟩:=by kernel_rfl
@[simp] theorem DY:ak Tryz.prog 27=some ⟨1,(some (.slice none 0 0)),.slice 3 1 8 (some (.int .i64 0))⟩:=by kernel_rfl
@[simp] theorem Rp:ak Tryz.prog 34=some ⟨1,(some (.slice none 0 0)),.slice 73 12 104 (some (.agg #[.string ByteArray.empty,.int .i64 0,.int .i64 0,.int .i64 0,.int .i64 0,.int .i64 0,.int .i64 0,.int .i64 0,.int .i64 0,.int .i64 0,.int .i64 0,.int .i64 0]))⟩:=by kernel_rfl
@[simp] theorem Rq:ak Tryz.prog 35=some ⟨1,(some (.slice none 0 0)),.slice 171 5 40 (some (.agg #[.int .i64 0,.int .i64 0,.int .i64 0,.int .i64 0,.int .i64 0]))⟩:=by kernel_rfl
@[simp] theorem Rr:ak Tryz.prog 36=some ⟨2,(some (.agg #[.slice none 0 0,.slice none 0 0])),.struct [(0,1),(1,1)]⟩:=by kernel_rfl
@[simp] theorem Rs:ak Tryz.prog 37=some ⟨2,(some (.agg #[.slice none 0 0,.slice none 0 0])),.struct [(0,1),(1,1)]⟩:=by kernel_rfl
@[simp] theorem Rt:ak Tryz.prog 43=some ⟨1,(some (.slice none 0 0)),.slice 53 3 40 (some (.agg #[.int .i64 0,.int .i64 0,.slice none 0 0]))⟩:=by kernel_rfl
@[simp] theorem Ru:ak Tryz.prog 44=some ⟨1,(some (.slice none 0 0)),.slice 119 2 16 (some (.agg #[.int .i64 0,.int .i64 0]))⟩:=by kernel_rfl
@[simp] theorem Rv:ak Tryz.prog 45=some ⟨4,(some (.agg #[.slice none 0 0,.slice none 0 0,.slice none 0 0,.slice none 0 0])),.struct [(0,2),(2,1),(3,1)]⟩:=by kernel_rfl
@[simp] theorem Rw:ak Tryz.prog 46=some ⟨4,(some (.agg #[.slice none 0 0,.slice none 0 0,.slice none 0 0,.slice none 0 0])),.struct [(0,2),(2,1),(3,1)]⟩:=by kernel_rfl
@[simp] theorem Rx:ak Tryz.prog 49=some ⟨3,(some (.agg #[.int .i64 0,.int .i64 0,.int .i64 0])),.array 3 1⟩:=by kernel_rfl
@[simp] theorem Ry:fT Tryz.prog 49=some (some 3):=by kernel_rfl
@[simp] theorem Rz:ak Tryz.prog 50=some ⟨3,(some (.agg #[.int .i64 0,.int .i64 0,.int .i64 0])),.array 3 1⟩:=by kernel_rfl
@[simp] theorem RA:fT Tryz.prog 50=some (some 3):=by kernel_rfl
@[simp] theorem RB:ak Tryz.prog 51=some ⟨1,(some (.slice none 0 0)),.slice 50 3 24 (some (.agg #[.int .i64 0,.int .i64 0,.int .i64 0]))⟩:=by kernel_rfl
@[simp] theorem RC:ak Tryz.prog 52=some ⟨3,(some (.agg #[.int .i64 0,.int .i64 0,.slice none 0 0])),.struct [(0,1),(1,1),(2,1)]⟩:=by kernel_rfl
@[simp] theorem RD:ak Tryz.prog 53=some ⟨3,(some (.agg #[.int .i64 0,.int .i64 0,.slice none 0 0])),.struct [(0,1),(1,1),(2,1)]⟩:=by kernel_rfl
@[simp] theorem RE:ak Tryz.prog 54=some ⟨1,(some (.pointer none)),.one⟩:=by kernel_rfl
@[simp] theorem RF:ak Tryz.prog 64=some ⟨2,(some (.agg #[.int .i64 0,.int .i64 0])),.struct [(0,1),(1,1)]⟩:=by kernel_rfl
@[simp] theorem RG:ak Tryz.prog 65=some ⟨2,(some (.agg #[.int .i64 0,.int .i64 0])),.struct [(0,1),(1,1)]⟩:=by kernel_rfl
@[simp] theorem RH:ak Tryz.prog 72=some ⟨12,(some (.agg #[.string ByteArray.empty,.int .i64 0,.int .i64 0,.int .i64 0,.int .i64 0,.int .i64 0,.int .i64 0,.int .i64 0,.int .i64 0,.int .i64 0,.int .i64 0,.int .i64 0])),.struct [(0,1),(1,1),(2,1),(3,3),(6,1),(7,1),(8,1),(9,1),(10,1),(11,1)]⟩:=by kernel_rfl
@[simp] theorem RI:ak Tryz.prog 73=some ⟨12,(some (.agg #[.string ByteArray.empty,.int .i64 0,.int .i64 0,.int .i64 0,.int .i64 0,.int .i64 0,.int .i64 0,.int .i64 0,.int .i64 0,.int .i64 0,.int .i64 0,.int .i64 0])),.struct [(0,1),(1,1),(2,1),(3,3),(6,1),(7,1),(8,1),(9,1),(10,1),(11,1)]⟩:=by kernel_rfl
@[simp] theorem RJ:ak Tryz.prog 74=some ⟨1,(some (.int .i64 0)),.one⟩:=by kernel_rfl
@[simp] theorem RK:dh Tryz.prog 74=some .i64:=by kernel_rfl
@[simp] theorem RL:ak Tryz.prog 78=some ⟨1,(some (.pointer none)),.one⟩:=by kernel_rfl
@[simp] theorem RM:ak Tryz.prog 81=some ⟨1,(some (.slice none 0 0)),.slice 22 1 24 (some (.slice none 0 0))⟩:=by kernel_rfl
@[simp] theorem M9:ak Tryz.prog 82=some ⟨1,(some (.slice none 0 0)),.slice 27 1 24 (some (.slice none 0 0))⟩:=by kernel_rfl
@[simp] theorem RN:ak Tryz.prog 83=some ⟨5,(some (.agg #[.slice none 0 0,.slice none 0 0,.slice none 0 0,.slice none 0 0,.slice none 0 0])),.struct [(0,2),(2,1),(3,1),(4,1)]⟩:=by kernel_rfl
@[simp] theorem RO:ak Tryz.prog 84=some ⟨5,(some (.agg #[.slice none 0 0,.slice none 0 0,.slice none 0 0,.slice none 0 0,.slice none 0 0])),.struct [(0,2),(2,1),(3,1),(4,1)]⟩:=by kernel_rfl
@[simp] theorem RP:ak Tryz.prog 86=some ⟨3,(some (.agg #[.int .i64 0,.slice none 0 0,.slice none 0 0])),.struct [(0,1),(1,1),(2,1)]⟩:=by kernel_rfl
@[simp] theorem RQ:ak Tryz.prog 87=some ⟨3,(some (.agg #[.int .i64 0,.slice none 0 0,.slice none 0 0])),.struct [(0,1),(1,1),(2,1)]⟩:=by kernel_rfl
@[simp] theorem RS:ak Tryz.prog 88=some ⟨5,(some (.agg #[.int .i64 0,.slice none 0 0,.int .i64 0,.slice none 0 0,.slice none 0 0])),.struct [(0,1),(1,1),(2,3)]⟩:=by kernel_rfl
@[simp] theorem RT:ak Tryz.prog 89=some ⟨5,(some (.agg #[.int .i64 0,.slice none 0 0,.int .i64 0,.slice none 0 0,.slice none 0 0])),.struct [(0,1),(1,1),(2,3)]⟩:=by kernel_rfl
@[simp] theorem RU:ak Tryz.prog 90=some ⟨8,(some (.agg #[.int .i64 0,.int .i64 0,.int .i64 0,.int .i64 0,.slice none 0 0,.int .i64 0,.slice none 0 0,.slice none 0 0])),.struct [(0,1),(1,1),(2,1),(3,5)]⟩:=by kernel_rfl
@[simp] theorem RW:ak Tryz.prog 91=some ⟨8,(some (.agg #[.int .i64 0,.int .i64 0,.int .i64 0,.int .i64 0,.slice none 0 0,.int .i64 0,.slice none 0 0,.slice none 0 0])),.struct [(0,1),(1,1),(2,1),(3,5)]⟩:=by kernel_rfl
@[simp] theorem RX:ak Tryz.prog 94=some ⟨2,(some (.agg #[.slice none 0 0,.int .i64 0])),.struct [(0,1),(1,1)]⟩:=by kernel_rfl
@[simp] theorem RY:ak Tryz.prog 95=some ⟨2,(some (.agg #[.slice none 0 0,.int .i64 0])),.struct [(0,1),(1,1)]⟩:=by kernel_rfl
@[simp] theorem Ps:ak Tryz.prog 102=some ⟨1,(some (.nilFunc)),.one⟩:=by kernel_rfl
@[simp] theorem Pt:ak Tryz.prog 103=some ⟨4,(some (.agg #[.pointer none,.slice none 0 0,.slice none 0 0,.nilFunc])),.struct [(0,1),(1,1),(2,1),(3,1)]⟩:=by kernel_rfl
@[simp] theorem Pu:ak Tryz.prog 104=some ⟨4,(some (.agg #[.pointer none,.slice none 0 0,.slice none 0 0,.nilFunc])),.struct [(0,1),(1,1),(2,1),(3,1)]⟩:=by kernel_rfl
@[simp] theorem Pv:ak Tryz.prog 107=some ⟨1,(some (.slice none 0 0)),.slice 4 1 1 (some (.bool false))⟩:=by kernel_rfl
@[simp] theorem Pw:ak Tryz.prog 108=some ⟨3,(some (.agg #[.slice none 0 0,.slice none 0 0,.slice none 0 0])),.struct [(0,1),(1,1),(2,1)]⟩:=by kernel_rfl
@[simp] theorem Px:ak Tryz.prog 109=some ⟨3,(some (.agg #[.slice none 0 0,.slice none 0 0,.slice none 0 0])),.struct [(0,1),(1,1),(2,1)]⟩:=by kernel_rfl
@[simp] theorem Py:ak Tryz.prog 118=some ⟨2,(some (.agg #[.int .i64 0,.int .i64 0])),.struct [(0,1),(1,1)]⟩:=by kernel_rfl
@[simp] theorem Pz:ak Tryz.prog 119=some ⟨2,(some (.agg #[.int .i64 0,.int .i64 0])),.struct [(0,1),(1,1)]⟩:=by kernel_rfl
@[simp] theorem PA:ak Tryz.prog 137=some ⟨1,(some (.slice none 0 0)),.slice 187 2 16 (some (.agg #[.int .i64 0,.int .i64 0]))⟩:=by kernel_rfl
@[simp] theorem PB:ak Tryz.prog 138=some ⟨1,(some (.slice none 0 0)),.slice 143 1 24 (some (.slice none 0 0))⟩:=by kernel_rfl
@[simp] theorem PC:ak Tryz.prog 139=some ⟨3,(some (.agg #[.slice none 0 0,.slice none 0 0,.slice none 0 0])),.struct [(0,1),(1,1),(2,1)]⟩:=by kernel_rfl
@[simp] theorem PD:ak Tryz.prog 140=some ⟨3,(some (.agg #[.slice none 0 0,.slice none 0 0,.slice none 0 0])),.struct [(0,1),(1,1),(2,1)]⟩:=by kernel_rfl
@[simp] theorem PE:ak Tryz.prog 143=some ⟨1,(some (.slice none 0 0)),.slice 204 6 48 (some (.agg #[.int .i64 0,.int .i64 0,.int .i64 0,.int .i64 0,.int .i64 0,.int .i64 0]))⟩:=by kernel_rfl
@[simp] theorem PF:ak Tryz.prog 144=some ⟨4,(some (.agg #[.slice none 0 0,.slice none 0 0,.int .i64 0,.int .i64 0])),.struct [(0,1),(1,1),(2,1),(3,1)]⟩:=by kernel_rfl
@[simp] theorem PG:ak Tryz.prog 145=some ⟨4,(some (.agg #[.slice none 0 0,.slice none 0 0,.int .i64 0,.int .i64 0])),.struct [(0,1),(1,1),(2,1),(3,1)]⟩:=by kernel_rfl
@[simp] theorem PH:ak Tryz.prog 149=some ⟨7,(some (.agg #[.int .i64 0,.int .i64 0,.int .i64 0,.int .i64 0,.slice none 0 0,.slice none 0 0,.int .i64 0])),.struct [(0,1),(1,3),(4,1),(5,1),(6,1)]⟩:=by kernel_rfl
@[simp] theorem PI:ak Tryz.prog 150=some ⟨7,(some (.agg #[.int .i64 0,.int .i64 0,.int .i64 0,.int .i64 0,.slice none 0 0,.slice none 0 0,.int .i64 0])),.struct [(0,1),(1,3),(4,1),(5,1),(6,1)]⟩:=by kernel_rfl
@[simp] theorem PJ:ak Tryz.prog 155=some ⟨3,(some (.agg #[.int .i64 0,.slice none 0 0,.slice none 0 0])),.struct [(0,3)]⟩:=by kernel_rfl
@[simp] theorem PK:ak Tryz.prog 156=some ⟨3,(some (.agg #[.int .i64 0,.slice none 0 0,.slice none 0 0])),.struct [(0,3)]⟩:=by kernel_rfl
@[simp] theorem PL:ak Tryz.prog 157=some ⟨1,(some (.agg #[.slice none 0 0])),.struct [(0,1)]⟩:=by kernel_rfl
@[simp] theorem PM:ak Tryz.prog 158=some ⟨1,(some (.agg #[.slice none 0 0])),.struct [(0,1)]⟩:=by kernel_rfl
@[simp] theorem PN:ak Tryz.prog 170=some ⟨5,(some (.agg #[.int .i64 0,.int .i64 0,.int .i64 0,.int .i64 0,.int .i64 0])),.struct [(0,1),(1,1),(2,3)]⟩:=by kernel_rfl
@[simp] theorem PO:ak Tryz.prog 171=some ⟨5,(some (.agg #[.int .i64 0,.int .i64 0,.int .i64 0,.int .i64 0,.int .i64 0])),.struct [(0,1),(1,1),(2,3)]⟩:=by kernel_rfl
@[simp] theorem PP:ak Tryz.prog 183=some ⟨1,(some (.nilFunc)),.one⟩:=by kernel_rfl
@[simp] theorem PQ:ak Tryz.prog 187=some ⟨2,(some (.agg #[.int .i64 0,.int .i64 0])),.struct [(0,1),(1,1)]⟩:=by kernel_rfl
@[simp] theorem PS:ak Tryz.prog 189=some ⟨1,(some (.nilFunc)),.one⟩:=by kernel_rfl
@[simp] theorem PU:ak Tryz.prog 193=some ⟨2,(some (.agg #[.slice none 0 0,.slice none 0 0])),.struct [(0,1),(1,1)]⟩:=by kernel_rfl
@[simp] theorem PW:ak Tryz.prog 194=some ⟨2,(some (.agg #[.slice none 0 0,.slice none 0 0])),.struct [(0,1),(1,1)]⟩:=by kernel_rfl
@[simp] theorem PX:ak Tryz.prog 196=some ⟨2,(some (.agg #[.slice none 0 0,.slice none 0 0])),.struct [(0,2)]⟩:=by kernel_rfl
@[simp] theorem PY:ak Tryz.prog 197=some ⟨2,(some (.agg #[.slice none 0 0,.slice none 0 0])),.struct [(0,2)]⟩:=by kernel_rfl
@[simp] theorem PZ:ak Tryz.prog 198=some ⟨2,(some (.agg #[.slice none 0 0,.slice none 0 0])),.struct [(0,2)]⟩:=by kernel_rfl
@[simp] theorem P0:ak Tryz.prog 199=some ⟨8,(some (.agg #[.slice none 0 0,.slice none 0 0,.slice none 0 0,.slice none 0 0,.int .i64 0,.int .i64 0,.int .i64 0,.int .i64 0])),.struct [(0,2),(2,2),(4,3),(7,1)]⟩:=by kernel_rfl
@[simp] theorem P1:ak Tryz.prog 200=some ⟨8,(some (.agg #[.slice none 0 0,.slice none 0 0,.slice none 0 0,.slice none 0 0,.int .i64 0,.int .i64 0,.int .i64 0,.int .i64 0])),.struct [(0,2),(2,2),(4,3),(7,1)]⟩:=by kernel_rfl
@[simp] theorem P2:ak Tryz.prog 203=some ⟨6,(some (.agg #[.int .i64 0,.int .i64 0,.int .i64 0,.int .i64 0,.int .i64 0,.int .i64 0])),.array 3 2⟩:=by kernel_rfl
@[simp] theorem P3:fT Tryz.prog 203=none:=by kernel_rfl
@[simp] theorem P4:rN Tryz.prog 203=some (3,2):=by kernel_rfl
@[simp] theorem P5:ak Tryz.prog 204=some ⟨6,(some (.agg #[.int .i64 0,.int .i64 0,.int .i64 0,.int .i64 0,.int .i64 0,.int .i64 0])),.array 3 2⟩:=by kernel_rfl
@[simp] theorem P6:fT Tryz.prog 204=none:=by kernel_rfl
@[simp] theorem P7:rN Tryz.prog 204=some (3,2):=by kernel_rfl
@[simp] theorem P8:ak Tryz.prog 208=some ⟨1,(some (.nilIface)),.one⟩:=by kernel_rfl
@[simp] theorem P9:ak Tryz.prog 215=some ⟨1,(some (.nilFunc)),.one⟩:=by kernel_rfl
@[simp] theorem Qa:ak Tryz.prog 226=some ⟨1,(some (.slice none 0 0)),.slice 231 24 192 (some (.agg #[.int .i64 0,.int .i64 0,.int .i64 0,.int .i64 0,.int .i64 0,.int .i64 0,.int .i64 0,.int .i64 0,.int .i64 0,.int .i64 0,.int .i64 0,.int .i64 0,.int .i64 0,.int .i64 0,.int .i64 0,.int .i64 0,.int .i64 0,.int .i64 0,.int .i64 0,.int .i64 0,.int .i64 0,.int .i64 0,.int .i64 0,.int .i64 0]))⟩:=by kernel_rfl
@[simp] theorem Qb:ak Tryz.prog 228=some ⟨18,(some (.agg #[.int .i64 0,.int .i64 0,.int .i64 0,.int .i64 0,.int .i64 0,.int .i64 0,.int .i64 0,.int .i64 0,.int .i64 0,.int .i64 0,.int .i64 0,.int .i64 0,.int .i64 0,.int .i64 0,.int .i64 0,.int .i64 0,.int .i64 0,.int .i64 0])),.array 3 6⟩:=by kernel_rfl
@[simp] theorem Qc:fT Tryz.prog 228=none:=by kernel_rfl
@[simp] theorem Qd:rN Tryz.prog 228=some (3,6):=by kernel_rfl
@[simp] theorem Qe:ak Tryz.prog 229=some ⟨18,(some (.agg #[.int .i64 0,.int .i64 0,.int .i64 0,.int .i64 0,.int .i64 0,.int .i64 0,.int .i64 0,.int .i64 0,.int .i64 0,.int .i64 0,.int .i64 0,.int .i64 0,.int .i64 0,.int .i64 0,.int .i64 0,.int .i64 0,.int .i64 0,.int .i64 0])),.array 3 6⟩:=by kernel_rfl
@[simp] theorem Qf:fT Tryz.prog 229=none:=by kernel_rfl
@[simp] theorem Qg:rN Tryz.prog 229=some (3,6):=by kernel_rfl
@[simp] theorem Qh:ak Tryz.prog 230=some ⟨24,(some (.agg #[.int .i64 0,.int .i64 0,.int .i64 0,.int .i64 0,.int .i64 0,.int .i64 0,.int .i64 0,.int .i64 0,.int .i64 0,.int .i64 0,.int .i64 0,.int .i64 0,.int .i64 0,.int .i64 0,.int .i64 0,.int .i64 0,.int .i64 0,.int .i64 0,.int .i64 0,.int .i64 0,.int .i64 0,.int .i64 0,.int .i64 0,.int .i64 0])),.struct [(0,18),(18,6)]⟩:=by kernel_rfl
@[simp] theorem Qi:ak Tryz.prog 231=some ⟨24,(some (.agg #[.int .i64 0,.int .i64 0,.int .i64 0,.int .i64 0,.int .i64 0,.int .i64 0,.int .i64 0,.int .i64 0,.int .i64 0,.int .i64 0,.int .i64 0,.int .i64 0,.int .i64 0,.int .i64 0,.int .i64 0,.int .i64 0,.int .i64 0,.int .i64 0,.int .i64 0,.int .i64 0,.int .i64 0,.int .i64 0,.int .i64 0,.int .i64 0])),.struct [(0,18),(18,6)]⟩:=by kernel_rfl
@[simp] theorem Qj:ak Tryz.prog 238=some ⟨2,(some (.agg #[.slice none 0 0,.int .i64 0])),.struct [(0,1),(1,1)]⟩:=by kernel_rfl
@[simp] theorem Qk:ak Tryz.prog 239=some ⟨2,(some (.agg #[.slice none 0 0,.int .i64 0])),.struct [(0,1),(1,1)]⟩:=by kernel_rfl
@[simp] theorem Ql:ak Tryz.prog 240=some ⟨4,(some (.agg #[.slice none 0 0,.int .i64 0,.slice none 0 0,.int .i64 0])),.struct [(0,2),(2,2)]⟩:=by kernel_rfl
@[simp] theorem Qm:ak Tryz.prog 241=some ⟨4,(some (.agg #[.slice none 0 0,.int .i64 0,.slice none 0 0,.int .i64 0])),.struct [(0,2),(2,2)]⟩:=by kernel_rfl
@[simp] theorem Qn:ak Tryz.prog 243=some ⟨1,(some (.pointer none)),.one⟩:=by kernel_rfl
@[simp] theorem Qo:ak Tryz.prog 267=some ⟨1,(some (.nilFunc)),.one⟩:=by kernel_rfl
@[simp] theorem Qp:ak Tryz.prog 268=some ⟨1,(some (.agg #[.nilFunc])),.struct [(0,1)]⟩:=by kernel_rfl
@[simp] theorem Qq:ak Tryz.prog 269=some ⟨1,(some (.agg #[.nilFunc])),.struct [(0,1)]⟩:=by kernel_rfl
@[simp] theorem Qr:ak Tryz.prog 278=some ⟨1,(some (.int .i64 0)),.one⟩:=by kernel_rfl
@[simp] theorem Qs:dh Tryz.prog 278=some .i64:=by kernel_rfl
@[simp] theorem Qt:ak Tryz.prog 283=some ⟨1,(some (.nilFunc)),.one⟩:=by kernel_rfl
@[simp] theorem Qu:ak Tryz.prog 284=some ⟨2,(some (.agg #[.nilFunc,.nilFunc])),.struct [(0,1),(1,1)]⟩:=by kernel_rfl
@[simp] theorem Qv:ak Tryz.prog 285=some ⟨2,(some (.agg #[.nilFunc,.nilFunc])),.struct [(0,1),(1,1)]⟩:=by kernel_rfl
@[simp] theorem Qw:ak Tryz.prog 289=some ⟨1,(some (.int .u64 0)),.one⟩:=by kernel_rfl
@[simp] theorem Qx:dh Tryz.prog 289=some .u64:=by kernel_rfl
@[simp] theorem Qy:ak Tryz.prog 291=some ⟨4,(some (.agg #[.int .i64 0,.int .i64 0,.int .i64 0,.int .i64 0])),.array 4 1⟩:=by kernel_rfl
@[simp] theorem Qz:fT Tryz.prog 291=some (some 4):=by kernel_rfl
@[simp] theorem QA:ak Tryz.prog 294=some ⟨1,(some (.int .u64 0)),.one⟩:=by kernel_rfl
@[simp] theorem QB:dh Tryz.prog 294=some .u64:=by kernel_rfl
@[simp] theorem QC:ak Tryz.prog 298=some ⟨11,(some (.agg #[.int .i64 0,.int .i64 0,.int .i64 0,.int .i64 0,.int .i64 0,.int .i64 0,.int .i64 0,.int .i64 0,.int .i64 0,.int .i64 0,.int .i64 0])),.array 11 1⟩:=by kernel_rfl
@[simp] theorem QD:fT Tryz.prog 298=some (some 11):=by kernel_rfl
@[simp] theorem QE:ak Tryz.prog 299=some ⟨11,(some (.agg #[.int .i64 0,.int .i64 0,.int .i64 0,.int .i64 0,.int .i64 0,.int .i64 0,.int .i64 0,.int .i64 0,.int .i64 0,.int .i64 0,.int .i64 0])),.array 11 1⟩:=by kernel_rfl
@[simp] theorem QF:fT Tryz.prog 299=some (some 11):=by kernel_rfl
@[simp] theorem QG:ak Tryz.prog 303=some ⟨4,(some (.agg #[.pointer none,.pointer none,.pointer none,.string ByteArray.empty])),.struct [(0,1),(1,1),(2,1),(3,1)]⟩:=by kernel_rfl
@[simp] theorem QH:ak Tryz.prog 304=some ⟨4,(some (.agg #[.pointer none,.pointer none,.pointer none,.string ByteArray.empty])),.struct [(0,1),(1,1),(2,1),(3,1)]⟩:=by kernel_rfl
@[simp] theorem QI:ak Tryz.prog 305=some ⟨0,(some (.agg #[])),.array 0 1⟩:=by kernel_rfl
@[simp] theorem QJ:fT Tryz.prog 305=some (some 0):=by kernel_rfl
@[simp] theorem QK:ak Tryz.prog 306=some ⟨0,(some (.agg #[])),.struct [(0,0)]⟩:=by kernel_rfl
@[simp] theorem QL:ak Tryz.prog 307=some ⟨0,(some (.agg #[])),.struct [(0,0)]⟩:=by kernel_rfl
@[simp] theorem QM:ak Tryz.prog 309=some ⟨1,(some (.int .u32 0)),.one⟩:=by kernel_rfl
@[simp] theorem QN:dh Tryz.prog 309=some .u32:=by kernel_rfl
@[simp] theorem QO:ak Tryz.prog 310=some ⟨1,(some (.int .u8 0)),.one⟩:=by kernel_rfl
@[simp] theorem QP:dh Tryz.prog 310=some .u8:=by kernel_rfl
@[simp] theorem QQ:ak Tryz.prog 311=some ⟨1,(some (.int .u8 0)),.one⟩:=by kernel_rfl
@[simp] theorem QR:dh Tryz.prog 311=some .u8:=by kernel_rfl
@[simp] theorem QS:ak Tryz.prog 312=some ⟨1,(some (.nilFunc)),.one⟩:=by kernel_rfl
@[simp] theorem QT:ak Tryz.prog 313=some ⟨1,(some (.pointer none)),.one⟩:=by kernel_rfl
@[simp] theorem QU:ak Tryz.prog 314=some ⟨1,(some (.int .i32 0)),.one⟩:=by kernel_rfl
@[simp] theorem QV:dh Tryz.prog 314=some .i32:=by kernel_rfl
@[simp] theorem QW:ak Tryz.prog 315=some ⟨1,(some (.int .i32 0)),.one⟩:=by kernel_rfl
@[simp] theorem QX:dh Tryz.prog 315=some .i32:=by kernel_rfl
@[simp] theorem QZ:ak Tryz.prog 316=some ⟨11,(some (.agg #[.int .u64 0,.int .u64 0,.int .u32 0,.int .u8 0,.int .u8 0,.int .u8 0,.int .u8 0,.nilFunc,.pointer none,.int .i32 0,.int .i32 0])),.struct [(0,1),(1,1),(2,1),(3,1),(4,1),(5,1),(6,1),(7,1),(8,1),(9,1),(10,1)]⟩:=by kernel_rfl
@[simp] theorem Q0:ak Tryz.prog 317=some ⟨11,(some (.agg #[.int .u64 0,.int .u64 0,.int .u32 0,.int .u8 0,.int .u8 0,.int .u8 0,.int .u8 0,.nilFunc,.pointer none,.int .i32 0,.int .i32 0])),.struct [(0,1),(1,1),(2,1),(3,1),(4,1),(5,1),(6,1),(7,1),(8,1),(9,1),(10,1)]⟩:=by kernel_rfl
abbrev I(lo hi:Int):PV:=.val (.agg #[.int .i64 lo,.int .i64 hi])
abbrev aU(x:Int×Int):PV:=I x.1 x.2
abbrev B(b:Bool):PV:=.val (.bool b)
abbrev Z(n:Int):PV:=.val (.int .i64 n)
abbrev wr(n:Int):Int:=IntKind.i64.wrap n
def aC(lo hi:Int):Bool:=decide (-2147483648<=lo)&&decide (lo<=hi)&&decide (hi<=2147483648)
theorem NI(a b c d:Int):al Tryz.prog (Op.equal 65 (.agg #[.int .i64 a,.int .i64 b]) (.agg #[.int .i64 c,.int .i64 d]))=some (a==c&&b==d):=by
 have hf:(Tryz.prog.fieldsOf 65).toList=[(Tryz.prog.fieldsOf 65)[0]!,(Tryz.prog.fieldsOf 65)[1]!]:=by kernel_rfl
 show al Tryz.prog (Op.equalIn (9999+1) 65 _ _)=_;rw[y8 9999 65 _ _ (by kernel_rfl) (by kernel_rfl),hf]
 have h:=uo (P:=Tryz.prog) (d:=9999) (xs:=#[.int .i64 a,.int .i64 b]) (ys:=#[.int .i64 c,.int .i64 d]) (f:=(Tryz.prog.fieldsOf 65)[0]!) (fs:=[(Tryz.prog.fieldsOf 65)[1]!]) (a:=.int .i64 a) (b:=.int .i64 c) (by decide +kernel) (by kernel_rfl) (by kernel_rfl) (tn 9998 _ .i64 .i64 a c (by kernel_rfl))
  (uo (by decide +kernel) (a:=.int .i64 b) (b:=.int .i64 d) (by kernel_rfl) (by kernel_rfl) (tn 9998 _ .i64 .i64 b d (by kernel_rfl)) Eo)
 rw[h];simp
def mF(P:Program)(o:Oper)(ρ:Operand->AV):Option dm:=bz P o ρ
def uw(x:AV):Option (Int×Int):=match x with
 |.pv (.val (.agg vs))=>match vs.toList with
  |[.int .i64 a,.int .i64 b]=>some (a,b)
  |_=>none
 |_=>none
theorem oa{x:AV}{a b:Int}(h:uw x=some (a,b)):x=.pv (I a b):=by
 unfold uw at h;split at h
 .split at h
  .rename_i vs _ a' b' hv
   injection h with h;injection h with h1 h2;subst h1;subst h2;rw[<-Array.toArray_toList (xs:=vs),hv]
  .cases h
 .cases h
def Fq(x y:AV)(fb:Option dm):Option dm:=match uw x,uw y with
 |some (a,b),some (c,d)=>some (.pv (.val (.bool !(a==c&&b==d))),[])
 |_,_=>fb
@[simp] theorem Kr(a b c d:Int)(fb:Option dm):Fq (.pv (.val (.agg #[.int .i64 a,.int .i64 b]))) (.pv (.val (.agg #[.int .i64 c,.int .i64 d]))) fb=some (.pv (.val (.bool !(a==c&&b==d))),[]):=rfl
@[simp] theorem Q1{ty:TypeId}{pos:String}(x y:Operand):
 bz Tryz.prog ⟨dst,.binOp .neq 65 x y 65,ty,pos,aft,g⟩ ρ=Fq (ρ x) (ρ y) (mF Tryz.prog ⟨dst,.binOp .neq 65 x y 65,ty,pos,aft,g⟩ ρ):=by
 unfold Fq;split
 .rename_i a b c d hx hy
  exact wW rfl (oa hx) (oa hy) (by kernel_rfl) (NI a b c d)
 .rfl
theorem iD(lo hi:Int):aa Tryz.prog 131 [.pv (I lo hi)] [] [] (.pv (B (aC lo hi))):=by
 refine Dp Tryz.func131 ?_;intro C hP hN;simp only[Tryz.f131]at hN|-
 with_reducible repeat' (first|refine Sp.h ?_|((first|refine Ss.h ?_|(refine Sb.h ?_ ?_ ?_<;>(try intro hgd)<;>try exact Xy))<;>simp -implicitDefEqProofs (maxSteps:=2000000) [hP,hN])|refine X2 ?_ ?_|(refine Xd ?_ ?_<;>intro hcd<;>try exact Xx))
 all_goals (first|(simp_all[aC];done)|((try simp_all[aC])<;>(try omega)<;>grind))
theorem vu(lo hi:Int):aa Tryz.prog 106 [.pv (I lo hi)] [] [] (.pv (B (aC lo hi))):=by
 refine Dp Tryz.func106 ?_;intro C hP hN;simp only[Tryz.f106]at hN|-
 with_reducible repeat' (first|refine Sp.h ?_|((first|refine Ss.h ?_|(refine Sb.h ?_ ?_ ?_<;>(try intro hgd)<;>try exact Xy))<;>simp -implicitDefEqProofs (maxSteps:=2000000) [hP,hN])|refine X2 ?_ ?_|(refine Xd ?_ ?_<;>intro hcd<;>try exact Xx))
 all_goals (first|(simp_all[aC];done)|((try simp_all[aC])<;>(try omega)<;>grind))
theorem vw(a b c d:Int):aa Tryz.prog 156 [.pv (I a b),.pv (I c d)] [] [] (.pv (B (aC a b&&aC c d))):=by
 refine Dp Tryz.func156 ?_;intro C hP hN;simp only[Tryz.f156]at hN|-
 with_reducible repeat' (first|refine Sp.h ?_|((first|refine Ss.h ?_|refine Sc.h (iD _ _) ?_|(refine Sb.h ?_ ?_ ?_<;>(try intro hgd)<;>try exact Xy))<;>simp -implicitDefEqProofs (maxSteps:=2000000) [hP,hN])|refine X2 ?_ ?_|(refine Xd ?_ ?_<;>intro hcd<;>try exact Xx))
 all_goals (first|(simp_all;done)|((try simp_all)<;>(try omega)<;>grind))
theorem K3(a b c d:Int):aa Tryz.prog 119 [.pv (I a b),.pv (I c d)] [] [] (.pv (B (aC a b&&aC c d&&decide (c<=a)&&decide (b<=d)))):=by
 refine Dp Tryz.func119 ?_;intro C hP hN;simp only[Tryz.f119]at hN|-
 with_reducible repeat' (first|refine Sp.h ?_|((first|refine Ss.h ?_|refine Sc.h (vw _ _ _ _) ?_|(refine Sb.h ?_ ?_ ?_<;>(try intro hgd)<;>try exact Xy))<;>simp -implicitDefEqProofs (maxSteps:=2000000) [hP,hN])|refine X2 ?_ ?_|(refine Xd ?_ ?_<;>intro hcd<;>try exact Xx))
 all_goals (first|(simp_all;done)|((try simp_all)<;>(try omega)<;>grind))
def tp(n k:Int):Int:=if n.tmod k<0 then wr (n.tmod k+k)else n.tmod k
theorem NJ(n k:Int)(hk:k≠0):aa Tryz.prog 23 [.pv (Z n),.pv (Z k)] [] [] (.pv (Z (tp n k))):=by
 refine Dp Tryz.func23 ?_;intro C hP hN;simp only[Tryz.f23]at hN|-
 with_reducible repeat' (first|refine Sp.h ?_|((first|refine Ss.h ?_|(refine Sb.h ?_ ?_ ?_<;>(try intro hgd)<;>try exact Xy))<;>simp -implicitDefEqProofs (maxSteps:=2000000) [hP,hN,hk])|refine X2 ?_ ?_|(refine Xd ?_ ?_<;>intro hcd<;>try exact Xx))
 all_goals (first|(simp_all[tp];done)|((try simp_all[tp])<;>(try omega)<;>grind))
@[simp] theorem Nm(a b:Int):(if b<a then b else a)=min a b:=by split<;>omega
@[simp] theorem Nn(a b:Int):(if a<b then b else a)=max a b:=by split<;>omega
theorem ab{n:Int}(h1:-9223372036854775808<=n:=by omega)(h2:n<9223372036854775808:=by omega):wr n=n:=by
 rw[wr,IntKind.wrap_i64];omega
theorem JR(hk:k<64):min k.toNat 64=k.toNat:=by omega
theorem Ik:IntKind.i64.bits=64:=rfl
theorem K6(a:Int):aa Tryz.prog 237 [.pv (Z a)] [] [] (.pv (Z (min (max a (-2147483648)) 2147483648))):=by
 refine Dp Tryz.func237 ?_;intro C hP hN;simp only[Tryz.f237]at hN|-;exact Gy
 all_goals (first|(simp_all;done)|((try simp_all)<;>(try omega)<;>grind))
theorem Il(a b:Int):aa Tryz.prog 230 [.pv (Z a),.pv (Z b)] [] [] (.pv (I (min (max a (-2147483648)) 2147483648) (min (max b (-2147483648)) 2147483648))):=by
 refine Dp Tryz.func230 ?_;intro C hP hN;simp only[Tryz.f230]at hN|-;have q1:=@K6;exact GS trivial
 all_goals (first|(simp_all;done)|((try simp_all)<;>(try omega)<;>grind))
theorem K7(a:Int):aa Tryz.prog 216 [.pv (Z a)] [] [] (.pv (I (min (max a (-2147483648)) 2147483648) (min (max a (-2147483648)) 2147483648))):=by
 refine Dp Tryz.func216 ?_;intro C hP hN;simp only[Tryz.f216]at hN|-;have q1:=@Il;exact GS trivial
 all_goals (first|(simp_all;done)|((try simp_all)<;>(try omega)<;>grind))
theorem K8(a k:Int)(h:0<=k)(hk:k<64):aa Tryz.prog 163 [.pv (Z a),.pv (Z k)] [] [] (.pv (Z (a.fdiv (2^k.toNat)))):=by
 refine Dp Tryz.func163 ?_;intro C hP hN;simp only[Tryz.f163]at hN|-;exact GS (gA h (gA @Ik (JR hk)))
 all_goals (first|(simp_all;done)|((try simp_all)<;>(try omega)<;>grind))
def oc(x y:Int×Int):Int×Int:=if aC x.1 x.2&&aC y.1 y.2 then(min x.1 y.1,max x.2 y.2)else(0,0)
theorem Dm(a b c d:Int):aa Tryz.prog 250 [.pv (I a b),.pv (I c d)] [] [] (.pv (aU (oc (a,b) (c,d)))):=by
 refine Dp Tryz.func250 ?_;intro C hP hN;simp only[Tryz.f250]at hN|-
 with_reducible repeat' (first|refine Sp.h ?_|((first|refine Ss.h ?_|refine Sc.h (vw _ _ _ _) ?_|(refine Sb.h ?_ ?_ ?_<;>(try intro hgd)<;>try exact Xy))<;>simp -implicitDefEqProofs (maxSteps:=2000000) [hP,hN])|refine X2 ?_ ?_|(refine Xd ?_ ?_<;>intro hcd<;>try exact Xx))
 all_goals (first|(simp_all[oc];done)|((try simp_all[oc])<;>(try omega)<;>grind))
theorem tr(a b:Int):aa Tryz.prog 126 [.pv (I a b)] [] [] (.pv (Z (if aC a b then wr (b-a)else 0))):=by
 refine Dp Tryz.func126 ?_;intro C hP hN;simp only[Tryz.f126]at hN|-
 with_reducible repeat' (first|refine Sp.h ?_|((first|refine Ss.h ?_|refine Sc.h (iD _ _) ?_|(refine Sb.h ?_ ?_ ?_<;>(try intro hgd)<;>try exact Xy))<;>simp -implicitDefEqProofs (maxSteps:=2000000) [hP,hN])|refine X2 ?_ ?_|(refine Xd ?_ ?_<;>intro hcd<;>try exact Xx))
 all_goals (first|(simp_all;done)|((try simp_all)<;>(try omega)<;>grind))
theorem Im(a b:Int):aa Tryz.prog 127 [.pv (I a b)] [] [] (.pv (Z (if aC a b then(wr (a+b)).fdiv 2 else 0))):=by
 refine Dp Tryz.func127 ?_;intro C hP hN;simp only[Tryz.f127]at hN|-
 with_reducible repeat' (first|refine Sp.h ?_|((first|refine Ss.h ?_|refine Sc.h (iD _ _) ?_|refine Sc.h (K8 _ _ (by decide) (by decide)) ?_|(refine Sb.h ?_ ?_ ?_<;>(try intro hgd)<;>try exact Xy))<;>simp -implicitDefEqProofs (maxSteps:=2000000) [hP,hN])|refine X2 ?_ ?_|(refine Xd ?_ ?_<;>intro hcd<;>try exact Xx))
 all_goals (first|(simp_all;done)|((try simp_all)<;>(try omega)<;>grind))
theorem Io(a b x:Int):aa Tryz.prog 101 [.pv (I a b),.pv (Z x)] [] [] (.pv (B (aC a b&&decide (a<=x)&&decide (x<=b)))):=by
 refine Dp Tryz.func101 ?_;intro C hP hN;simp only[Tryz.f101]at hN|-
 with_reducible repeat' (first|refine Sp.h ?_|((first|refine Ss.h ?_|refine Sc.h (iD _ _) ?_|(refine Sb.h ?_ ?_ ?_<;>(try intro hgd)<;>try exact Xy))<;>simp -implicitDefEqProofs (maxSteps:=2000000) [hP,hN])|refine X2 ?_ ?_|(refine Xd ?_ ?_<;>intro hcd<;>try exact Xx))
 all_goals (first|(simp_all;done)|((try simp_all)<;>(try omega)<;>grind))
theorem K9(a b x:Int):aa Tryz.prog 103 [.pv (I a b),.pv (Z x)] [] [] (.pv (B (aC a b&&decide (a<=x)&&decide (x<=b)))):=by
 refine Dp Tryz.func103 ?_;intro C hP hN;simp only[Tryz.f103]at hN|-
 with_reducible repeat' (first|refine Sp.h ?_|((first|refine Ss.h ?_|refine Sc.h (vu _ _) ?_|(refine Sb.h ?_ ?_ ?_<;>(try intro hgd)<;>try exact Xy))<;>simp -implicitDefEqProofs (maxSteps:=2000000) [hP,hN])|refine X2 ?_ ?_|(refine Xd ?_ ?_<;>intro hcd<;>try exact Xx))
 all_goals (first|(simp_all;done)|((try simp_all)<;>(try omega)<;>grind))
theorem Ip(a b c d:Int):aa Tryz.prog 167 [.pv (I a b),.pv (I c d)] [] [] (.pv (.tup (if aC a b&&aC c d&&decide (max a c<=min b d)then[I (max a c) (min b d),B true]else[I 0 0,B false]))):=by
 refine Dp Tryz.func167 ?_;intro C hP hN;simp only[Tryz.f167]at hN|-
 with_reducible repeat' (first|refine Sp.h ?_|((first|refine Ss.h ?_|refine Sc.h (vw _ _ _ _) ?_|(refine Sb.h ?_ ?_ ?_<;>(try intro hgd)<;>try exact Xy))<;>simp -implicitDefEqProofs (maxSteps:=2000000) [hP,hN])|refine X2 ?_ ?_|(refine Xd ?_ ?_<;>intro hcd<;>try exact Xx))
 all_goals (first|(simp_all;done)|((try simp_all)<;>(try omega)<;>grind))
theorem La(a b c d:Int):aa Tryz.prog 147 [.pv (I a b),.pv (I c d)] [] [] (.pv (.tup (if aC a b&&aC c d&&decide (max a c<=min b d)then[I (max a c) (min b d),B true]else[I 0 0,B false]))):=by
 refine Dp Tryz.func147 ?_;intro C hP hN;simp only[Tryz.f147]at hN|-
 with_reducible repeat' (first|refine Sp.h ?_|((first|refine Ss.h ?_|refine Sc.h (vu _ _) ?_|(refine Sb.h ?_ ?_ ?_<;>(try intro hgd)<;>try exact Xy))<;>simp -implicitDefEqProofs (maxSteps:=2000000) [hP,hN])|refine X2 ?_ ?_|(refine Xd ?_ ?_<;>intro hcd<;>try exact Xx))
 all_goals (first|(simp_all;done)|((try simp_all)<;>(try omega)<;>grind))
abbrev zs(xs:List Int):PV:=.sl (xs.map Z)
abbrev iv(xs:List (Int×Int)):PV:=.sl (xs.map aU)
abbrev Fv(f:FuncId):PV:=.val (.func (.func f) #[] #[])
theorem pY(h:n<=16777216):n<=9223372036854775807:=by omega
theorem au(h:i<n)(hn:n<=9223372036854775807):IntKind.i64.wrap ((i:Int)+1)=(i:Int)+1:=by rw[IntKind.wrap_i64];omega
def mG(p:α->Bool)(xs:List α):Int:=match xs.findIdx? p with
 |some i=>i
 |none=>-1
theorem od(hlt:i<xs.length)(hq:∀j x,j<i->xs[j]?=some x->p x=false)(hp:p xs[i]=true):mG p xs=i:=by
 have:xs.findIdx? p=some i:=by
  rw[List.findIdx?_eq_some_iff_getElem];refine⟨hlt,hp,λj hj=>?_⟩
  have hjl:j<xs.length:=by omega
  rw[hq j xs[j] hj (List.getElem?_eq_getElem hjl)];simp
 simp[mG,this]
theorem tu(hq:∀(j:Nat) x,xs[j]?=some x->p x=false):mG p xs=-1:=by
 have:xs.findIdx? p=none:=by
  rw[List.findIdx?_eq_none_iff];intro x hx;obtain⟨j,hj,rfl⟩:=List.mem_iff_getElem.1 hx;exact hq j _ (List.getElem?_eq_getElem hj)
 simp[mG,this]
theorem rZ(p:α->Bool)(xs:List α):decide (0<=mG p xs)=xs.any p:=by
 unfold mG
 cases h:xs.findIdx? p with
 |none=>
  rw[List.findIdx?_eq_none_iff]at h
  have:xs.any p=false:=by
   rw[List.any_eq_false];intro x hx;rw[h x hx];simp
  simp[this]
 |some i=>
  rw[List.findIdx?_eq_some_iff_getElem]at h;obtain⟨hl,hp,_⟩:=h;have:xs.any p=true:=List.any_eq_true.2 ⟨xs[i],List.getElem_mem hl,hp⟩;simp[this]
theorem nq(hlt:i<xs.length)(hq:∀j x,j<i->xs[j]?=some x->p x=false)(hp:p xs[i]=false):∀j x,j<i+1->xs[j]?=some x->p x=false:=by
 intro j x hj hx;by_cases e:j=i
 .subst e;rw[List.getElem?_eq_getElem hlt]at hx;injection hx with hx;subst hx;exact hp
 .exact hq j x (by omega) hx
theorem na(hlt:¬i<xs.length)(hq:∀j x,j<i->xs[j]?=some x->p x=false):∀(j:Nat) x,xs[j]?=some x->p x=false:=by
 intro j x hx;have:=(List.getElem?_eq_some_iff.1 hx).1;exact hq j x (by omega) hx
theorem Lb(f:FuncId)(p:Int×Int->Bool)(xs:List (Int×Int))(hl:xs.length<=9223372036854775807)(hf:∀x,aa Tryz.prog f [.pv (aU x)] [] [] (.pv (B (p x)))):aa Tryz.prog 196 [.pv (iv xs),.pv (Fv f)] [] [] (.pv (Z (mG p xs))):=by
 refine Dp Tryz.func196 ?_;intro C hP hN;simp only[Tryz.f196]at hN|-;refine Gz ?_;refine WP.loopN [] xs.length (λi st=>st.t 0=.pv (iv xs)∧st.t 1=.pv (Fv f)∧st.t 7=.pv (Z xs.length)∧st.t 8=.pv (Z i)∧∀j x,j<i->xs[j]?=some x->p x=false) (by simp) ?_;rintro i st hi ⟨h0,h1,h7,h8,hq⟩;by_cases hlt:i<xs.length
 .have hw:=au hlt hl
  with_reducible repeat' (first|refine Sp.h ?_|((first|refine Ss.h ?_|refine Sc.h (hf _) ?_|(refine Sb.h ?_ ?_ ?_<;>(try intro hgd)<;>try exact Xy))<;>simp -implicitDefEqProofs (maxSteps:=2000000) [hP,hN,h0,h1,h7,h8,hlt,hw])|refine X2 ?_ ?_|(refine Xd ?_ ?_<;>intro hcd<;>try exact Xx))
  .exact(od hlt hq hcd).symm
  .simpa using nq hlt hq hcd
 .skip
  refine Gz ?_;exact(tu (na hlt hq)).symm
theorem Iq(f:FuncId)(p:Int×Int->Bool)(xs:List (Int×Int))(hl:xs.length<=9223372036854775807)(hf:∀x,aa Tryz.prog f [.pv (aU x)] [] [] (.pv (B (p x)))):aa Tryz.prog 161 [.pv (iv xs),.pv (Fv f)] [] [] (.pv (B (xs.any p))):=by
 refine Dp Tryz.func161 ?_;intro C hP hN;simp only[Tryz.f161]at hN|-
 with_reducible repeat' (first|refine Sp.h ?_|((first|refine Ss.h ?_|refine Sc.h (Lb _ _ _ hl hf) ?_|(refine Sb.h ?_ ?_ ?_<;>(try intro hgd)<;>try exact Xy))<;>simp -implicitDefEqProofs (maxSteps:=2000000) [hP,hN])|refine X2 ?_ ?_|(refine Xd ?_ ?_<;>intro hcd<;>try exact Xx))
 all_goals (first|(simp_all[rZ];done)|((try simp_all[rZ])<;>(try omega)<;>grind))
def bi(p:α->Bool)(xs:List α):Bool:=xs.all p
theorem Cm(p:α->Bool)(xs:List α):(xs.any λx=>!p x)=!bi p xs:=by simp[bi,List.any_eq_not_all_not]
abbrev vI(x:Int×Int):Bool:=aC x.1 x.2
theorem Lc(x:Int×Int):aa Tryz.prog 162 [.pv (aU x)] [] [] (.pv (B (!aC x.1 x.2))):=by
 refine Dp Tryz.func162 ?_;intro C hP hN;simp only[Tryz.f162]at hN|-;have q1:=@iD;exact GS trivial
 all_goals (first|(simp_all;done)|((try simp_all)<;>(try omega)<;>grind))
theorem tv(xs:List (Int×Int))(hl:xs.length<=9223372036854775807):aa Tryz.prog 125 [.pv (iv xs)] [] [] (.pv (B (bi vI xs))):=by
 refine Dp Tryz.func125 ?_;intro C hP hN;simp only[Tryz.f125]at hN|-
 with_reducible repeat' (first|refine Sp.h ?_|((first|refine Ss.h ?_|refine Sc.h (Iq _ _ _ hl Lc) ?_|(refine Sb.h ?_ ?_ ?_<;>(try intro hgd)<;>try exact Xy))<;>simp -implicitDefEqProofs (maxSteps:=2000000) [hP,hN,Cm vI xs])|refine X2 ?_ ?_|(refine Xd ?_ ?_<;>intro hcd<;>try exact Xx))
 all_goals (first|(simp_all;done)|((try simp_all)<;>(try omega)<;>grind))
def Er(x:Int):Bool:=decide (-2147483648<=x)&&decide (x<=2147483648)
theorem Fr{T L:List PV}{v:PV}(hlen:L.length=T.length)(h:∀j,j<i->L[j]?=T[j]?)(hv:T[i]?=some v):∀j,j<i+1->(L.set i v)[j]?=T[j]?:=by
 intro j hj;have hi:i<T.length:=(List.getElem?_eq_some_iff.1 hv).1;by_cases e:j=i
 .subst e;rw[hv,List.getElem?_set_self (by omega)]
 .rw[List.getElem?_set_ne (by omega)];exact h j (by omega)
theorem Fs{T L:List PV}(hlen:L.length=T.length)(h:∀j,j<i->L[j]?=T[j]?)(hi:T.length<=i):L=T:=by
 apply List.ext_getElem?;intro j;by_cases e:j<i
 .exact h j e
 .rw[List.getElem?_eq_none (by omega),List.getElem?_eq_none (by omega)]
theorem tw(hlt:i<xs.length)(hp:p xs[i]=false):bi p xs=false:=by
 rw[bi,List.all_eq_false];exact⟨xs[i],List.getElem_mem hlt,by simp[hp]⟩
theorem r4(hlt:i<xs.length)(h:bi p (xs.take i)=true)(hp:p xs[i]=true):bi p (xs.take (i+1))=true:=by
 unfold bi at *;rw[List.take_succ_eq_append_getElem hlt,List.all_append,h];simp[hp]
theorem r5(hlt:¬i<xs.length)(h:bi p (xs.take i)=true):bi p xs=true:=by
 rwa [List.take_of_length_le (by omega)]at h
theorem zG{f:α->β}(hlt:i<xs.length):(xs.map f).take i++[f xs[i]]=(xs.map f).take (i+1):=by
 rw[List.take_succ_eq_append_getElem (by simpa using hlt)];simp
theorem Es(hn:xs.length=n)(hi:¬i<n):xs.take i=xs:=List.take_of_length_le (by omega)
def fp(f:α->β->Bool)(xs:List α)(ys:List β):Bool:=(List.zipWith f xs ys).all id
def fM(f:α->β->Bool)(xs:List α)(ys:List β)(i:Nat):Bool:=((List.zipWith f xs ys).take i).all id
theorem km(hlt:i<xs.length)(hlt':i<ys.length)(hp:f xs[i] ys[i]=false):fp f xs ys=false:=
 tw (p:=id) (xs:=List.zipWith f xs ys) (i:=i) (by simp;omega) (by simpa using hp)
theorem lr(hlt:i<xs.length)(hlt':i<ys.length)(h:fM f xs ys i=true)(hp:f xs[i] ys[i]=true):fM f xs ys (i+1)=true:=
 r4 (p:=id) (xs:=List.zipWith f xs ys) (i:=i) (by simp;omega) h (by simpa using hp)
theorem lu(hlt:¬i<xs.length)(h:fM f xs ys i=true):fp f xs ys=true:=
 r5 (p:=id) (xs:=List.zipWith f xs ys) (i:=i) (by simp;omega) h
theorem lU(xs:List (Int×Int))(hl:xs.length<=9223372036854775807):aa Tryz.prog 54 [.pv (iv xs)] [] [] (.pv (B (bi vI xs))):=by
 refine Dp Tryz.func54 ?_;intro C hP hN;simp only[Tryz.f54]at hN|-;refine Gz ?_;refine WP.loopN [] xs.length (λi st=>st.t 0=.pv (iv xs)∧st.t 3=.pv (Z i)∧bi vI (xs.take i)=true) (by simp[bi]) ?_;rintro i st hi ⟨h0,h1,hq⟩;by_cases hlt:i<xs.length
 .have hw:=au hlt hl
  have hF:vI xs[i]=false->bi vI xs=false:=tw hlt;have hS:vI xs[i]=true->bi vI (xs.take (i+1))=true:=r4 hlt hq
  with_reducible repeat' (first|refine Sp.h ?_|((first|refine Ss.h ?_|refine Sc.h (vu _ _) ?_|(refine Sb.h ?_ ?_ ?_<;>(try intro hgd)<;>try exact Xy))<;>simp -implicitDefEqProofs (maxSteps:=2000000) [hP,hN,h0,h1,hlt,hw])|refine X2 ?_ ?_|(refine Xd ?_ ?_<;>intro hcd<;>try exact Xx))
  all_goals first|(rw[hF];simp_all[Er];try omega)|(rw[hS];simp_all[Er];try omega)
 .skip
  refine Gz ?_;simp[r5 hlt hq]
def oH(x y:Int×Int):Bool:=aC x.1 x.2&&aC y.1 y.2&&decide (y.1<=x.1)&&decide (x.2<=y.2)
def mH(x:Int×Int)(c:Int):Bool:=aC x.1 x.2&&decide (x.1<=c)&&decide (c<=x.2)
def vA(xs:List (Int×Int))(ys:List Int):Bool:=bi vI xs&&decide (xs.length=ys.length)&&fp mH xs ys
theorem GM(xs:List (Int×Int))(ys:List (Int))(hl:xs.length<=9223372036854775807)(hm:ys.length<=9223372036854775807):aa Tryz.prog 52 [.pv (iv xs),.pv (zs ys)] [] [] (.pv (B (vA xs ys))):=by
 refine Dp Tryz.func52 ?_;intro C hP hN;simp only[Tryz.f52]at hN|-
 cases hv:bi vI xs with
 |false=>
  with_reducible repeat' (first|refine Sp.h ?_|((first|refine Wd ?_|refine Ss.h ?_|refine Sc.h (lU _ hl) ?_|(refine Sb.h ?_ ?_ ?_<;>(try intro hgd)<;>try exact Xy))<;>simp -implicitDefEqProofs (maxSteps:=2000000) [hP,hN,hv]<;>try refine Ya ?_)|refine X2 ?_ ?_|(refine Xd ?_ ?_<;>intro hcd<;>try exact Xx))
  all_goals simp[vA,hv]
 |true=>
  by_cases he:xs.length=ys.length
  .skip
   with_reducible repeat' (first|refine Sp.h ?_|((first|refine Wd ?_|refine Ss.h ?_|refine Sc.h (lU _ hl) ?_|(refine Sb.h ?_ ?_ ?_<;>(try intro hgd)<;>try exact Xy))<;>simp -implicitDefEqProofs (maxSteps:=2000000) [hP,hN,hv,he]<;>try refine Ya ?_)|refine X2 ?_ ?_|(refine Xd ?_ ?_<;>intro hcd<;>try exact Xx))
   refine WP.loopN [] xs.length (λi st=>st.t 0=.pv (iv xs)∧st.t 1=.pv (zs ys)∧st.t 5=.pv (Z i)∧fM mH xs ys i=true) (by simp[fM]) ?_;rintro i st hi ⟨h0,h1,h2,hq⟩;by_cases hlt:i<xs.length
   .have hw:=au hlt hl
    have hlt':i<ys.length:=by omega
    have hF:mH xs[i] ys[i]=false->fp mH xs ys=false:=km hlt hlt';have hS:mH xs[i] ys[i]=true->fM mH xs ys (i+1)=true:=lr hlt hlt' hq
    with_reducible repeat' (first|refine Sp.h ?_|((first|refine Wd ?_|refine Ss.h ?_|refine Sc.h (K9 _ _ _) ?_|(refine Sb.h ?_ ?_ ?_<;>(try intro hgd)<;>try exact Xy))<;>simp -implicitDefEqProofs (maxSteps:=2000000) [hP,hN,h0,h1,h2,hlt,hlt',hw]<;>try refine Ya ?_)|refine X2 ?_ ?_|(refine Xd ?_ ?_<;>intro hcd<;>try exact Xx))
    all_goals first|(rw[vA,hF (by simp only[mH]<;>grind)];simp;done)|(rw[hS (by simp only[mH]<;>grind)];done)
   .have hlt':¬i<ys.length:=by omega
    refine Gz ?_
    all_goals simp[vA,hv,he,lu hlt hq]
  .skip
   with_reducible repeat' (first|refine Sp.h ?_|((first|refine Wd ?_|refine Ss.h ?_|refine Sc.h (lU _ hl) ?_|(refine Sb.h ?_ ?_ ?_<;>(try intro hgd)<;>try exact Xy))<;>simp -implicitDefEqProofs (maxSteps:=2000000) [hP,hN,hv,he]<;>try refine Ya ?_)|refine X2 ?_ ?_|(refine Xd ?_ ?_<;>intro hcd<;>try exact Xx))
   all_goals simp[vA,hv,he]
def cV(x:Int×Int):Int:=if aC x.1 x.2 then wr (x.2-x.1)else 0
def ic(x:Int×Int):Int:=if aC x.1 x.2 then(wr (x.1+x.2)).fdiv 2 else 0
def br(xs:List (Int×Int))(j:Int):Bool:=decide (0<=j)&&bi vI xs&&(match xs[j.toNat]? with|some x=>decide (2<=cV x)|none=>false)
def cF(xs:List (Int×Int))(j:Int):List (Int×Int):=if br xs j then(match xs[j.toNat]? with|some x=>xs.set j.toNat (x.1,ic x)|none=>[])else[]
def cG(xs:List (Int×Int))(j:Int):List (Int×Int):=if br xs j then(match xs[j.toNat]? with|some x=>xs.set j.toNat (ic x,x.2)|none=>[])else[]
theorem Ir(xs:List (Int×Int))(j:Int)(hl:xs.length<=16777216):aa Tryz.prog 74 [.pv (iv xs),.pv (Z j)] [] [] (.pv (.tup [iv (cF xs j),iv (cG xs j),B (br xs j)])):=by
 refine Dp Tryz.func74 ?_;intro C hP hN;simp only[Tryz.f74]at hN|-;by_cases hj:0<=j
 .obtain⟨n,rfl⟩:=Int.eq_ofNat_of_zero_le hj
  by_cases hlt:n<xs.length
  .cases hv:bi vI xs with
   |false=>
    with_reducible repeat' (first|refine Sp.h ?_|((first|refine Wd ?_|refine Ss.h ?_|refine Sc.h (tv _ (pY hl)) ?_|(refine Sb.h ?_ ?_ ?_<;>(try intro hgd)<;>try exact Xy))<;>simp -implicitDefEqProofs (maxSteps:=2000000) [hP,hN,hlt,hv]<;>try refine Ya ?_)|refine X2 ?_ ?_|(refine Xd ?_ ?_<;>intro hcd<;>try exact Xx))
    all_goals simp[cF,cG,br,hv]
   |true=>
    have hx:=List.getElem?_eq_getElem hlt;generalize hxx:xs[n]=x at hx;by_cases hwd:cV x<2
    .have hwd':=hwd
     simp only[cV]at hwd'
     with_reducible repeat' (first|refine Sp.h ?_|((first|refine Wd ?_|refine Ss.h ?_|refine Sc.h (tv _ (pY hl)) ?_|refine Sc.h (tr _ _) ?_|(refine Sb.h ?_ ?_ ?_<;>(try intro hgd)<;>try exact Xy))<;>simp -implicitDefEqProofs (maxSteps:=2000000) [hP,hN,hlt,hv,hx,hxx,hwd']<;>try refine Ya ?_)|refine X2 ?_ ?_|(refine Xd ?_ ?_<;>intro hcd<;>try exact Xx))
     all_goals simp[cF,cG,br,hv,hx,Int.not_le.2 hwd]
    .have hwd':=hwd
     simp only[cV]at hwd'
     with_reducible repeat' (first|refine Sp.h ?_|((first|refine Wd ?_|refine Ss.h ?_|refine Sc.h (tv _ (pY hl)) ?_|refine Sc.h (tr _ _) ?_|refine Sc.h (Im _ _) ?_|(refine Sb.h ?_ ?_ ?_<;>(try intro hgd)<;>try exact Xy))<;>simp -implicitDefEqProofs (maxSteps:=2000000) [hP,hN,hlt,hv,hx,hxx,hwd',show(16:Int)*xs.length<=281474976710656 by omega,show(xs.length:Int)<=9223372036854775807 by omega]<;>try refine Ya ?_)|refine X2 ?_ ?_|(refine Xd ?_ ?_<;>intro hcd<;>try exact Xx))
     have hok:br xs (n:Int)=true:=by simp[br,hv,hx,Int.not_lt.1 hwd]
     have ht:List.take xs.length (List.map aU xs)=List.map aU xs:=List.take_of_length_le (by simp);simp[cF,cG,hok,hx,ht,List.map_set,ic]
  .skip
   with_reducible repeat' (first|refine Sp.h ?_|((first|refine Wd ?_|refine Ss.h ?_|refine Sc.h (tv _ (pY hl)) ?_|(refine Sb.h ?_ ?_ ?_<;>(try intro hgd)<;>try exact Xy))<;>simp -implicitDefEqProofs (maxSteps:=2000000) [hP,hN,hlt]<;>try refine Ya ?_)|refine X2 ?_ ?_|(refine Xd ?_ ?_<;>intro hcd<;>try exact Xx))
   all_goals (have hx:xs[n]?=none:=List.getElem?_eq_none (by omega));simp[cF,cG,br,hx]
 .skip
  with_reducible repeat' (first|refine Sp.h ?_|((first|refine Wd ?_|refine Ss.h ?_|refine Sc.h (tv _ (pY hl)) ?_|(refine Sb.h ?_ ?_ ?_<;>(try intro hgd)<;>try exact Xy))<;>simp -implicitDefEqProofs (maxSteps:=2000000) [hP,hN,hj,show j<0 by omega]<;>try refine Ya ?_)|refine X2 ?_ ?_|(refine Xd ?_ ?_<;>intro hcd<;>try exact Xx))
  all_goals simp[cF,cG,br,hj]
def nx(l:List Int)(n:Nat)(k:Int):Int:=match l[n]? with
 |some x=>tp x k
 |none=>0
def nn(l:List Int)(n:Nat):Nat:=if n<l.length then n+1 else n
abbrev gx(l:List Int)(n:Nat):List PV:=[zs l,Z n]
theorem It(l:List Int):aa Tryz.prog 14 [.pv (zs l)] [] [] (.box (gx l 0)):=by
 refine Dp Tryz.func14 ?_;intro C hP hN;simp only[Tryz.f14]at hN|-;exact Gy
 all_goals (first|(simp_all;done)|((try simp_all)<;>(try omega)<;>grind))
theorem lV(l:List Int)(n:Nat):nn l n<=n+1:=by unfold nn;split<;>omega
theorem wZ(l:List Int)(n:Nat)(k:Int)(hk:k≠0)(hn:n<1000000):aa Tryz.prog 18 [.bx 0,.pv (Z k)] [gx l n] [gx l (nn l n)] (.pv (Z (nx l n k))):=by
 have hw:IntKind.i64.wrap ((n:Int)+1)=(n:Int)+1:=by rw[IntKind.wrap_i64];omega
 have hw':IntKind.i64.wrap (n:Int)=n:=by rw[IntKind.wrap_i64];omega
 refine qU Tryz.func18 rfl (by kernel_rfl) (by simp[Tryz.f18]) rfl (by intro i j h;rcases i with _|_|_|i<;>simp_all) ?_;intro C hP hN;simp only[Tryz.f18]at hN|-;by_cases hlt:n<l.length
 .skip
  with_reducible repeat' (first|refine Sp.h ?_|((first|refine Wd ?_|refine Ss.h ?_|refine Sc.h (NJ _ _ hk) ?_|(refine Sb.h ?_ ?_ ?_<;>(try intro hgd)<;>try exact Xy))<;>simp -implicitDefEqProofs (maxSteps:=2000000) [hP,hN,gx,hlt,hw,hw',Nat.not_le.2 hlt]<;>try refine Ya ?_)|refine X2 ?_ ?_|(refine Xd ?_ ?_<;>intro hcd<;>try exact Xx))
  simp[nn,nx,hlt]
 .skip
  refine Gz ?_;simp[nn,nx,hlt]
theorem ld(l:List Int)(n:Nat)(hk:0<k)(hk':k<4611686018427387904):0<=nx l n k∧nx l n k<k:=by
 unfold nx;split
 .rename_i x _
  have h1:-k<x.tmod k:=by have:=Int.lt_tmod_of_pos x hk;omega
  have h2:x.tmod k<k:=Int.tmod_lt_of_pos x hk;unfold tp;split
  .rw[ab (by omega) (by omega)];omega
  .omega
 .omega
def yr(i:Nat):ByteArray:=⟨#[UInt8.ofNat (97+i)]⟩
abbrev xc:Value:=.string ⟨#[97,98,99,100,101,102,103,104,105,106]⟩
def xd(i:Nat):Operand->AV:=λx=>match x with
 |.tmp 3=>.pv (Z i)
 |.tmp 5=>.pv (Z ((i:Int)+1))
 |_=>.pv (.val xc)
section
variable {dst:Option Nat} {ty:TypeId} {pos:String} {aft:Array Edge} {g:Option (Nat×Bool)} {ρ:Operand->AV}
theorem Hk:bz Tryz.prog ⟨dst,.slice 9 (.const xc) (some (.tmp 3)) (some (.tmp 5)) none,ty,pos,aft,g⟩ (xd 0)=some (.pv (.val (.string (yr 0))),[]):=by kernel_rfl
theorem Hl:bz Tryz.prog ⟨dst,.slice 9 (.const xc) (some (.tmp 3)) (some (.tmp 5)) none,ty,pos,aft,g⟩ (xd 1)=some (.pv (.val (.string (yr 1))),[]):=by kernel_rfl
theorem Hm:bz Tryz.prog ⟨dst,.slice 9 (.const xc) (some (.tmp 3)) (some (.tmp 5)) none,ty,pos,aft,g⟩ (xd 2)=some (.pv (.val (.string (yr 2))),[]):=by kernel_rfl
theorem JS(i:Nat)(h3:i<3)(hc:ρ (.const xc)=.pv (.val xc))(hx:ρ (.tmp 3)=.pv (Z i))(hy:ρ (.tmp 5)=.pv (Z ((i:Int)+1))):
 bz Tryz.prog ⟨dst,.slice 9 (.const xc) (some (.tmp 3)) (some (.tmp 5)) none,ty,pos,aft,g⟩ ρ=some (.pv (.val (.string (yr i))),[]):=by
 have h:bz Tryz.prog ⟨dst,.slice 9 (.const xc) (some (.tmp 3)) (some (.tmp 5)) none,ty,pos,aft,g⟩ ρ=bz Tryz.prog ⟨dst,.slice 9 (.const xc) (some (.tmp 3)) (some (.tmp 5)) none,ty,pos,aft,g⟩ (xd i):=by
  refine oZ (by intro _ _ h;cases h) ?_;intro x hx';simp[Op.operands]at hx';rcases hx' with rfl|rfl|rfl
  .exact hc
  .exact hx
  .exact hy
 rw[h]
 have:i=0∨i=1∨i=2:=by omega
 rcases this with rfl|rfl|rfl
 .exact Hk
 .exact Hl
 .exact Hm
end
theorem Ks(i:Nat)(h3:i<3):aa Tryz.prog 27 [.pv (Z i)] [] [] (.pv (.val (.string (yr i)))):=by
 have hw:IntKind.i64.wrap ((i:Int)+1)=(i:Int)+1:=by rw[IntKind.wrap_i64];omega
 refine Dp Tryz.func27 ?_;intro C hP hN;simp only[Tryz.f27]at hN|-
 with_reducible repeat' (first|refine Sp.h ?_|((first|refine Ss.h ?_|(refine Sb.h ?_ ?_ ?_<;>(try intro hgd)<;>try exact Xy))<;>simp -implicitDefEqProofs (maxSteps:=2000000) [hP,hN,hw])|refine X2 ?_ ?_|(refine Xd ?_ ?_<;>intro hcd<;>try exact Xx))
 rw[JS i h3 rfl (by simp) (by simp)];simp[hP,hN];exact Gy
structure J where
 name:ByteArray
 kind:Int
 parent:Int
 ox:Int
 oy:Int
 oz:Int
 lo:Int
 hi:Int
 w:Int
 sp:Int
 ac:Int
 tq:Int
abbrev cW(j:J):PV:=.val (.agg #[.string j.name,.int .i64 j.kind,.int .i64 j.parent,.int .i64 j.ox,.int .i64 j.oy,.int .i64 j.oz,.int .i64 j.lo,.int .i64 j.hi,.int .i64 j.w,.int .i64 j.sp,.int .i64 j.ac,.int .i64 j.tq])
structure Ms where
 link:Int
 mass:Int
 px:Int
 py:Int
 pz:Int
abbrev fc(m:Ms):PV:=.val (.agg #[.int .i64 m.link,.int .i64 m.mass,.int .i64 m.px,.int .i64 m.py,.int .i64 m.pz])
abbrev AN:AV:=.pv (.val (.slice none 0 0))
abbrev ja(js:List J)(ms:List Ms):PV:=.agg [.sl (js.map cW),.sl (ms.map fc)]
theorem eF(x:Int)(hk:0<k)(hk':k<4611686018427387904):0<=tp x k∧tp x k<k:=by
 have:=ld [x] 0 hk hk';simpa[nx]using this
theorem Hn{P:Program}(d:Nat)(t:TypeId)(a b:Bool)(h:P.underlying t=some .bool):al P (Op.equalIn (d+1) t (.bool a) (.bool b))=some (a==b):=by
 simp only[Op.equalIn,aj,iy h,Option.bind_some];rfl
def GN(x y:AV):Option (Bool×Bool):=match x,y with
 |.pv (.val (.bool a)),.pv (.val (.bool b))=>some (a,b)
 |_,_=>none
def Ft(x y:AV)(fb:Option dm):Option dm:=match GN x y with
 |some (a,b)=>some (.pv (.val (.bool (a==b))),[])
 |none=>fb
@[simp] theorem Kt(a b:Bool)(fb:Option dm):Ft (.pv (.val (.bool a))) (.pv (.val (.bool b))) fb=some (.pv (.val (.bool (a==b))),[]):=rfl
@[simp] theorem NL{ty:TypeId}{pos:String}(x y:Operand):
 bz Tryz.prog ⟨dst,.binOp .eql 4 x y 4,ty,pos,aft,g⟩ ρ=Ft (ρ x) (ρ y) (mF Tryz.prog ⟨dst,.binOp .eql 4 x y 4,ty,pos,aft,g⟩ ρ):=by
 unfold Ft;split
 .rename_i a b h
  unfold GN at h;split at h
  .rename_i a' b' hx hy
   injection h with h;injection h with h1 h2;subst h1;subst h2;refine eC (by simp[Op.operands,hx,hy,fl]) ?_;unfold execOp;simp only[(bO hx).2,(bO hy).2]
   have h1:al Tryz.prog (eqGuard .eql 4 x y (.bool a') (.bool b'))=some ():=by kernel_rfl
   have h2:al Tryz.prog (binOp .eql 4 (.bool a') (.bool b'))=some (.bool (a'==b')):=by
    simp only[binOp,aj];rw[show al Tryz.prog (Op.equal 4 (.bool a') (.bool b'))=some (a'==b') from Hn 9999 4 a' b' Tryz.underlying4];rfl
   simp only[aj,h1,h2,Option.bind_some];rfl
  .cases h
 .rfl
theorem Ld(f:FuncId)(p:Int×Int->Int->Bool)(xs:List (Int×Int))(ys:List (Int))(hl:xs.length<=9223372036854775807)(hf:∀a b,aa Tryz.prog f [.pv (aU a),.pv (Z b)] [] [] (.pv (B (p a b)))):aa Tryz.prog 100 [.pv (.sl (xs.map aU)),.pv (.sl (ys.map Z)),.pv (Fv f)] [] [] (.pv (B (decide (xs.length=ys.length)&&fp p xs ys))):=by
 refine Dp Tryz.func100 ?_;intro C hP hN;simp only[Tryz.f100]at hN|-;by_cases he:xs.length=ys.length
 .skip
  refine Gz ?_;refine WP.loopN [8] xs.length (λi st=>st.t 0=.pv (.sl (xs.map aU))∧st.t 1=.pv (.sl (ys.map Z))∧st.t 2=.pv (Fv f)∧st.t 14=.pv (.sl (xs.map aU))∧st.t 15=.pv (Z xs.length)∧st.t 16=.pv (Z i)∧st.h 8=none∧fM p xs ys i=true) (by simp[fM,he]) ?_;rintro i st hi ⟨h0,h1,h2,h14,h15,h16,hb,hq⟩;by_cases hlt:i<xs.length
  .have hw:=au hlt hl
   have hlt':i<ys.length:=by omega
   have hF:p xs[i] ys[i]=false->fp p xs ys=false:=km hlt hlt';have hS:p xs[i] ys[i]=true->fM p xs ys (i+1)=true:=lr hlt hlt' hq
   with_reducible repeat' (first|refine Sp.h ?_|((first|refine Wd ?_|refine Ss.h ?_|refine Sc.h (hf _ _) ?_|(refine Sb.h ?_ ?_ ?_<;>(try intro hgd)<;>try exact Xy))<;>simp -implicitDefEqProofs (maxSteps:=2000000) [hP,hN,h0,h1,h2,h14,h15,h16,hb,hlt,hlt',hw]<;>try refine Ya ?_)|refine X2 ?_ ?_|(refine Xd ?_ ?_<;>intro hcd<;>try exact Xx))
   all_goals first|exact hF (by simpa using hcd)|simpa using hS (by simpa using hcd)
  .skip
   refine Gz ?_
   all_goals simp[he,lu hlt hq]
 .skip
  exact Gy
  all_goals simp[he]
theorem Le(f:FuncId)(p:Int×Int->Int×Int->Bool)(xs:List (Int×Int))(ys:List (Int×Int))(hl:xs.length<=9223372036854775807)(hf:∀a b,aa Tryz.prog f [.pv (aU a),.pv (aU b)] [] [] (.pv (B (p a b)))):aa Tryz.prog 165 [.pv (.sl (xs.map aU)),.pv (.sl (ys.map aU)),.pv (Fv f)] [] [] (.pv (B (decide (xs.length=ys.length)&&fp p xs ys))):=by
 refine Dp Tryz.func165 ?_;intro C hP hN;simp only[Tryz.f165]at hN|-;by_cases he:xs.length=ys.length
 .skip
  refine Gz ?_;refine WP.loopN [8] xs.length (λi st=>st.t 0=.pv (.sl (xs.map aU))∧st.t 1=.pv (.sl (ys.map aU))∧st.t 2=.pv (Fv f)∧st.t 14=.pv (.sl (xs.map aU))∧st.t 15=.pv (Z xs.length)∧st.t 16=.pv (Z i)∧st.h 8=none∧fM p xs ys i=true) (by simp[fM,he]) ?_;rintro i st hi ⟨h0,h1,h2,h14,h15,h16,hb,hq⟩;by_cases hlt:i<xs.length
  .have hw:=au hlt hl
   have hlt':i<ys.length:=by omega
   have hF:p xs[i] ys[i]=false->fp p xs ys=false:=km hlt hlt';have hS:p xs[i] ys[i]=true->fM p xs ys (i+1)=true:=lr hlt hlt' hq
   with_reducible repeat' (first|refine Sp.h ?_|((first|refine Wd ?_|refine Ss.h ?_|refine Sc.h (hf _ _) ?_|(refine Sb.h ?_ ?_ ?_<;>(try intro hgd)<;>try exact Xy))<;>simp -implicitDefEqProofs (maxSteps:=2000000) [hP,hN,h0,h1,h2,h14,h15,h16,hb,hlt,hlt',hw]<;>try refine Ya ?_)|refine X2 ?_ ?_|(refine Xd ?_ ?_<;>intro hcd<;>try exact Xx))
   all_goals first|exact hF (by simpa using hcd)|simpa using hS (by simpa using hcd)
  .skip
   refine Gz ?_
   all_goals simp[he,lu hlt hq]
 .skip
  exact Gy
  all_goals simp[he]
theorem NM(f:FuncId)(g:J->Int×Int)(xs:List (J))(hl:xs.length<=16777216)(hf:∀a,aa Tryz.prog f [.pv (cW a)] [] [] (.pv (aU (g a)))):aa Tryz.prog 67 [.pv (.sl (xs.map cW)),.pv (Fv f)] [] [] (.pv (.sl ((xs.map g).map aU))):=by
 refine Dp Tryz.func67 ?_;intro C hP hN;simp only[Tryz.f67]at hN|-;refine GT (gA hl (gA (show(16:Int)*xs.length<=281474976710656 by omega) (show(xs.length:Int)<=9223372036854775807 by omega))) ?_
 refine WP.loopN [7] xs.length (λi st=>st.t 0=.pv (.sl (xs.map cW))∧st.t 1=.pv (Fv f)∧st.t 5=.arr 10 xs.length∧st.t 11=.pv (.sl (xs.map cW))∧st.t 12=.pv (Z xs.length)∧st.t 13=.pv (Z i)∧st.h 7=none∧
  ∃L,st.h 10=some (.row 65 2 L 0)∧L.length=xs.length∧∀j,j<i->L[j]?=((xs.map g).map aU)[j]?) (by simp) ?_
 rintro i st hi ⟨h0,h1,h5,h11,h12,h13,hb,L,hL,hLl,hq⟩
 have hT:L.length=((xs.map g).map aU).length:=by simp[hLl]
 by_cases hlt:i<xs.length
 .have hw:=au hlt (pY hl)
  have hltL:i<L.length:=by omega
  with_reducible repeat' (first|refine Sp.h ?_|((first|refine Ss.h ?_|refine Sc.h (hf _) ?_|(refine Sb.h ?_ ?_ ?_<;>(try intro hgd)<;>try exact Xy))<;>simp -implicitDefEqProofs (maxSteps:=2000000) [hP,hN,h0,h1,h5,h11,h12,h13,hb,hL,hLl,hlt,hltL,hw])|refine X2 ?_ ?_|(refine Xd ?_ ?_<;>intro hcd<;>try exact Xx))
  simpa using Fr hT hq (v:=aU (g xs[i])) (by simp[hlt])
 .skip
  refine GT (gA h0 (gA h1 (gA h5 (gA h11 (gA h12 (gA h13 (gA hb (gA hL (gA hLl hlt))))))))) ?_;simpa using Fs hT hq (by simp;omega)
theorem Lf(a:Int×Int)(b:Int):aa Tryz.prog 101 [.pv (aU a),.pv (Z b)] [] [] (.pv (B (mH a b))):=Io a.1 a.2 b
theorem Ho(a b:Int×Int):aa Tryz.prog 119 [.pv (aU a),.pv (aU b)] [] [] (.pv (B (oH a b))):=K3 a.1 a.2 b.1 b.2
def mI(xs:List (Int×Int)):List Int:=if bi vI xs then xs.map ic else[]
def jz(xs:List (Int×Int))(ys:List Int):Bool:=decide (xs.length=ys.length)&&fp mH xs ys
def fV(x y:Int×Int):Bool:=aC x.1 x.2&&aC y.1 y.2&&decide (max x.1 y.1<=min x.2 y.2)
def eo(xs ys:List (Int×Int)):Bool:=decide (xs.length=ys.length)&&fp fV xs ys
theorem Cn(xs:List (Int×Int))(ys:List Int)(hl:xs.length<=9223372036854775807):aa Tryz.prog 47 [.pv (iv xs),.pv (zs ys)] [] [] (.pv (B (jz xs ys))):=by
 refine Dp Tryz.func47 ?_;intro C hP hN;simp only[Tryz.f47]at hN|-
 with_reducible repeat' (first|refine Sp.h ?_|((first|refine Ss.h ?_|refine Sc.h (Ld _ mH _ _ hl Lf) ?_|(refine Sb.h ?_ ?_ ?_<;>(try intro hgd)<;>try exact Xy))<;>simp -implicitDefEqProofs (maxSteps:=2000000) [hP,hN])|refine X2 ?_ ?_|(refine Xd ?_ ?_<;>intro hcd<;>try exact Xx))
 all_goals (first|(simp_all[jz];done)|((try simp_all[jz])<;>(try omega)<;>grind))
theorem Lg(x y:Int×Int):aa Tryz.prog 166 [.pv (aU x),.pv (aU y)] [] [] (.pv (B (fV x y))):=by
 refine Dp Tryz.func166 ?_;intro C hP hN;simp only[Tryz.f166]at hN|-
 cases h:fV x y with
 |true=>
  have h':(aC x.1 x.2&&aC y.1 y.2&&decide (max x.1 y.1<=min x.2 y.2))=true:=h;have q1:=@Ip;exact GS h'
 |false=>
  have h':(aC x.1 x.2&&aC y.1 y.2&&decide (max x.1 y.1<=min x.2 y.2))=false:=h;have q1:=@Ip;exact GS h'
theorem Lh(xs ys:List (Int×Int))(hl:xs.length<=9223372036854775807):aa Tryz.prog 130 [.pv (iv xs),.pv (iv ys)] [] [] (.pv (B (eo xs ys))):=by
 refine Dp Tryz.func130 ?_;intro C hP hN;simp only[Tryz.f130]at hN|-
 with_reducible repeat' (first|refine Sp.h ?_|((first|refine Ss.h ?_|refine Sc.h (Le _ fV _ _ hl Lg) ?_|(refine Sb.h ?_ ?_ ?_<;>(try intro hgd)<;>try exact Xy))<;>simp -implicitDefEqProofs (maxSteps:=2000000) [hP,hN])|refine X2 ?_ ?_|(refine Xd ?_ ?_<;>intro hcd<;>try exact Xx))
 all_goals (first|(simp_all[eo];done)|((try simp_all[eo])<;>(try omega)<;>grind))
end Go.Ab
