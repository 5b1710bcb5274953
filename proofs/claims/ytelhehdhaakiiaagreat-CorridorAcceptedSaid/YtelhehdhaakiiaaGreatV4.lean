/- The contracts and facts that the laws of this seat need, in one text (Ty, CfA). -/
import Derived.Test.YtelhehdhaakiiaaGreatV3
import Derived.Test.YtelhehdhaakiiaaGreatProg
set_option linter.all false
set_option maxHeartbeats 16000000
namespace Go.Ab
open Go.Proofs
@[simp] theorem MF : aj Tryz.prog 2=some ⟨1,(some (.int .i64 0)),.one⟩:=by kernel_rfl
@[simp] theorem MG : cO Tryz.prog 2=some .i64:=by kernel_rfl
@[simp] theorem MH : aj Tryz.prog 3=some ⟨1,(some (.int .i64 0)),.one⟩:=by kernel_rfl
@[simp] theorem MI : cO Tryz.prog 3=some .i64:=by kernel_rfl
@[simp] theorem MJ : aj Tryz.prog 4=some ⟨1,(some (.bool false)),.one⟩:=by kernel_rfl
@[simp] theorem MK : aj Tryz.prog 5=some ⟨1,(some (.int .u8 0)),.one⟩:=by kernel_rfl
@[simp] theorem ML : cO Tryz.prog 5=some .u8:=by kernel_rfl
@[simp] theorem MM : aj Tryz.prog 6=some ⟨1,(some (.int .u8 0)),.one⟩:=by kernel_rfl
@[simp] theorem MN : cO Tryz.prog 6=some .u8:=by kernel_rfl
@[simp] theorem MO : aj Tryz.prog 7=some ⟨4,(some (.agg #[.int .i64 0,.int .i64 0,.bool false,.int .u8 0])),.struct [(0,1),(1,1),(2,1),(3,1)]⟩:=by kernel_rfl
@[simp] theorem MP : aj Tryz.prog 8=some ⟨4,(some (.agg #[.int .i64 0,.int .i64 0,.bool false,.int .u8 0])),.struct [(0,1),(1,1),(2,1),(3,1)]⟩:=by kernel_rfl
@[simp] theorem MQ : aj Tryz.prog 9=some ⟨1,(some (.string ByteArray.empty)),.one⟩:=by kernel_rfl
@[simp] theorem MR : eG Tryz.prog 9=some none:=by kernel_rfl
@[simp] theorem LH : aj Tryz.prog 10=some ⟨1,(some (.string ByteArray.empty)),.one⟩:=by kernel_rfl
@[simp] theorem LI : eG Tryz.prog 10=some none:=by kernel_rfl
@[simp] theorem LJ : aj Tryz.prog 11=some ⟨1,(some (.string ByteArray.empty)),.one⟩:=by kernel_rfl
@[simp] theorem LK : eG Tryz.prog 11=some none:=by kernel_rfl
@[simp] theorem LN : aj Tryz.prog 12=some ⟨1,(some (.int .u64 0)),.one⟩:=by kernel_rfl
@[simp] theorem LO : cO Tryz.prog 12=some .u64:=by kernel_rfl
@[simp] theorem LP : aj Tryz.prog 13=some ⟨2,(some (.agg #[.string ByteArray.empty,.int .u64 0])),.struct [(0,1),(1,1)]⟩:=by kernel_rfl
@[simp] theorem LQ : aj Tryz.prog 14=some ⟨2,(some (.agg #[.string ByteArray.empty,.int .u64 0])),.struct [(0,1),(1,1)]⟩:=by kernel_rfl
@[simp] theorem LR : aj Tryz.prog 15=some ⟨1,(some (.pointer none)),.one⟩:=by kernel_rfl
@[simp] theorem LS : aj Tryz.prog 16=some ⟨1,(some (.pointer none)),.one⟩:=by kernel_rfl
@[simp] theorem LT : aj Tryz.prog 17=some ⟨1,(some (.pointer none)),.one⟩:=by kernel_rfl
@[simp] theorem LU : aj Tryz.prog 18=some ⟨1,(some (.agg #[.pointer none])),.struct [(0,1)]⟩:=by kernel_rfl
@[simp] theorem LV : aj Tryz.prog 19=some ⟨1,(some (.agg #[.pointer none])),.struct [(0,1)]⟩:=by kernel_rfl
@[simp] theorem LW : aj Tryz.prog 21=some ⟨1,(some (.int .i32 0)),.one⟩:=by kernel_rfl
@[simp] theorem LX : cO Tryz.prog 21=some .i32:=by kernel_rfl
@[simp] theorem LY : aj Tryz.prog 22=some ⟨1,(some (.slice none 0 0)),.slice 81 12 104 (some (.agg #[.string ByteArray.empty,.int .i64 0,.int .i64 0,.int .i64 0,.int .i64 0,.int .i64 0,.int .i64 0,.int .i64 0,.int .i64 0,.int .i64 0,.int .i64 0,.int .i64 0]))⟩:=by kernel_rfl
@[simp] theorem LZ : aj Tryz.prog 23=some ⟨1,(some (.slice none 0 0)),.slice 146 5 40 (some (.agg #[.int .i64 0,.int .i64 0,.int .i64 0,.int .i64 0,.int .i64 0]))⟩:=by kernel_rfl
@[simp] theorem L0 : aj Tryz.prog 24=some ⟨2,(some (.agg #[.slice none 0 0,.slice none 0 0])),.struct [(0,1),(1,1)]⟩:=by kernel_rfl
@[simp] theorem L2 : aj Tryz.prog 25=some ⟨2,(some (.agg #[.slice none 0 0,.slice none 0 0])),.struct [(0,1),(1,1)]⟩:=by kernel_rfl
@[simp] theorem L3 : aj Tryz.prog 26=some ⟨1,(some (.slice none 0 0)),.slice 79 3 40 (some (.agg #[.int .i64 0,.int .i64 0,.slice none 0 0]))⟩:=by kernel_rfl
@[simp] theorem L5 : aj Tryz.prog 27=some ⟨1,(some (.slice none 0 0)),.slice 102 2 16 (some (.agg #[.int .i64 0,.int .i64 0]))⟩:=by kernel_rfl
@[simp] theorem L6 : aj Tryz.prog 28=some ⟨4,(some (.agg #[.slice none 0 0,.slice none 0 0,.slice none 0 0,.slice none 0 0])),.struct [(0,2),(2,1),(3,1)]⟩:=by kernel_rfl
@[simp] theorem L7 : aj Tryz.prog 29=some ⟨4,(some (.agg #[.slice none 0 0,.slice none 0 0,.slice none 0 0,.slice none 0 0])),.struct [(0,2),(2,1),(3,1)]⟩:=by kernel_rfl
@[simp] theorem L8 : aj Tryz.prog 30=some ⟨1,(some (.slice none 0 0)),.slice 66 2 16 (some (.agg #[.int .i64 0,.int .i64 0]))⟩:=by kernel_rfl
@[simp] theorem Ma : aj Tryz.prog 31=some ⟨1,(some (.slice none 0 0)),.slice 108 8 112 (some (.agg #[.int .i64 0,.int .i64 0,.int .i64 0,.int .i64 0,.slice none 0 0,.int .i64 0,.slice none 0 0,.slice none 0 0]))⟩:=by kernel_rfl
@[simp] theorem Mb : aj Tryz.prog 32=some ⟨2,(some (.agg #[.slice none 0 0,.slice none 0 0])),.struct [(0,1),(1,1)]⟩:=by kernel_rfl
@[simp] theorem Mc : aj Tryz.prog 33=some ⟨2,(some (.agg #[.slice none 0 0,.slice none 0 0])),.struct [(0,1),(1,1)]⟩:=by kernel_rfl
@[simp] theorem Md : aj Tryz.prog 34=some ⟨1,(some (.slice none 0 0)),.slice 3 1 8 (some (.int .i64 0))⟩:=by kernel_rfl
@[simp] theorem Me : aj Tryz.prog 35=some ⟨1,(some (.slice none 0 0)),.slice 2 1 8 (some (.int .i64 0))⟩:=by kernel_rfl
@[simp] theorem Mf : aj Tryz.prog 48=some ⟨1,(some (.slice none 0 0)),.slice 35 1 24 (some (.slice none 0 0))⟩:=by kernel_rfl
@[simp] theorem Mg : aj Tryz.prog 49=some ⟨1,(some (.slice none 0 0)),.slice 60 2 48 (some (.agg #[.slice none 0 0,.slice none 0 0]))⟩:=by kernel_rfl
@[simp] theorem Mh : aj Tryz.prog 50=some ⟨2,(some (.agg #[.slice none 0 0,.slice none 0 0])),.struct [(0,1),(1,1)]⟩:=by kernel_rfl
@[simp] theorem Mi : aj Tryz.prog 51=some ⟨2,(some (.agg #[.slice none 0 0,.slice none 0 0])),.struct [(0,1),(1,1)]⟩:=by kernel_rfl
@[simp] theorem Mj : aj Tryz.prog 54=some ⟨1,(some (.int .i64 0)),.one⟩:=by kernel_rfl
@[simp] theorem Mk : cO Tryz.prog 54=some .i64:=by kernel_rfl
@[simp] theorem Ml : aj Tryz.prog 57=some ⟨1,(some (.slice none 0 0)),.slice 77 3 24 (some (.agg #[.int .i64 0,.int .i64 0,.int .i64 0]))⟩:=by kernel_rfl
@[simp] theorem Mm : aj Tryz.prog 58=some ⟨1,(some (.slice none 0 0)),.slice 151 3 40 (some (.agg #[.int .i64 0,.int .i64 0,.slice none 0 0]))⟩:=by kernel_rfl
@[simp] theorem Mn : aj Tryz.prog 59=some ⟨2,(some (.agg #[.slice none 0 0,.slice none 0 0])),.struct [(0,1),(1,1)]⟩:=by kernel_rfl
@[simp] theorem Mo : aj Tryz.prog 60=some ⟨2,(some (.agg #[.slice none 0 0,.slice none 0 0])),.struct [(0,1),(1,1)]⟩:=by kernel_rfl
@[simp] theorem Mp : aj Tryz.prog 65=some ⟨2,(some (.agg #[.int .i64 0,.int .i64 0])),.struct [(0,1),(1,1)]⟩:=by kernel_rfl
@[simp] theorem Mq : aj Tryz.prog 66=some ⟨2,(some (.agg #[.int .i64 0,.int .i64 0])),.struct [(0,1),(1,1)]⟩:=by kernel_rfl
@[simp] theorem Mr : aj Tryz.prog 72=some ⟨1,(some (.pointer none)),.one⟩:=by kernel_rfl
@[simp] theorem Mt : aj Tryz.prog 76=some ⟨3,(some (.agg #[.int .i64 0,.int .i64 0,.int .i64 0])),.array 3 1⟩:=by kernel_rfl
@[simp] theorem Mu : eG Tryz.prog 76=some (some 3):=by kernel_rfl
@[simp] theorem Mv : aj Tryz.prog 77=some ⟨3,(some (.agg #[.int .i64 0,.int .i64 0,.int .i64 0])),.array 3 1⟩:=by kernel_rfl
@[simp] theorem Mw : eG Tryz.prog 77=some (some 3):=by kernel_rfl
@[simp] theorem Mx : aj Tryz.prog 78=some ⟨3,(some (.agg #[.int .i64 0,.int .i64 0,.slice none 0 0])),.struct [(0,1),(1,1),(2,1)]⟩:=by kernel_rfl
@[simp] theorem My : aj Tryz.prog 79=some ⟨3,(some (.agg #[.int .i64 0,.int .i64 0,.slice none 0 0])),.struct [(0,1),(1,1),(2,1)]⟩:=by kernel_rfl
@[simp] theorem Mz : aj Tryz.prog 80=some ⟨12,(some (.agg #[.string ByteArray.empty,.int .i64 0,.int .i64 0,.int .i64 0,.int .i64 0,.int .i64 0,.int .i64 0,.int .i64 0,.int .i64 0,.int .i64 0,.int .i64 0,.int .i64 0])),.struct [(0,1),(1,1),(2,1),(3,3),(6,1),(7,1),(8,1),(9,1),(10,1),(11,1)]⟩:=by kernel_rfl
@[simp] theorem MA : aj Tryz.prog 81=some ⟨12,(some (.agg #[.string ByteArray.empty,.int .i64 0,.int .i64 0,.int .i64 0,.int .i64 0,.int .i64 0,.int .i64 0,.int .i64 0,.int .i64 0,.int .i64 0,.int .i64 0,.int .i64 0])),.struct [(0,1),(1,1),(2,1),(3,3),(6,1),(7,1),(8,1),(9,1),(10,1),(11,1)]⟩:=by kernel_rfl
@[simp] theorem MB : aj Tryz.prog 89=some ⟨1,(some (.slice none 0 0)),.slice 30 1 24 (some (.slice none 0 0))⟩:=by kernel_rfl
@[simp] theorem MC : aj Tryz.prog 90=some ⟨1,(some (.slice none 0 0)),.slice 4 1 1 (some (.bool false))⟩:=by kernel_rfl
@[simp] theorem MD : aj Tryz.prog 91=some ⟨3,(some (.agg #[.slice none 0 0,.slice none 0 0,.slice none 0 0])),.struct [(0,1),(1,1),(2,1)]⟩:=by kernel_rfl
@[simp] theorem ME : aj Tryz.prog 92=some ⟨3,(some (.agg #[.slice none 0 0,.slice none 0 0,.slice none 0 0])),.struct [(0,1),(1,1),(2,1)]⟩:=by kernel_rfl
@[simp] theorem Ku : aj Tryz.prog 101=some ⟨2,(some (.agg #[.int .i64 0,.int .i64 0])),.struct [(0,1),(1,1)]⟩:=by kernel_rfl
@[simp] theorem Kv : aj Tryz.prog 102=some ⟨2,(some (.agg #[.int .i64 0,.int .i64 0])),.struct [(0,1),(1,1)]⟩:=by kernel_rfl
@[simp] theorem Kw : aj Tryz.prog 103=some ⟨3,(some (.agg #[.int .i64 0,.slice none 0 0,.slice none 0 0])),.struct [(0,1),(1,1),(2,1)]⟩:=by kernel_rfl
@[simp] theorem Kx : aj Tryz.prog 104=some ⟨3,(some (.agg #[.int .i64 0,.slice none 0 0,.slice none 0 0])),.struct [(0,1),(1,1),(2,1)]⟩:=by kernel_rfl
@[simp] theorem Ky : aj Tryz.prog 105=some ⟨5,(some (.agg #[.int .i64 0,.slice none 0 0,.int .i64 0,.slice none 0 0,.slice none 0 0])),.struct [(0,1),(1,1),(2,3)]⟩:=by kernel_rfl
@[simp] theorem Kz : aj Tryz.prog 106=some ⟨5,(some (.agg #[.int .i64 0,.slice none 0 0,.int .i64 0,.slice none 0 0,.slice none 0 0])),.struct [(0,1),(1,1),(2,3)]⟩:=by kernel_rfl
@[simp] theorem KA : aj Tryz.prog 107=some ⟨8,(some (.agg #[.int .i64 0,.int .i64 0,.int .i64 0,.int .i64 0,.slice none 0 0,.int .i64 0,.slice none 0 0,.slice none 0 0])),.struct [(0,1),(1,1),(2,1),(3,5)]⟩:=by kernel_rfl
@[simp] theorem KB : aj Tryz.prog 108=some ⟨8,(some (.agg #[.int .i64 0,.int .i64 0,.int .i64 0,.int .i64 0,.slice none 0 0,.int .i64 0,.slice none 0 0,.slice none 0 0])),.struct [(0,1),(1,1),(2,1),(3,5)]⟩:=by kernel_rfl
@[simp] theorem KD : aj Tryz.prog 110=some ⟨3,(some (.agg #[.int .i64 0,.int .i64 0,.slice none 0 0])),.struct [(0,1),(1,1),(2,1)]⟩:=by kernel_rfl
@[simp] theorem KE : aj Tryz.prog 111=some ⟨3,(some (.agg #[.int .i64 0,.int .i64 0,.slice none 0 0])),.struct [(0,1),(1,1),(2,1)]⟩:=by kernel_rfl
@[simp] theorem KF : aj Tryz.prog 112=some ⟨1,(some (.slice none 0 0)),.slice 111 3 40 (some (.agg #[.int .i64 0,.int .i64 0,.slice none 0 0]))⟩:=by kernel_rfl
@[simp] theorem KG : aj Tryz.prog 126=some ⟨2,(some (.agg #[.slice none 0 0,.int .i64 0])),.struct [(0,1),(1,1)]⟩:=by kernel_rfl
@[simp] theorem KH : aj Tryz.prog 127=some ⟨2,(some (.agg #[.slice none 0 0,.int .i64 0])),.struct [(0,1),(1,1)]⟩:=by kernel_rfl
@[simp] theorem KI : aj Tryz.prog 145=some ⟨5,(some (.agg #[.int .i64 0,.int .i64 0,.int .i64 0,.int .i64 0,.int .i64 0])),.struct [(0,1),(1,1),(2,3)]⟩:=by kernel_rfl
@[simp] theorem KJ : aj Tryz.prog 146=some ⟨5,(some (.agg #[.int .i64 0,.int .i64 0,.int .i64 0,.int .i64 0,.int .i64 0])),.struct [(0,1),(1,1),(2,3)]⟩:=by kernel_rfl
@[simp] theorem KK : aj Tryz.prog 149=some ⟨1,(some (.map none)),.one⟩:=by kernel_rfl
@[simp] theorem KL : tC Tryz.prog 149=some (.i64,3,3):=by kernel_rfl
@[simp] theorem KM : zf Tryz.prog 3=some (.int .i64 0):=by kernel_rfl
@[simp] theorem KN : aj Tryz.prog 150=some ⟨3,(some (.agg #[.int .i64 0,.int .i64 0,.slice none 0 0])),.struct [(0,1),(1,1),(2,1)]⟩:=by kernel_rfl
@[simp] theorem KO : aj Tryz.prog 151=some ⟨3,(some (.agg #[.int .i64 0,.int .i64 0,.slice none 0 0])),.struct [(0,1),(1,1),(2,1)]⟩:=by kernel_rfl
@[simp] theorem KP : aj Tryz.prog 165=some ⟨1,(some (.slice none 0 0)),.slice 172 2 32 (some (.agg #[.slice none 0 0,.int .i64 0]))⟩:=by kernel_rfl
@[simp] theorem KQ : aj Tryz.prog 170=some ⟨1,(some (.slice none 0 0)),.slice 218 6 48 (some (.agg #[.int .i64 0,.int .i64 0,.int .i64 0,.int .i64 0,.int .i64 0,.int .i64 0]))⟩:=by kernel_rfl
@[simp] theorem KR : aj Tryz.prog 171=some ⟨2,(some (.agg #[.slice none 0 0,.int .i64 0])),.struct [(0,1),(1,1)]⟩:=by kernel_rfl
@[simp] theorem KS : aj Tryz.prog 172=some ⟨2,(some (.agg #[.slice none 0 0,.int .i64 0])),.struct [(0,1),(1,1)]⟩:=by kernel_rfl
@[simp] theorem KT : aj Tryz.prog 173=some ⟨7,(some (.agg #[.int .i64 0,.int .i64 0,.int .i64 0,.int .i64 0,.slice none 0 0,.slice none 0 0,.int .i64 0])),.struct [(0,1),(1,3),(4,1),(5,1),(6,1)]⟩:=by kernel_rfl
@[simp] theorem KU : aj Tryz.prog 174=some ⟨7,(some (.agg #[.int .i64 0,.int .i64 0,.int .i64 0,.int .i64 0,.slice none 0 0,.slice none 0 0,.int .i64 0])),.struct [(0,1),(1,3),(4,1),(5,1),(6,1)]⟩:=by kernel_rfl
@[simp] theorem KV : aj Tryz.prog 183=some ⟨8,(some (.agg #[.int .i64 0,.int .i64 0,.int .i64 0,.int .i64 0,.int .i64 0,.int .i64 0,.int .i64 0,.int .i64 0])),.array 8 1⟩:=by kernel_rfl
@[simp] theorem KW : eG Tryz.prog 183=some (some 8):=by kernel_rfl
@[simp] theorem PB : aj Tryz.prog 191=some ⟨1,(some (.int .u64 0)),.one⟩:=by kernel_rfl
@[simp] theorem PC : cO Tryz.prog 191=some .u64:=by kernel_rfl
@[simp] theorem KX : aj Tryz.prog 201=some ⟨1,(some (.slice none 0 0)),.slice 170 1 24 (some (.slice none 0 0))⟩:=by kernel_rfl
@[simp] theorem KY : aj Tryz.prog 203=some ⟨1,(some (.slice none 0 0)),.slice 205 2 16 (some (.agg #[.int .i64 0,.int .i64 0]))⟩:=by kernel_rfl
@[simp] theorem KZ : aj Tryz.prog 205=some ⟨2,(some (.agg #[.int .i64 0,.int .i64 0])),.struct [(0,1),(1,1)]⟩:=by kernel_rfl
@[simp] theorem K0 : aj Tryz.prog 217=some ⟨6,(some (.agg #[.int .i64 0,.int .i64 0,.int .i64 0,.int .i64 0,.int .i64 0,.int .i64 0])),.array 3 2⟩:=by kernel_rfl
@[simp] theorem K1 : eG Tryz.prog 217=none:=by kernel_rfl
@[simp] theorem K2 : nW Tryz.prog 217=some (3,2):=by kernel_rfl
@[simp] theorem K3 : aj Tryz.prog 218=some ⟨6,(some (.agg #[.int .i64 0,.int .i64 0,.int .i64 0,.int .i64 0,.int .i64 0,.int .i64 0])),.array 3 2⟩:=by kernel_rfl
@[simp] theorem K4 : eG Tryz.prog 218=none:=by kernel_rfl
@[simp] theorem K5 : nW Tryz.prog 218=some (3,2):=by kernel_rfl
@[simp] theorem K6 : aj Tryz.prog 227=some ⟨1,(some (.slice none 0 0)),.slice 232 24 192 (some (.agg #[.int .i64 0,.int .i64 0,.int .i64 0,.int .i64 0,.int .i64 0,.int .i64 0,.int .i64 0,.int .i64 0,.int .i64 0,.int .i64 0,.int .i64 0,.int .i64 0,.int .i64 0,.int .i64 0,.int .i64 0,.int .i64 0,.int .i64 0,.int .i64 0,.int .i64 0,.int .i64 0,.int .i64 0,.int .i64 0,.int .i64 0,.int .i64 0]))⟩:=by kernel_rfl
@[simp] theorem K7 : aj Tryz.prog 229=some ⟨18,(some (.agg #[.int .i64 0,.int .i64 0,.int .i64 0,.int .i64 0,.int .i64 0,.int .i64 0,.int .i64 0,.int .i64 0,.int .i64 0,.int .i64 0,.int .i64 0,.int .i64 0,.int .i64 0,.int .i64 0,.int .i64 0,.int .i64 0,.int .i64 0,.int .i64 0])),.array 3 6⟩:=by kernel_rfl
@[simp] theorem K8 : eG Tryz.prog 229=none:=by kernel_rfl
@[simp] theorem K9 : nW Tryz.prog 229=some (3,6):=by kernel_rfl
@[simp] theorem La : aj Tryz.prog 230=some ⟨18,(some (.agg #[.int .i64 0,.int .i64 0,.int .i64 0,.int .i64 0,.int .i64 0,.int .i64 0,.int .i64 0,.int .i64 0,.int .i64 0,.int .i64 0,.int .i64 0,.int .i64 0,.int .i64 0,.int .i64 0,.int .i64 0,.int .i64 0,.int .i64 0,.int .i64 0])),.array 3 6⟩:=by kernel_rfl
@[simp] theorem Lb : eG Tryz.prog 230=none:=by kernel_rfl
@[simp] theorem Lc : nW Tryz.prog 230=some (3,6):=by kernel_rfl
@[simp] theorem Ld : aj Tryz.prog 231=some ⟨24,(some (.agg #[.int .i64 0,.int .i64 0,.int .i64 0,.int .i64 0,.int .i64 0,.int .i64 0,.int .i64 0,.int .i64 0,.int .i64 0,.int .i64 0,.int .i64 0,.int .i64 0,.int .i64 0,.int .i64 0,.int .i64 0,.int .i64 0,.int .i64 0,.int .i64 0,.int .i64 0,.int .i64 0,.int .i64 0,.int .i64 0,.int .i64 0,.int .i64 0])),.struct [(0,18),(18,6)]⟩:=by kernel_rfl
@[simp] theorem Le : aj Tryz.prog 232=some ⟨24,(some (.agg #[.int .i64 0,.int .i64 0,.int .i64 0,.int .i64 0,.int .i64 0,.int .i64 0,.int .i64 0,.int .i64 0,.int .i64 0,.int .i64 0,.int .i64 0,.int .i64 0,.int .i64 0,.int .i64 0,.int .i64 0,.int .i64 0,.int .i64 0,.int .i64 0,.int .i64 0,.int .i64 0,.int .i64 0,.int .i64 0,.int .i64 0,.int .i64 0])),.struct [(0,18),(18,6)]⟩:=by kernel_rfl
@[simp] theorem Lf : aj Tryz.prog 271=some ⟨11,(some (.agg #[.int .i64 0,.int .i64 0,.int .i64 0,.int .i64 0,.int .i64 0,.int .i64 0,.int .i64 0,.int .i64 0,.int .i64 0,.int .i64 0,.int .i64 0])),.array 11 1⟩:=by kernel_rfl
@[simp] theorem Lg : eG Tryz.prog 271=some (some 11):=by kernel_rfl
@[simp] theorem Lh : aj Tryz.prog 275=some ⟨4,(some (.agg #[.pointer none,.pointer none,.pointer none,.string ByteArray.empty])),.struct [(0,1),(1,1),(2,1),(3,1)]⟩:=by kernel_rfl
@[simp] theorem Li : aj Tryz.prog 276=some ⟨4,(some (.agg #[.pointer none,.pointer none,.pointer none,.string ByteArray.empty])),.struct [(0,1),(1,1),(2,1),(3,1)]⟩:=by kernel_rfl
@[simp] theorem Lj : aj Tryz.prog 277=some ⟨0,(some (.agg #[])),.array 0 1⟩:=by kernel_rfl
@[simp] theorem Lk : eG Tryz.prog 277=some (some 0):=by kernel_rfl
@[simp] theorem Ll : aj Tryz.prog 278=some ⟨0,(some (.agg #[])),.struct [(0,0)]⟩:=by kernel_rfl
@[simp] theorem Lm : aj Tryz.prog 279=some ⟨0,(some (.agg #[])),.struct [(0,0)]⟩:=by kernel_rfl
@[simp] theorem Ln : aj Tryz.prog 281=some ⟨1,(some (.int .u32 0)),.one⟩:=by kernel_rfl
@[simp] theorem Lo : cO Tryz.prog 281=some .u32:=by kernel_rfl
@[simp] theorem Lp : aj Tryz.prog 282=some ⟨1,(some (.int .u8 0)),.one⟩:=by kernel_rfl
@[simp] theorem Lq : cO Tryz.prog 282=some .u8:=by kernel_rfl
@[simp] theorem Lr : aj Tryz.prog 283=some ⟨1,(some (.int .u8 0)),.one⟩:=by kernel_rfl
@[simp] theorem Ls : cO Tryz.prog 283=some .u8:=by kernel_rfl
@[simp] theorem Lt : aj Tryz.prog 284=some ⟨1,(some (.nilFunc)),.one⟩:=by kernel_rfl
@[simp] theorem Lu : aj Tryz.prog 285=some ⟨1,(some (.pointer none)),.one⟩:=by kernel_rfl
@[simp] theorem Lv : aj Tryz.prog 286=some ⟨1,(some (.int .i32 0)),.one⟩:=by kernel_rfl
@[simp] theorem Lw : cO Tryz.prog 286=some .i32:=by kernel_rfl
@[simp] theorem Lx : aj Tryz.prog 287=some ⟨1,(some (.int .i32 0)),.one⟩:=by kernel_rfl
@[simp] theorem Ly : cO Tryz.prog 287=some .i32:=by kernel_rfl
@[simp] theorem Lz : aj Tryz.prog 288=some ⟨11,(some (.agg #[.int .u64 0,.int .u64 0,.int .u32 0,.int .u8 0,.int .u8 0,.int .u8 0,.int .u8 0,.nilFunc,.pointer none,.int .i32 0,.int .i32 0])),.struct [(0,1),(1,1),(2,1),(3,1),(4,1),(5,1),(6,1),(7,1),(8,1),(9,1),(10,1)]⟩:=by kernel_rfl
@[simp] theorem LC : aj Tryz.prog 289=some ⟨11,(some (.agg #[.int .u64 0,.int .u64 0,.int .u32 0,.int .u8 0,.int .u8 0,.int .u8 0,.int .u8 0,.nilFunc,.pointer none,.int .i32 0,.int .i32 0])),.struct [(0,1),(1,1),(2,1),(3,1),(4,1),(5,1),(6,1),(7,1),(8,1),(9,1),(10,1)]⟩:=by kernel_rfl
end Go.Ab
namespace Go.Ab
open Go.Proofs
abbrev I (lo hi : Int) : PV:=.val (.agg #[.int .i64 lo,.int .i64 hi])
abbrev aJ (x : Int × Int) : PV:=I x.1 x.2
abbrev B (b : Bool) : PV:=.val (.bool b)
abbrev Z (n : Int) : PV:=.val (.int .i64 n)
abbrev wr (n : Int) : Int:=IntKind.i64.wrap n
def am (lo hi : Int) : Bool:=decide (-2147483648≤lo) && decide (lo≤hi) && decide (hi≤2147483648)
theorem Je (a b c d : Int) : ag Tryz.prog (Op.equal 66 (.agg #[.int .i64 a,.int .i64 b]) (.agg #[.int .i64 c,.int .i64 d]))=some (a==c && b==d):=by
 have hf : (Tryz.prog.fieldsOf 66).toList=[(Tryz.prog.fieldsOf 66)[0]!,(Tryz.prog.fieldsOf 66)[1]!]:=by kernel_rfl
 show ag Tryz.prog (Op.equalIn (9999+1) 66 _ _)=_
 rw [uO 9999 66 _ _ (by kernel_rfl) (by kernel_rfl),hf]
 have h:=qN (P:=Tryz.prog) (d:=9999) (xs:=#[.int .i64 a,.int .i64 b]) (ys:=#[.int .i64 c,.int .i64 d]) (f:=(Tryz.prog.fieldsOf 66)[0]!) (fs:=[(Tryz.prog.fieldsOf 66)[1]!]) (a:=.int .i64 a) (b:=.int .i64 c) (by decide +kernel) (by kernel_rfl) (by kernel_rfl) (pI 9998 _ .i64 .i64 a c (by kernel_rfl))
  (qN (by decide +kernel) (a:=.int .i64 b) (b:=.int .i64 d) (by kernel_rfl) (by kernel_rfl) (pI 9998 _ .i64 .i64 b d (by kernel_rfl)) AR)
 rw [h];simp
def dU (P : Program) (o : Oper) (ρ : Operand→AV) : Option aT:=aG P o ρ
def qO (x : AV) : Option (Int × Int):=match x with
 |.pv (.val (.agg vs))=>match vs.toList with
  |[.int .i64 a,.int .i64 b]=>some (a,b)
  |_=>none
 |_=>none
theorem lm {x : AV} {a b : Int} (h : qO x=some (a,b)) : x=.pv (I a b):=by
 unfold qO at h
 split at h
 ·split at h
  ·rename_i vs _ a' b' hv
   injection h with h;injection h with h1 h2;subst h1;subst h2
   rw [← Array.toArray_toList (xs:=vs),hv]
  ·cases h
 ·cases h
def B8 (x y : AV) (fb : Option aT) : Option aT:=match qO x,qO y with
 |some (a,b),some (c,d)=>some (.pv (.val (.bool !(a==c && b==d))),[])
 |_,_=>fb
@[simp] theorem GT (a b c d : Int) (fb : Option aT) : B8 (.pv (.val (.agg #[.int .i64 a,.int .i64 b]))) (.pv (.val (.agg #[.int .i64 c,.int .i64 d]))) fb=some (.pv (.val (.bool !(a==c && b==d))),[]):=rfl
@[simp] theorem LD {dst : Option Nat} {ty : TypeId} {pos : String} {aft : Array Edge} {g : Option (Nat × Bool)} {ρ : Operand→AV} (x y : Operand) :
 aG Tryz.prog ⟨dst,.binOp .neq 66 x y 66,ty,pos,aft,g⟩ ρ=B8 (ρ x) (ρ y) (dU Tryz.prog ⟨dst,.binOp .neq 66 x y 66,ty,pos,aft,g⟩ ρ):=by
 unfold B8
 split
 ·rename_i a b c d hx hy
  exact sW rfl (lm hx) (lm hy) (by kernel_rfl) (Je a b c d)
 ·rfl
theorem tW (lo hi : Int) : ab Tryz.prog 160 [.pv (I lo hi)] [] [] (.pv (B (am lo hi))):=by
 refine Dp Tryz.func160 ?_
 intro C hP hN
 simp only [Tryz.f160] at hN ⊢
 with_reducible repeat' (first|refine Sp.h ?_|((first|refine Ss.h ?_|(refine Sb.h ?_ ?_ ?_<;>(try intro hgd)<;>try exact Xy))<;>simp -implicitDefEqProofs (maxSteps:=2000000) [hP,hN])|refine X2 ?_ ?_|(refine Xd ?_ ?_<;>intro hcd<;>try exact Xx))
 all_goals (first|(simp_all [am];done)|((try simp_all [am])<;>(try omega)<;>grind))
theorem jX (lo hi : Int) : ab Tryz.prog 81 [.pv (I lo hi)] [] [] (.pv (B (am lo hi))):=by
 refine Dp Tryz.func81 ?_
 intro C hP hN
 simp only [Tryz.f81] at hN ⊢
 with_reducible repeat' (first|refine Sp.h ?_|((first|refine Ss.h ?_|(refine Sb.h ?_ ?_ ?_<;>(try intro hgd)<;>try exact Xy))<;>simp -implicitDefEqProofs (maxSteps:=2000000) [hP,hN])|refine X2 ?_ ?_|(refine Xd ?_ ?_<;>intro hcd<;>try exact Xx))
 all_goals (first|(simp_all [am];done)|((try simp_all [am])<;>(try omega)<;>grind))
theorem Hx (a b c d : Int) : ab Tryz.prog 163 [.pv (I a b),.pv (I c d)] [] [] (.pv (B (am a b && am c d))):=by
 refine Dp Tryz.func163 ?_
 intro C hP hN
 simp only [Tryz.f163] at hN ⊢
 with_reducible repeat' (first|refine Sp.h ?_|((first|refine Ss.h ?_|refine Sc.h (tW _ _) ?_|(refine Sb.h ?_ ?_ ?_<;>(try intro hgd)<;>try exact Xy))<;>simp -implicitDefEqProofs (maxSteps:=2000000) [hP,hN])|refine X2 ?_ ?_|(refine Xd ?_ ?_<;>intro hcd<;>try exact Xx))
 all_goals (first|(simp_all;done)|((try simp_all)<;>(try omega)<;>grind))
theorem Hy (a b c d : Int) : ab Tryz.prog 131 [.pv (I a b),.pv (I c d)] [] [] (.pv (B (am a b && am c d && decide (c≤a) && decide (b≤d)))):=by
 refine Dp Tryz.func131 ?_
 intro C hP hN
 simp only [Tryz.f131] at hN ⊢
 with_reducible repeat' (first|refine Sp.h ?_|((first|refine Ss.h ?_|refine Sc.h (jX _ _) ?_|(refine Sb.h ?_ ?_ ?_<;>(try intro hgd)<;>try exact Xy))<;>simp -implicitDefEqProofs (maxSteps:=2000000) [hP,hN])|refine X2 ?_ ?_|(refine Xd ?_ ?_<;>intro hcd<;>try exact Xx))
 all_goals (first|(simp_all;done)|((try simp_all)<;>(try omega)<;>grind))
def pJ (n k : Int) : Int:=if n.tmod k < 0 then wr (n.tmod k+k) else n.tmod k
theorem Jf (n k : Int) (hk : k≠0) : ab Tryz.prog 14 [.pv (Z n),.pv (Z k)] [] [] (.pv (Z (pJ n k))):=by
 refine Dp Tryz.func14 ?_
 intro C hP hN
 simp only [Tryz.f14] at hN ⊢
 with_reducible repeat' (first|refine Sp.h ?_|((first|refine Ss.h ?_|(refine Sb.h ?_ ?_ ?_<;>(try intro hgd)<;>try exact Xy))<;>simp -implicitDefEqProofs (maxSteps:=2000000) [hP,hN,hk])|refine X2 ?_ ?_|(refine Xd ?_ ?_<;>intro hcd<;>try exact Xx))
 all_goals (first|(simp_all [pJ];done)|((try simp_all [pJ])<;>(try omega)<;>grind))
@[simp] theorem IV (a b : Int) : (if b < a then b else a)=min a b:=by split<;>omega
@[simp] theorem IW (a b : Int) : (if a < b then b else a)=max a b:=by split<;>omega
theorem aa {n : Int} (h1 : -9223372036854775808≤n:=by omega) (h2 : n < 9223372036854775808:=by omega) : wr n=n:=by
 rw [wr,IntKind.wrap_i64];omega
theorem Gp {k : Int} (hk : k < 64) : min k.toNat 64=k.toNat:=by omega
theorem E4 : IntKind.i64.bits=64:=rfl
theorem Hz (a k : Int) (h : 0≤k) (hk : k < 64) : ab Tryz.prog 184 [.pv (Z a),.pv (Z k)] [] [] (.pv (Z (a.fdiv (2 ^ k.toNat)))):=by
 refine Dp Tryz.func184 ?_
 intro C hP hN
 simp only [Tryz.f184] at hN ⊢
 with_reducible repeat' (first|refine Sp.h ?_|((first|refine Ss.h ?_|(refine Sb.h ?_ ?_ ?_<;>(try intro hgd)<;>try exact Xy))<;>simp -implicitDefEqProofs (maxSteps:=2000000) [hP,hN,h,E4,Gp hk])|refine X2 ?_ ?_|(refine Xd ?_ ?_<;>intro hcd<;>try exact Xx))
 all_goals (first|(simp_all;done)|((try simp_all)<;>(try omega)<;>grind))
def fZ (x y : Int × Int) : Int × Int:=if am x.1 x.2 && am y.1 y.2 then (min x.1 y.1,max x.2 y.2) else (0,0)
theorem zz (a b c d : Int) : ab Tryz.prog 214 [.pv (I a b),.pv (I c d)] [] [] (.pv (aJ (fZ (a,b) (c,d)))):=by
 refine Dp Tryz.func214 ?_
 intro C hP hN
 simp only [Tryz.f214] at hN ⊢
 with_reducible repeat' (first|refine Sp.h ?_|((first|refine Ss.h ?_|refine Sc.h (jX _ _) ?_|(refine Sb.h ?_ ?_ ?_<;>(try intro hgd)<;>try exact Xy))<;>simp -implicitDefEqProofs (maxSteps:=2000000) [hP,hN])|refine X2 ?_ ?_|(refine Xd ?_ ?_<;>intro hcd<;>try exact Xx))
 all_goals (first|(simp_all [fZ];done)|((try simp_all [fZ])<;>(try omega)<;>grind))
theorem E5 (a b : Int) : ab Tryz.prog 161 [.pv (I a b)] [] [] (.pv (Z (if am a b then wr (b - a) else 0))):=by
 refine Dp Tryz.func161 ?_
 intro C hP hN
 simp only [Tryz.f161] at hN ⊢
 with_reducible repeat' (first|refine Sp.h ?_|((first|refine Ss.h ?_|refine Sc.h (tW _ _) ?_|(refine Sb.h ?_ ?_ ?_<;>(try intro hgd)<;>try exact Xy))<;>simp -implicitDefEqProofs (maxSteps:=2000000) [hP,hN])|refine X2 ?_ ?_|(refine Xd ?_ ?_<;>intro hcd<;>try exact Xx))
 all_goals (first|(simp_all;done)|((try simp_all)<;>(try omega)<;>grind))
theorem HA (a b : Int) : ab Tryz.prog 162 [.pv (I a b)] [] [] (.pv (Z (if am a b then (wr (a+b)).fdiv 2 else 0))):=by
 refine Dp Tryz.func162 ?_
 intro C hP hN
 simp only [Tryz.f162] at hN ⊢
 with_reducible repeat' (first|refine Sp.h ?_|((first|refine Ss.h ?_|refine Sc.h (tW _ _) ?_|refine Sc.h (Hz _ _ (by decide) (by decide)) ?_|(refine Sb.h ?_ ?_ ?_<;>(try intro hgd)<;>try exact Xy))<;>simp -implicitDefEqProofs (maxSteps:=2000000) [hP,hN])|refine X2 ?_ ?_|(refine Xd ?_ ?_<;>intro hcd<;>try exact Xx))
 all_goals (first|(simp_all;done)|((try simp_all)<;>(try omega)<;>grind))
theorem HB (a b x : Int) : ab Tryz.prog 121 [.pv (I a b),.pv (Z x)] [] [] (.pv (B (am a b && decide (a≤x) && decide (x≤b)))):=by
 refine Dp Tryz.func121 ?_
 intro C hP hN
 simp only [Tryz.f121] at hN ⊢
 with_reducible repeat' (first|refine Sp.h ?_|((first|refine Ss.h ?_|refine Sc.h (tW _ _) ?_|(refine Sb.h ?_ ?_ ?_<;>(try intro hgd)<;>try exact Xy))<;>simp -implicitDefEqProofs (maxSteps:=2000000) [hP,hN])|refine X2 ?_ ?_|(refine Xd ?_ ?_<;>intro hcd<;>try exact Xx))
 all_goals (first|(simp_all;done)|((try simp_all)<;>(try omega)<;>grind))
theorem Jg (a b x : Int) : ab Tryz.prog 66 [.pv (I a b),.pv (Z x)] [] [] (.pv (B (am a b && decide (a≤x) && decide (x≤b)))):=by
 refine Dp Tryz.func66 ?_
 intro C hP hN
 simp only [Tryz.f66] at hN ⊢
 with_reducible repeat' (first|refine Sp.h ?_|((first|refine Ss.h ?_|refine Sc.h (jX _ _) ?_|(refine Sb.h ?_ ?_ ?_<;>(try intro hgd)<;>try exact Xy))<;>simp -implicitDefEqProofs (maxSteps:=2000000) [hP,hN])|refine X2 ?_ ?_|(refine Xd ?_ ?_<;>intro hcd<;>try exact Xx))
 all_goals (first|(simp_all;done)|((try simp_all)<;>(try omega)<;>grind))
theorem E6 (a b c d : Int) : ab Tryz.prog 125 [.pv (I a b),.pv (I c d)] [] [] (.pv (.tup (if am a b && am c d && decide (max a c≤min b d) then [I (max a c) (min b d),B true] else [I 0 0,B false]))):=by
 refine Dp Tryz.func125 ?_
 intro C hP hN
 simp only [Tryz.f125] at hN ⊢
 with_reducible repeat' (first|refine Sp.h ?_|((first|refine Ss.h ?_|refine Sc.h (Hx _ _ _ _) ?_|(refine Sb.h ?_ ?_ ?_<;>(try intro hgd)<;>try exact Xy))<;>simp -implicitDefEqProofs (maxSteps:=2000000) [hP,hN])|refine X2 ?_ ?_|(refine Xd ?_ ?_<;>intro hcd<;>try exact Xx))
 all_goals (first|(simp_all;done)|((try simp_all)<;>(try omega)<;>grind))
theorem HC (a b c d : Int) : ab Tryz.prog 102 [.pv (I a b),.pv (I c d)] [] [] (.pv (.tup (if am a b && am c d && decide (max a c≤min b d) then [I (max a c) (min b d),B true] else [I 0 0,B false]))):=by
 refine Dp Tryz.func102 ?_
 intro C hP hN
 simp only [Tryz.f102] at hN ⊢
 with_reducible repeat' (first|refine Sp.h ?_|((first|refine Ss.h ?_|refine Sc.h (jX _ _) ?_|(refine Sb.h ?_ ?_ ?_<;>(try intro hgd)<;>try exact Xy))<;>simp -implicitDefEqProofs (maxSteps:=2000000) [hP,hN])|refine X2 ?_ ?_|(refine Xd ?_ ?_<;>intro hcd<;>try exact Xx))
 all_goals (first|(simp_all;done)|((try simp_all)<;>(try omega)<;>grind))
end Go.Ab
namespace Go.Ab
open Go.Proofs
abbrev zs (xs : List Int) : PV:=.sl (xs.map Z)
abbrev iv (xs : List (Int × Int)) : PV:=.sl (xs.map aJ)
abbrev Fv (f : FuncId) : PV:=.val (.func (.func f) #[] #[])
theorem gD {n : Nat} (h : n≤16777216) : n≤9223372036854775807:=by omega
theorem ak {i n : Nat} (h : i < n) (hn : n≤9223372036854775807) : IntKind.i64.wrap ((i : Int)+1)=(i : Int)+1:=by rw [IntKind.wrap_i64];omega
def j8 {α : Type} (p : α→Bool) (xs : List α) : Int:=match xs.findIdx? p with
 |some i=>i
 |none=>-1
theorem ln {α : Type} {p : α→Bool} {xs : List α} {i : Nat} (hlt : i < xs.length) (hq : ∀ j x,j < i→xs[j]?=some x→p x=false) (hp : p xs[i]=true) : j8 p xs=i:=by
 have : xs.findIdx? p=some i:=by
  rw [List.findIdx?_eq_some_iff_getElem]
  refine ⟨hlt,hp,fun j hj=>?_⟩
  have hjl : j < xs.length:=by omega
  rw [hq j xs[j] hj (List.getElem?_eq_getElem hjl)];simp
 simp [j8,this]
theorem pK {α : Type} {p : α→Bool} {xs : List α} (hq : ∀ (j : Nat) x,xs[j]?=some x→p x=false) : j8 p xs=-1:=by
 have : xs.findIdx? p=none:=by
  rw [List.findIdx?_eq_none_iff]
  intro x hx
  obtain ⟨j,hj,rfl⟩:=List.mem_iff_getElem.1 hx
  exact hq j _ (List.getElem?_eq_getElem hj)
 simp [j8,this]
theorem om {α : Type} (p : α→Bool) (xs : List α) : decide (0≤j8 p xs)=xs.any p:=by
 unfold j8
 cases h : xs.findIdx? p with
 |none=>
  rw [List.findIdx?_eq_none_iff] at h
  have : xs.any p=false:=by
   rw [List.any_eq_false];intro x hx;rw [h x hx];simp
  simp [this]
 |some i=>
  rw [List.findIdx?_eq_some_iff_getElem] at h
  obtain ⟨hl,hp,_⟩:=h
  have : xs.any p=true:=List.any_eq_true.2 ⟨xs[i],List.getElem_mem hl,hp⟩
  simp [this]
theorem kG {α : Type} {p : α→Bool} {xs : List α} {i : Nat} (hlt : i < xs.length) (hq : ∀ j x,j < i→xs[j]?=some x→p x=false) (hp : p xs[i]=false) : ∀ j x,j < i+1→xs[j]?=some x→p x=false:=by
 intro j x hj hx
 by_cases e : j=i
 ·subst e;rw [List.getElem?_eq_getElem hlt] at hx;injection hx with hx;subst hx;exact hp
 ·exact hq j x (by omega) hx
theorem rP {α : Type} {p : α→Bool} {xs : List α} {i : Nat} (hlt : ¬ i < xs.length) (hq : ∀ j x,j < i→xs[j]?=some x→p x=false) : ∀ (j : Nat) x,xs[j]?=some x→p x=false:=by
 intro j x hx
 have:=(List.getElem?_eq_some_iff.1 hx).1
 exact hq j x (by omega) hx
theorem HD (f : FuncId) (p : Int × Int→Bool) (xs : List (Int × Int)) (hl : xs.length≤9223372036854775807) (hf : ∀ x,ab Tryz.prog f [.pv (aJ x)] [] [] (.pv (B (p x)))) : ab Tryz.prog 185 [.pv (iv xs),.pv (Fv f)] [] [] (.pv (Z (j8 p xs))):=by
 refine Dp Tryz.func185 ?_
 intro C hP hN
 simp only [Tryz.f185] at hN ⊢
 with_reducible repeat' (first|refine Sp.h ?_|((first|refine Ss.h ?_|(refine Sb.h ?_ ?_ ?_<;>(try intro hgd)<;>try exact Xy))<;>simp -implicitDefEqProofs (maxSteps:=2000000) [hP,hN])|refine X2 ?_ ?_|(refine Xd ?_ ?_<;>intro hcd<;>try exact Xx))
 refine WP.loopN [] xs.length (fun i st=>st.t 0=.pv (iv xs)∧st.t 1=.pv (Fv f)∧st.t 7=.pv (Z xs.length)∧st.t 8=.pv (Z i)∧∀ j x,j < i→xs[j]?=some x→p x=false) (by simp) ?_
 rintro i st hi ⟨h0,h1,h7,h8,hq⟩
 by_cases hlt : i < xs.length
 ·have hw:=ak hlt hl
  with_reducible repeat' (first|refine Sp.h ?_|((first|refine Ss.h ?_|refine Sc.h (hf _) ?_|(refine Sb.h ?_ ?_ ?_<;>(try intro hgd)<;>try exact Xy))<;>simp -implicitDefEqProofs (maxSteps:=2000000) [hP,hN,h0,h1,h7,h8,hlt,hw])|refine X2 ?_ ?_|(refine Xd ?_ ?_<;>intro hcd<;>try exact Xx))
  ·exact (ln hlt hq hcd).symm
  ·simpa using kG hlt hq hcd
 ·skip
  with_reducible repeat' (first|refine Sp.h ?_|((first|refine Ss.h ?_|(refine Sb.h ?_ ?_ ?_<;>(try intro hgd)<;>try exact Xy))<;>simp -implicitDefEqProofs (maxSteps:=2000000) [hP,hN,h0,h1,h7,h8,hlt])|refine X2 ?_ ?_|(refine Xd ?_ ?_<;>intro hcd<;>try exact Xx))
  exact (pK (rP hlt hq)).symm
theorem HE (f : FuncId) (p : Int × Int→Bool) (xs : List (Int × Int)) (hl : xs.length≤9223372036854775807) (hf : ∀ x,ab Tryz.prog f [.pv (aJ x)] [] [] (.pv (B (p x)))) : ab Tryz.prog 164 [.pv (iv xs),.pv (Fv f)] [] [] (.pv (B (xs.any p))):=by
 refine Dp Tryz.func164 ?_
 intro C hP hN
 simp only [Tryz.f164] at hN ⊢
 with_reducible repeat' (first|refine Sp.h ?_|((first|refine Ss.h ?_|refine Sc.h (HD _ _ _ hl hf) ?_|(refine Sb.h ?_ ?_ ?_<;>(try intro hgd)<;>try exact Xy))<;>simp -implicitDefEqProofs (maxSteps:=2000000) [hP,hN])|refine X2 ?_ ?_|(refine Xd ?_ ?_<;>intro hcd<;>try exact Xx))
 all_goals (first|(simp_all [om];done)|((try simp_all [om])<;>(try omega)<;>grind))
def aD {α : Type} (p : α→Bool) (xs : List α) : Bool:=xs.all p
theorem D9 {α : Type} (p : α→Bool) (xs : List α) : (xs.any fun x=>!p x)=!aD p xs:=by simp [aD,List.any_eq_not_all_not]
abbrev vI (x : Int × Int) : Bool:=am x.1 x.2
theorem HF (x : Int × Int) : ab Tryz.prog 165 [.pv (aJ x)] [] [] (.pv (B (!am x.1 x.2))):=by
 refine Dp Tryz.func165 ?_
 intro C hP hN
 simp only [Tryz.f165] at hN ⊢
 with_reducible repeat' (first|refine Sp.h ?_|((first|refine Ss.h ?_|refine Sc.h (tW _ _) ?_|(refine Sb.h ?_ ?_ ?_<;>(try intro hgd)<;>try exact Xy))<;>simp -implicitDefEqProofs (maxSteps:=2000000) [hP,hN])|refine X2 ?_ ?_|(refine Xd ?_ ?_<;>intro hcd<;>try exact Xx))
 all_goals (first|(simp_all;done)|((try simp_all)<;>(try omega)<;>grind))
theorem pL (xs : List (Int × Int)) (hl : xs.length≤9223372036854775807) : ab Tryz.prog 126 [.pv (iv xs)] [] [] (.pv (B (aD vI xs))):=by
 refine Dp Tryz.func126 ?_
 intro C hP hN
 simp only [Tryz.f126] at hN ⊢
 with_reducible repeat' (first|refine Sp.h ?_|((first|refine Ss.h ?_|refine Sc.h (HE _ _ _ hl HF) ?_|(refine Sb.h ?_ ?_ ?_<;>(try intro hgd)<;>try exact Xy))<;>simp -implicitDefEqProofs (maxSteps:=2000000) [hP,hN,D9 vI xs])|refine X2 ?_ ?_|(refine Xd ?_ ?_<;>intro hcd<;>try exact Xx))
 all_goals (first|(simp_all;done)|((try simp_all)<;>(try omega)<;>grind))
def AS (x : Int) : Bool:=decide (-2147483648≤x) && decide (x≤2147483648)
def md (xs ys : List Int) (d : Int) : Bool:=decide (xs.length=ys.length) && aD AS xs && aD AS ys && decide (0≤d) && decide (d≤20)
theorem MW {xs ys : List Int} {d : Int} (h : md xs ys d=true) : xs.length=ys.length∧aD AS xs=true∧aD AS ys=true∧0≤d∧d≤20:=by
 simp only [md,Bool.and_eq_true,decide_eq_true_eq] at h
 exact ⟨h.1.1.1.1,h.1.1.1.2,h.1.1.2,h.1.2,h.2⟩
theorem MX {d : Int} (h0 : 0≤d) (hd : d≤20) : IntKind.i64.wrap (2 ^ d.toNat)=2 ^ d.toNat:=by
 have : ∀ n : Nat,n≤20→IntKind.i64.wrap (2 ^ n)=2 ^ n:=by decide
 exact this d.toNat (by omega)
end Go.Ab
namespace Go.Ab
open Go.Proofs
theorem wy {T L : List PV} {i : Nat} {v : PV} (hlen : L.length=T.length) (h : ∀ j,j < i→L[j]?=T[j]?) (hv : T[i]?=some v) : ∀ j,j < i+1→(L.set i v)[j]?=T[j]?:=by
 intro j hj
 have hi : i < T.length:=(List.getElem?_eq_some_iff.1 hv).1
 by_cases e : j=i
 ·subst e;rw [hv,List.getElem?_set_self (by omega)]
 ·rw [List.getElem?_set_ne (by omega)];exact h j (by omega)
theorem wz {T L : List PV} {i : Nat} (hlen : L.length=T.length) (h : ∀ j,j < i→L[j]?=T[j]?) (hi : T.length≤i) : L=T:=by
 apply List.ext_getElem?
 intro j
 by_cases e : j < i
 ·exact h j e
 ·rw [List.getElem?_eq_none (by omega),List.getElem?_eq_none (by omega)]
end Go.Ab
namespace Go.Ab
open Go.Proofs
theorem pM {α : Type} {p : α→Bool} {xs : List α} {i : Nat} (hlt : i < xs.length) (hp : p xs[i]=false) : aD p xs=false:=by
 rw [aD,List.all_eq_false];exact ⟨xs[i],List.getElem_mem hlt,by simp [hp]⟩
theorem oo {α : Type} {p : α→Bool} {xs : List α} {i : Nat} (hlt : i < xs.length) (h : aD p (xs.take i)=true) (hp : p xs[i]=true) : aD p (xs.take (i+1))=true:=by
 unfold aD at *;rw [List.take_succ_eq_append_getElem hlt,List.all_append,h];simp [hp]
theorem oq {α : Type} {p : α→Bool} {xs : List α} {i : Nat} (hlt : ¬ i < xs.length) (h : aD p (xs.take i)=true) : aD p xs=true:=by
 rwa [List.take_of_length_le (by omega)] at h
theorem vB {α β : Type} {f : α→β} {xs : List α} {i : Nat} (hlt : i < xs.length) : (xs.map f).take i++[f xs[i]]=(xs.map f).take (i+1):=by
 rw [List.take_succ_eq_append_getElem (by simpa using hlt)];simp
theorem vC {α β γ : Type} {f : α→β→γ} {xs : List α} {ys : List β} {i : Nat} (hlt : i < xs.length) (hlt' : i < ys.length) : (List.zipWith f xs ys).take i++[f xs[i] ys[i]]=(List.zipWith f xs ys).take (i+1):=by
 rw [List.take_succ_eq_append_getElem (by simp;omega)];simp
theorem uP {α : Type} {xs : List α} {i n : Nat} (hn : xs.length=n) (hi : ¬ i < n) : xs.take i=xs:=List.take_of_length_le (by omega)
def bZ {α β : Type} (f : α→β→Bool) (xs : List α) (ys : List β) : Bool:=(List.zipWith f xs ys).all id
def df {α β : Type} (f : α→β→Bool) (xs : List α) (ys : List β) (i : Nat) : Bool:=((List.zipWith f xs ys).take i).all id
theorem fL {α β : Type} {f : α→β→Bool} {xs : List α} {ys : List β} {i : Nat} (hlt : i < xs.length) (hlt' : i < ys.length) (hp : f xs[i] ys[i]=false) : bZ f xs ys=false:=
 pM (p:=id) (xs:=List.zipWith f xs ys) (i:=i) (by simp;omega) (by simpa using hp)
theorem gn {α β : Type} {f : α→β→Bool} {xs : List α} {ys : List β} {i : Nat} (hlt : i < xs.length) (hlt' : i < ys.length) (h : df f xs ys i=true) (hp : f xs[i] ys[i]=true) : df f xs ys (i+1)=true:=
 oo (p:=id) (xs:=List.zipWith f xs ys) (i:=i) (by simp;omega) h (by simpa using hp)
theorem go {α β : Type} {f : α→β→Bool} {xs : List α} {ys : List β} {i : Nat} (hlt : ¬ i < xs.length) (h : df f xs ys i=true) : bZ f xs ys=true:=
 oq (p:=id) (xs:=List.zipWith f xs ys) (i:=i) (by simp;omega) h
theorem fN (xs : List (Int × Int)) (hl : xs.length≤9223372036854775807) : ab Tryz.prog 65 [.pv (iv xs)] [] [] (.pv (B (aD vI xs))):=by
 refine Dp Tryz.func65 ?_
 intro C hP hN
 simp only [Tryz.f65] at hN ⊢
 with_reducible repeat' (first|refine Sp.h ?_|((first|refine Ss.h ?_|(refine Sb.h ?_ ?_ ?_<;>(try intro hgd)<;>try exact Xy))<;>simp -implicitDefEqProofs (maxSteps:=2000000) [hP,hN])|refine X2 ?_ ?_|(refine Xd ?_ ?_<;>intro hcd<;>try exact Xx))
 refine WP.loopN [] xs.length (fun i st=>st.t 0=.pv (iv xs)∧st.t 3=.pv (Z i)∧aD vI (xs.take i)=true) (by simp [aD]) ?_
 rintro i st hi ⟨h0,h1,hq⟩
 by_cases hlt : i < xs.length
 ·have hw:=ak hlt hl
  have hF : vI xs[i]=false→aD vI xs=false:=pM hlt
  have hS : vI xs[i]=true→aD vI (xs.take (i+1))=true:=oo hlt hq
  with_reducible repeat' (first|refine Sp.h ?_|((first|refine Ss.h ?_|refine Sc.h (jX _ _) ?_|(refine Sb.h ?_ ?_ ?_<;>(try intro hgd)<;>try exact Xy))<;>simp -implicitDefEqProofs (maxSteps:=2000000) [hP,hN,h0,h1,hlt,hw])|refine X2 ?_ ?_|(refine Xd ?_ ?_<;>intro hcd<;>try exact Xx))
  all_goals first|(rw [hF];simp_all [AS];try omega)|(rw [hS];simp_all [AS];try omega)
 ·skip
  with_reducible repeat' (first|refine Sp.h ?_|((first|refine Ss.h ?_|(refine Sb.h ?_ ?_ ?_<;>(try intro hgd)<;>try exact Xy))<;>simp -implicitDefEqProofs (maxSteps:=2000000) [hP,hN,h0,h1,hlt])|refine X2 ?_ ?_|(refine Xd ?_ ?_<;>intro hcd<;>try exact Xx))
  simp [oq hlt hq]
theorem OJ (xs : List (Int)) (hl : xs.length≤9223372036854775807) : ab Tryz.prog 154 [.pv (zs xs)] [] [] (.pv (B (aD AS xs))):=by
 refine Dp Tryz.func154 ?_
 intro C hP hN
 simp only [Tryz.f154] at hN ⊢
 with_reducible repeat' (first|refine Sp.h ?_|((first|refine Ss.h ?_|(refine Sb.h ?_ ?_ ?_<;>(try intro hgd)<;>try exact Xy))<;>simp -implicitDefEqProofs (maxSteps:=2000000) [hP,hN])|refine X2 ?_ ?_|(refine Xd ?_ ?_<;>intro hcd<;>try exact Xx))
 refine WP.loopN [] xs.length (fun i st=>st.t 0=.pv (zs xs)∧st.t 3=.pv (Z i)∧aD AS (xs.take i)=true) (by simp [aD]) ?_
 rintro i st hi ⟨h0,h1,hq⟩
 by_cases hlt : i < xs.length
 ·have hw:=ak hlt hl
  have hF : AS xs[i]=false→aD AS xs=false:=pM hlt
  have hS : AS xs[i]=true→aD AS (xs.take (i+1))=true:=oo hlt hq
  with_reducible repeat' (first|refine Sp.h ?_|((first|refine Ss.h ?_|(refine Sb.h ?_ ?_ ?_<;>(try intro hgd)<;>try exact Xy))<;>simp -implicitDefEqProofs (maxSteps:=2000000) [hP,hN,h0,h1,hlt,hw])|refine X2 ?_ ?_|(refine Xd ?_ ?_<;>intro hcd<;>try exact Xx))
  all_goals first|(rw [hF];simp_all [AS];try omega)|(rw [hS];simp_all [AS];try omega)
 ·skip
  with_reducible repeat' (first|refine Sp.h ?_|((first|refine Ss.h ?_|(refine Sb.h ?_ ?_ ?_<;>(try intro hgd)<;>try exact Xy))<;>simp -implicitDefEqProofs (maxSteps:=2000000) [hP,hN,h0,h1,hlt])|refine X2 ?_ ?_|(refine Xd ?_ ?_<;>intro hcd<;>try exact Xx))
  simp [oq hlt hq]
def cW (x y : Int × Int) : Bool:=am x.1 x.2 && am y.1 y.2 && decide (y.1≤x.1) && decide (x.2≤y.2)
def j9 (x : Int × Int) (c : Int) : Bool:=am x.1 x.2 && decide (x.1≤c) && decide (c≤x.2)
def jq (xs ys : List (Int × Int)) : Bool:=aD vI xs && aD vI ys && decide (xs.length=ys.length) && bZ cW xs ys
def rQ (xs : List (Int × Int)) (ys : List Int) : Bool:=aD vI xs && decide (xs.length=ys.length) && bZ j9 xs ys
theorem Jh (xs : List (Int × Int)) (ys : List (Int × Int)) (hl : xs.length≤9223372036854775807) (hm : ys.length≤9223372036854775807) : ab Tryz.prog 95 [.pv (iv xs),.pv (iv ys)] [] [] (.pv (B (jq xs ys))):=by
 refine Dp Tryz.func95 ?_
 intro C hP hN
 simp only [Tryz.f95] at hN ⊢
 cases hv : aD vI xs with
 |false=>
  with_reducible repeat' (first|refine Sp.h ?_|((first|refine Wd ?_|refine Ss.h ?_|refine Sc.h (fN _ hl) ?_|refine Sc.h (fN _ hm) ?_|(refine Sb.h ?_ ?_ ?_<;>(try intro hgd)<;>try exact Xy))<;>simp -implicitDefEqProofs (maxSteps:=2000000) [hP,hN,hv]<;>try refine Ya ?_)|refine X2 ?_ ?_|(refine Xd ?_ ?_<;>intro hcd<;>try exact Xx))
  all_goals simp [jq,hv]
 |true=>
  cases hu : aD vI ys with
  |false=>
   with_reducible repeat' (first|refine Sp.h ?_|((first|refine Wd ?_|refine Ss.h ?_|refine Sc.h (fN _ hl) ?_|refine Sc.h (fN _ hm) ?_|(refine Sb.h ?_ ?_ ?_<;>(try intro hgd)<;>try exact Xy))<;>simp -implicitDefEqProofs (maxSteps:=2000000) [hP,hN,hv,hu]<;>try refine Ya ?_)|refine X2 ?_ ?_|(refine Xd ?_ ?_<;>intro hcd<;>try exact Xx))
   all_goals simp [jq,hv,hu]
  |true=>
   by_cases he : xs.length=ys.length
   ·skip
    with_reducible repeat' (first|refine Sp.h ?_|((first|refine Wd ?_|refine Ss.h ?_|refine Sc.h (fN _ hl) ?_|refine Sc.h (fN _ hm) ?_|(refine Sb.h ?_ ?_ ?_<;>(try intro hgd)<;>try exact Xy))<;>simp -implicitDefEqProofs (maxSteps:=2000000) [hP,hN,hv,hu,he]<;>try refine Ya ?_)|refine X2 ?_ ?_|(refine Xd ?_ ?_<;>intro hcd<;>try exact Xx))
    refine WP.loopN [] xs.length (fun i st=>st.t 0=.pv (iv xs)∧st.t 1=.pv (iv ys)∧st.t 5=.pv (Z i)∧df cW xs ys i=true) (by simp [df]) ?_
    rintro i st hi ⟨h0,h1,h2,hq⟩
    by_cases hlt : i < xs.length
    ·have hw:=ak hlt hl
     have hlt' : i < ys.length:=by omega
     have hF : cW xs[i] ys[i]=false→bZ cW xs ys=false:=fL hlt hlt'
     have hS : cW xs[i] ys[i]=true→df cW xs ys (i+1)=true:=gn hlt hlt' hq
     with_reducible repeat' (first|refine Sp.h ?_|((first|refine Wd ?_|refine Ss.h ?_|refine Sc.h (Hy _ _ _ _) ?_|(refine Sb.h ?_ ?_ ?_<;>(try intro hgd)<;>try exact Xy))<;>simp -implicitDefEqProofs (maxSteps:=2000000) [hP,hN,h0,h1,h2,hlt,hlt',hw]<;>try refine Ya ?_)|refine X2 ?_ ?_|(refine Xd ?_ ?_<;>intro hcd<;>try exact Xx))
     all_goals first|(rw [jq,hF (by simp only [cW]<;>grind)];simp;done)|(rw [hS (by simp only [cW]<;>grind)];done)
    ·have hlt' : ¬ i < ys.length:=by omega
     with_reducible repeat' (first|refine Sp.h ?_|((first|refine Wd ?_|refine Ss.h ?_|(refine Sb.h ?_ ?_ ?_<;>(try intro hgd)<;>try exact Xy))<;>simp -implicitDefEqProofs (maxSteps:=2000000) [hP,hN,h0,h1,h2,hlt,hlt']<;>try refine Ya ?_)|refine X2 ?_ ?_|(refine Xd ?_ ?_<;>intro hcd<;>try exact Xx))
     all_goals simp [jq,hv,hu,he,go hlt hq]
   ·skip
    with_reducible repeat' (first|refine Sp.h ?_|((first|refine Wd ?_|refine Ss.h ?_|refine Sc.h (fN _ hl) ?_|refine Sc.h (fN _ hm) ?_|(refine Sb.h ?_ ?_ ?_<;>(try intro hgd)<;>try exact Xy))<;>simp -implicitDefEqProofs (maxSteps:=2000000) [hP,hN,hv,hu,he]<;>try refine Ya ?_)|refine X2 ?_ ?_|(refine Xd ?_ ?_<;>intro hcd<;>try exact Xx))
    all_goals simp [jq,hv,hu,he]
theorem pd (xs : List (Int × Int)) (ys : List (Int)) (hl : xs.length≤9223372036854775807) (hm : ys.length≤9223372036854775807) : ab Tryz.prog 33 [.pv (iv xs),.pv (zs ys)] [] [] (.pv (B (rQ xs ys))):=by
 refine Dp Tryz.func33 ?_
 intro C hP hN
 simp only [Tryz.f33] at hN ⊢
 cases hv : aD vI xs with
 |false=>
  with_reducible repeat' (first|refine Sp.h ?_|((first|refine Wd ?_|refine Ss.h ?_|refine Sc.h (fN _ hl) ?_|(refine Sb.h ?_ ?_ ?_<;>(try intro hgd)<;>try exact Xy))<;>simp -implicitDefEqProofs (maxSteps:=2000000) [hP,hN,hv]<;>try refine Ya ?_)|refine X2 ?_ ?_|(refine Xd ?_ ?_<;>intro hcd<;>try exact Xx))
  all_goals simp [rQ,hv]
 |true=>
  by_cases he : xs.length=ys.length
  ·skip
   with_reducible repeat' (first|refine Sp.h ?_|((first|refine Wd ?_|refine Ss.h ?_|refine Sc.h (fN _ hl) ?_|(refine Sb.h ?_ ?_ ?_<;>(try intro hgd)<;>try exact Xy))<;>simp -implicitDefEqProofs (maxSteps:=2000000) [hP,hN,hv,he]<;>try refine Ya ?_)|refine X2 ?_ ?_|(refine Xd ?_ ?_<;>intro hcd<;>try exact Xx))
   refine WP.loopN [] xs.length (fun i st=>st.t 0=.pv (iv xs)∧st.t 1=.pv (zs ys)∧st.t 5=.pv (Z i)∧df j9 xs ys i=true) (by simp [df]) ?_
   rintro i st hi ⟨h0,h1,h2,hq⟩
   by_cases hlt : i < xs.length
   ·have hw:=ak hlt hl
    have hlt' : i < ys.length:=by omega
    have hF : j9 xs[i] ys[i]=false→bZ j9 xs ys=false:=fL hlt hlt'
    have hS : j9 xs[i] ys[i]=true→df j9 xs ys (i+1)=true:=gn hlt hlt' hq
    with_reducible repeat' (first|refine Sp.h ?_|((first|refine Wd ?_|refine Ss.h ?_|refine Sc.h (Jg _ _ _) ?_|(refine Sb.h ?_ ?_ ?_<;>(try intro hgd)<;>try exact Xy))<;>simp -implicitDefEqProofs (maxSteps:=2000000) [hP,hN,h0,h1,h2,hlt,hlt',hw]<;>try refine Ya ?_)|refine X2 ?_ ?_|(refine Xd ?_ ?_<;>intro hcd<;>try exact Xx))
    all_goals first|(rw [rQ,hF (by simp only [j9]<;>grind)];simp;done)|(rw [hS (by simp only [j9]<;>grind)];done)
   ·have hlt' : ¬ i < ys.length:=by omega
    with_reducible repeat' (first|refine Sp.h ?_|((first|refine Wd ?_|refine Ss.h ?_|(refine Sb.h ?_ ?_ ?_<;>(try intro hgd)<;>try exact Xy))<;>simp -implicitDefEqProofs (maxSteps:=2000000) [hP,hN,h0,h1,h2,hlt,hlt']<;>try refine Ya ?_)|refine X2 ?_ ?_|(refine Xd ?_ ?_<;>intro hcd<;>try exact Xx))
    all_goals simp [rQ,hv,he,go hlt hq]
  ·skip
   with_reducible repeat' (first|refine Sp.h ?_|((first|refine Wd ?_|refine Ss.h ?_|refine Sc.h (fN _ hl) ?_|(refine Sb.h ?_ ?_ ?_<;>(try intro hgd)<;>try exact Xy))<;>simp -implicitDefEqProofs (maxSteps:=2000000) [hP,hN,hv,he]<;>try refine Ya ?_)|refine X2 ?_ ?_|(refine Xd ?_ ?_<;>intro hcd<;>try exact Xx))
   all_goals simp [rQ,hv,he]
def rv {α : Type} [DecidableEq α] (x y : α) : Bool:=decide (x=y)
theorem Ea {α : Type} [DecidableEq α] {xs ys : List α} (he : xs.length=ys.length) : bZ rv xs ys=decide (xs=ys):=by
 unfold bZ
 induction xs generalizing ys with
 |nil=>cases ys<;>simp at he ⊢
 |cons x xs ih=>cases ys with
  |nil=>simp at he
  |cons y ys=>simp only [List.zipWith_cons_cons,List.all_cons,ih (by simpa using he)];simp [rv,Bool.decide_and]
def gQ {α : Type} [DecidableEq α] (xs ys : List α) : Bool:=decide (xs.length=ys.length) && bZ rv xs ys
theorem Ji (xs : List (Int)) (ys : List (Int)) (hl : xs.length≤9223372036854775807) (hm : ys.length≤9223372036854775807) : ab Tryz.prog 17 [.pv (zs xs),.pv (zs ys)] [] [] (.pv (B (gQ xs ys))):=by
 refine Dp Tryz.func17 ?_
 intro C hP hN
 simp only [Tryz.f17] at hN ⊢
 by_cases he : xs.length=ys.length
 ·skip
  with_reducible repeat' (first|refine Sp.h ?_|((first|refine Wd ?_|refine Ss.h ?_|(refine Sb.h ?_ ?_ ?_<;>(try intro hgd)<;>try exact Xy))<;>simp -implicitDefEqProofs (maxSteps:=2000000) [hP,hN,he]<;>try refine Ya ?_)|refine X2 ?_ ?_|(refine Xd ?_ ?_<;>intro hcd<;>try exact Xx))
  refine WP.loopN [] xs.length (fun i st=>st.t 0=.pv (zs xs)∧st.t 1=.pv (zs ys)∧st.t 5=.pv (Z i)∧df rv xs ys i=true) (by simp [df]) ?_
  rintro i st hi ⟨h0,h1,h2,hq⟩
  by_cases hlt : i < xs.length
  ·have hw:=ak hlt hl
   have hlt' : i < ys.length:=by omega
   have hF : rv xs[i] ys[i]=false→bZ rv xs ys=false:=fL hlt hlt'
   have hS : rv xs[i] ys[i]=true→df rv xs ys (i+1)=true:=gn hlt hlt' hq
   with_reducible repeat' (first|refine Sp.h ?_|((first|refine Wd ?_|refine Ss.h ?_|(refine Sb.h ?_ ?_ ?_<;>(try intro hgd)<;>try exact Xy))<;>simp -implicitDefEqProofs (maxSteps:=2000000) [hP,hN,h0,h1,h2,hlt,hlt',hw]<;>try refine Ya ?_)|refine X2 ?_ ?_|(refine Xd ?_ ?_<;>intro hcd<;>try exact Xx))
   all_goals first|(rw [gQ,hF (by simp only [rv]<;>grind)];simp;done)|(rw [hS (by simp only [rv]<;>grind)];done)
  ·have hlt' : ¬ i < ys.length:=by omega
   with_reducible repeat' (first|refine Sp.h ?_|((first|refine Wd ?_|refine Ss.h ?_|(refine Sb.h ?_ ?_ ?_<;>(try intro hgd)<;>try exact Xy))<;>simp -implicitDefEqProofs (maxSteps:=2000000) [hP,hN,h0,h1,h2,hlt,hlt']<;>try refine Ya ?_)|refine X2 ?_ ?_|(refine Xd ?_ ?_<;>intro hcd<;>try exact Xx))
   all_goals simp [gQ,he,go hlt hq]
 ·skip
  with_reducible repeat' (first|refine Sp.h ?_|((first|refine Wd ?_|refine Ss.h ?_|(refine Sb.h ?_ ?_ ?_<;>(try intro hgd)<;>try exact Xy))<;>simp -implicitDefEqProofs (maxSteps:=2000000) [hP,hN,he]<;>try refine Ya ?_)|refine X2 ?_ ?_|(refine Xd ?_ ?_<;>intro hcd<;>try exact Xx))
  all_goals simp [gQ,he]
end Go.Ab
namespace Go.Ab
open Go.Proofs
end Go.Ab
namespace Go.Ab
open Go.Proofs
def bR (x : Int × Int) : Int:=if am x.1 x.2 then wr (x.2 - x.1) else 0
def fw (x : Int × Int) : Int:=if am x.1 x.2 then (wr (x.1+x.2)).fdiv 2 else 0
def aP (xs : List (Int × Int)) (j : Int) : Bool:=decide (0≤j) && aD vI xs && (match xs[j.toNat]? with|some x=>decide (2≤bR x)|none=>false)
def bo (xs : List (Int × Int)) (j : Int) : List (Int × Int):=if aP xs j then (match xs[j.toNat]? with|some x=>xs.set j.toNat (x.1,fw x)|none=>[]) else []
def bp (xs : List (Int × Int)) (j : Int) : List (Int × Int):=if aP xs j then (match xs[j.toNat]? with|some x=>xs.set j.toNat (fw x,x.2)|none=>[]) else []
theorem E7 (xs : List (Int × Int)) (j : Int) (hl : xs.length≤16777216) : ab Tryz.prog 122 [.pv (iv xs),.pv (Z j)] [] [] (.pv (.tup [iv (bo xs j),iv (bp xs j),B (aP xs j)])):=by
 refine Dp Tryz.func122 ?_
 intro C hP hN
 simp only [Tryz.f122] at hN ⊢
 by_cases hj : 0≤j
 ·obtain ⟨n,rfl⟩:=Int.eq_ofNat_of_zero_le hj
  by_cases hlt : n < xs.length
  ·cases hv : aD vI xs with
   |false=>
    with_reducible repeat' (first|refine Sp.h ?_|((first|refine Wd ?_|refine Ss.h ?_|refine Sc.h (pL _ (gD hl)) ?_|(refine Sb.h ?_ ?_ ?_<;>(try intro hgd)<;>try exact Xy))<;>simp -implicitDefEqProofs (maxSteps:=2000000) [hP,hN,hlt,hv]<;>try refine Ya ?_)|refine X2 ?_ ?_|(refine Xd ?_ ?_<;>intro hcd<;>try exact Xx))
    all_goals simp [bo,bp,aP,hv]
   |true=>
    have hx:=List.getElem?_eq_getElem hlt
    generalize hxx : xs[n]=x at hx
    by_cases hwd : bR x < 2
    ·have hwd':=hwd
     simp only [bR] at hwd'
     with_reducible repeat' (first|refine Sp.h ?_|((first|refine Wd ?_|refine Ss.h ?_|refine Sc.h (pL _ (gD hl)) ?_|refine Sc.h (E5 _ _) ?_|(refine Sb.h ?_ ?_ ?_<;>(try intro hgd)<;>try exact Xy))<;>simp -implicitDefEqProofs (maxSteps:=2000000) [hP,hN,hlt,hv,hx,hxx,hwd']<;>try refine Ya ?_)|refine X2 ?_ ?_|(refine Xd ?_ ?_<;>intro hcd<;>try exact Xx))
     all_goals simp [bo,bp,aP,hv,hx,Int.not_le.2 hwd]
    ·have hwd':=hwd
     simp only [bR] at hwd'
     with_reducible repeat' (first|refine Sp.h ?_|((first|refine Wd ?_|refine Ss.h ?_|refine Sc.h (pL _ (gD hl)) ?_|refine Sc.h (E5 _ _) ?_|refine Sc.h (HA _ _) ?_|(refine Sb.h ?_ ?_ ?_<;>(try intro hgd)<;>try exact Xy))<;>simp -implicitDefEqProofs (maxSteps:=2000000) [hP,hN,hlt,hv,hx,hxx,hwd',show (16 : Int) * xs.length≤281474976710656 by omega,show (xs.length : Int)≤9223372036854775807 by omega]<;>try refine Ya ?_)|refine X2 ?_ ?_|(refine Xd ?_ ?_<;>intro hcd<;>try exact Xx))
     have hok : aP xs (n : Int)=true:=by simp [aP,hv,hx,Int.not_lt.1 hwd]
     have ht : List.take xs.length (List.map aJ xs)=List.map aJ xs:=List.take_of_length_le (by simp)
     simp [bo,bp,hok,hx,ht,List.map_set,fw]
  ·skip
   with_reducible repeat' (first|refine Sp.h ?_|((first|refine Wd ?_|refine Ss.h ?_|refine Sc.h (pL _ (gD hl)) ?_|(refine Sb.h ?_ ?_ ?_<;>(try intro hgd)<;>try exact Xy))<;>simp -implicitDefEqProofs (maxSteps:=2000000) [hP,hN,hlt]<;>try refine Ya ?_)|refine X2 ?_ ?_|(refine Xd ?_ ?_<;>intro hcd<;>try exact Xx))
   all_goals (have hx : xs[n]?=none:=List.getElem?_eq_none (by omega));simp [bo,bp,aP,hx]
 ·skip
  with_reducible repeat' (first|refine Sp.h ?_|((first|refine Wd ?_|refine Ss.h ?_|refine Sc.h (pL _ (gD hl)) ?_|(refine Sb.h ?_ ?_ ?_<;>(try intro hgd)<;>try exact Xy))<;>simp -implicitDefEqProofs (maxSteps:=2000000) [hP,hN,hj,show j < 0 by omega]<;>try refine Ya ?_)|refine X2 ?_ ?_|(refine Xd ?_ ?_<;>intro hcd<;>try exact Xx))
  all_goals simp [bo,bp,aP,hj]
end Go.Ab
namespace Go.Ab
open Go.Proofs
def nx (l : List Int) (n : Nat) (k : Int) : Int:=match l[n]? with
 |some x=>pJ x k
 |none=>0
def nn (l : List Int) (n : Nat) : Nat:=if n < l.length then n+1 else n
abbrev ot (l : List Int) (n : Nat) : List PV:=[zs l,Z n]
theorem GU (l : List Int) : ab Tryz.prog 23 [.pv (zs l)] [] [] (.box (ot l 0)):=by
 refine Dp Tryz.func23 ?_
 intro C hP hN
 simp only [Tryz.f23] at hN ⊢
 with_reducible repeat' (first|refine Sp.h ?_|((first|refine Ss.h ?_|(refine Sb.h ?_ ?_ ?_<;>(try intro hgd)<;>try exact Xy))<;>simp -implicitDefEqProofs (maxSteps:=2000000) [hP,hN])|refine X2 ?_ ?_|(refine Xd ?_ ?_<;>intro hcd<;>try exact Xx))
 all_goals (first|(simp_all;done)|((try simp_all)<;>(try omega)<;>grind))
theorem gx (l : List Int) (n : Nat) : nn l n≤n+1:=by unfold nn;split<;>omega
theorem sY (l : List Int) (n : Nat) (k : Int) (hk : k≠0) (hn : n < 1000000) : ab Tryz.prog 24 [.bx 0,.pv (Z k)] [ot l n] [ot l (nn l n)] (.pv (Z (nx l n k))):=by
 have hw : IntKind.i64.wrap ((n : Int)+1)=(n : Int)+1:=by rw [IntKind.wrap_i64];omega
 have hw' : IntKind.i64.wrap (n : Int)=n:=by rw [IntKind.wrap_i64];omega
 refine yw Tryz.func24 rfl (by kernel_rfl) (by simp [Tryz.f24]) rfl (by intro i j h;rcases i with _|_|_|i<;>simp_all) ?_
 intro C hP hN
 simp only [Tryz.f24] at hN ⊢
 by_cases hlt : n < l.length
 ·skip
  with_reducible repeat' (first|refine Sp.h ?_|((first|refine Wd ?_|refine Ss.h ?_|refine Sc.h (Jf _ _ hk) ?_|(refine Sb.h ?_ ?_ ?_<;>(try intro hgd)<;>try exact Xy))<;>simp -implicitDefEqProofs (maxSteps:=2000000) [hP,hN,ot,hlt,hw,hw',Nat.not_le.2 hlt]<;>try refine Ya ?_)|refine X2 ?_ ?_|(refine Xd ?_ ?_<;>intro hcd<;>try exact Xx))
  simp [nn,nx,hlt]
 ·skip
  with_reducible repeat' (first|refine Sp.h ?_|((first|refine Wd ?_|refine Ss.h ?_|(refine Sb.h ?_ ?_ ?_<;>(try intro hgd)<;>try exact Xy))<;>simp -implicitDefEqProofs (maxSteps:=2000000) [hP,hN,ot,hlt,Nat.not_lt.1 hlt]<;>try refine Ya ?_)|refine X2 ?_ ?_|(refine Xd ?_ ?_<;>intro hcd<;>try exact Xx))
  simp [nn,nx,hlt]
theorem Cs (l : List Int) (n : Nat) (k : Int) (h0 : 0 < k) (hk : k < 1000000) (hn : n < 1000000) : ab Tryz.prog 39 [.bx 0,.pv (Z k)] [ot l n] [ot l (nn l n)] (.pv (Z (wr (nx l n (2 * k+1) - k)))):=by
 have hw : IntKind.i64.wrap (2 * k)=2 * k:=by rw [IntKind.wrap_i64];omega
 have hw' : IntKind.i64.wrap (2 * k+1)=2 * k+1:=by rw [IntKind.wrap_i64];omega
 refine yw Tryz.func39 rfl (by kernel_rfl) (by simp [Tryz.f39]) rfl (by intro i j h;rcases i with _|_|_|i<;>simp_all) ?_
 intro C hP hN
 simp only [Tryz.f39] at hN ⊢
 with_reducible repeat' (first|refine Sp.h ?_|((first|refine Ss.h ?_|refine Sc.h (sY l n (2 * k+1) (by omega) hn) ?_|(refine Sb.h ?_ ?_ ?_<;>(try intro hgd)<;>try exact Xy))<;>simp -implicitDefEqProofs (maxSteps:=2000000) [hP,hN,ot,hw,hw'])|refine X2 ?_ ?_|(refine Xd ?_ ?_<;>intro hcd<;>try exact Xx))
theorem ji (l : List Int) (n : Nat) {k : Int} (hk : 0 < k) (hk' : k < 4611686018427387904) : 0≤nx l n k∧nx l n k < k:=by
 unfold nx
 split
 ·rename_i x _
  have h1 : -k < x.tmod k:=by have:=Int.lt_tmod_of_pos x hk;omega
  have h2 : x.tmod k < k:=Int.tmod_lt_of_pos x hk
  unfold pJ
  split
  ·rw [aa (by omega) (by omega)];omega
  ·omega
 ·omega
def NG (a : Int) : Int:=if a=2 then 1 else if a=3 then 2 else if a=4 then 4 else if a=5 then 5 else if a=7 then 0 else 3
theorem Ov {c : Int} (h0 : 0≤c) (h8 : c < 8) : ∀ h,([.int .i64 3,.int .i64 3,.int .i64 1,.int .i64 2,.int .i64 4,.int .i64 5,.int .i64 3,.int .i64 0] : List Value)[c.toNat]'h=.int .i64 (NG c):=by
 have : c=0∨c=1∨c=2∨c=3∨c=4∨c=5∨c=6∨c=7:=by omega
 rcases this with rfl|rfl|rfl|rfl|rfl|rfl|rfl|rfl<;>(intro h;rfl)
def tX (i : Nat) : ByteArray:=⟨#[UInt8.ofNat (97+i)]⟩
abbrev sZ : Value:=.string ⟨#[97,98,99,100,101,102,103,104,105,106]⟩
def s9 (i : Nat) : Operand→AV:=fun x=>match x with
 |.tmp 3=>.pv (Z i)
 |.tmp 5=>.pv (Z ((i : Int)+1))
 |_=>.pv (.val sZ)
section
variable {dst : Option Nat} {ty : TypeId} {pos : String} {aft : Array Edge} {g : Option (Nat × Bool)} {ρ : Operand→AV}
theorem Eb : aG Tryz.prog ⟨dst,.slice 9 (.const sZ) (some (.tmp 3)) (some (.tmp 5)) none,ty,pos,aft,g⟩ (s9 0)=some (.pv (.val (.string (tX 0))),[]):=by kernel_rfl
theorem Ec : aG Tryz.prog ⟨dst,.slice 9 (.const sZ) (some (.tmp 3)) (some (.tmp 5)) none,ty,pos,aft,g⟩ (s9 1)=some (.pv (.val (.string (tX 1))),[]):=by kernel_rfl
theorem Ed : aG Tryz.prog ⟨dst,.slice 9 (.const sZ) (some (.tmp 3)) (some (.tmp 5)) none,ty,pos,aft,g⟩ (s9 2)=some (.pv (.val (.string (tX 2))),[]):=by kernel_rfl
theorem Gq (i : Nat) (h3 : i < 3) (hc : ρ (.const sZ)=.pv (.val sZ)) (hx : ρ (.tmp 3)=.pv (Z i)) (hy : ρ (.tmp 5)=.pv (Z ((i : Int)+1))) :
 aG Tryz.prog ⟨dst,.slice 9 (.const sZ) (some (.tmp 3)) (some (.tmp 5)) none,ty,pos,aft,g⟩ ρ=some (.pv (.val (.string (tX i))),[]):=by
 have h : aG Tryz.prog ⟨dst,.slice 9 (.const sZ) (some (.tmp 3)) (some (.tmp 5)) none,ty,pos,aft,g⟩ ρ=aG Tryz.prog ⟨dst,.slice 9 (.const sZ) (some (.tmp 3)) (some (.tmp 5)) none,ty,pos,aft,g⟩ (s9 i):=by
  refine jG (by intro _ _ h;cases h) ?_
  intro x hx'
  simp [Op.operands] at hx'
  rcases hx' with rfl|rfl|rfl
  ·exact hc
  ·exact hx
  ·exact hy
 rw [h]
 have : i=0∨i=1∨i=2:=by omega
 rcases this with rfl|rfl|rfl
 ·exact Eb
 ·exact Ec
 ·exact Ed
end
theorem GV (i : Nat) (h3 : i < 3) : ab Tryz.prog 55 [.pv (Z i)] [] [] (.pv (.val (.string (tX i)))):=by
 have hw : IntKind.i64.wrap ((i : Int)+1)=(i : Int)+1:=by rw [IntKind.wrap_i64];omega
 refine Dp Tryz.func55 ?_
 intro C hP hN
 simp only [Tryz.f55] at hN ⊢
 with_reducible repeat' (first|refine Sp.h ?_|((first|refine Ss.h ?_|(refine Sb.h ?_ ?_ ?_<;>(try intro hgd)<;>try exact Xy))<;>simp -implicitDefEqProofs (maxSteps:=2000000) [hP,hN,hw])|refine X2 ?_ ?_|(refine Xd ?_ ?_<;>intro hcd<;>try exact Xx))
 rw [Gq i h3 rfl (by simp) (by simp)]
 simp [hP,hN]
 with_reducible repeat' (first|refine Sp.h ?_|((first|refine Ss.h ?_|(refine Sb.h ?_ ?_ ?_<;>(try intro hgd)<;>try exact Xy))<;>simp -implicitDefEqProofs (maxSteps:=2000000) [hP,hN,hw])|refine X2 ?_ ?_|(refine Xd ?_ ?_<;>intro hcd<;>try exact Xx))
end Go.Ab
namespace Go.Ab
open Go.Proofs
structure J where
 name : ByteArray
 kind : Int
 parent : Int
 ox : Int
 oy : Int
 oz : Int
 lo : Int
 hi : Int
 w : Int
 sp : Int
 ac : Int
 tq : Int
abbrev bT (j : J) : PV:=.val (.agg #[.string j.name,.int .i64 j.kind,.int .i64 j.parent,.int .i64 j.ox,.int .i64 j.oy,.int .i64 j.oz,.int .i64 j.lo,.int .i64 j.hi,.int .i64 j.w,.int .i64 j.sp,.int .i64 j.ac,.int .i64 j.tq])
def Nd (l : List Int) (n : Nat) : Nat:=nn l (nn l (nn l (nn l n)))
def mK (l : List Int) (n i : Nat) : Nat:=if 0 < i then nn l (nn l (Nd l n)) else Nd l n
def nK (l : List Int) (n : Nat) : Int:=NG (nx l (nn l (nn l n)) 8)
def NH (l : List Int) (n i : Nat) : Int:=if nK l n=0 then 0 else if nK l n=4∨nK l n=5 then wr (wr (-nx l (mK l n i) 3) * 65536) else wr ((wr (wr (-nx l (mK l n i) 5) * 65536)).tdiv 8)
def NI (l : List Int) (n i : Nat) : Int:=if nK l n=0 then 0 else if nK l n=4∨nK l n=5 then wr (nx l (nn l (mK l n i)) 4 * 32768) else wr (wr ((wr (wr (1+nx l (nn l (mK l n i)) 4) * 65536)).tdiv 8)+nx l (nn l (nn l (mK l n i))) 3)
def F9 (l : List Int) (n i : Nat) : Nat:=if nK l n=0 then mK l n i else if nK l n=4∨nK l n=5 then nn l (nn l (mK l n i)) else nn l (nn l (nn l (mK l n i)))
def qR (l : List Int) (n i : Nat) : J where
 name:=tX i
 kind:=nK l n
 parent:=if nx l (nn l (nn l (nn l n))) 4=1 then -1 else wr ((i : Int) - 1)
 ox:=if 0 < i then 131072 else 0
 oy:=if 0 < i then wr (wr (nx l (Nd l n) 5 - 2) * 32768) else 0
 oz:=if 0 < i then wr (wr (nx l (nn l (Nd l n)) 3 - 1) * 32768) else 0
 lo:=NH l n i
 hi:=NI l n i
 w:=wr (1+nx l n 4)
 sp:=65536
 ac:=wr (65536+nx l (nn l n) 3)
 tq:=327680
theorem O4 (l : List Int) (n i : Nat) (h3 : i < 3) (hn : n < 900000) : ab Tryz.prog 72 [.bx 0,.pv (Z i)] [ot l n] [ot l (F9 l n i)] (.pv (bT (qR l n i))):=by
 have hx:=ji l (nn l (nn l n)) (k:=8) (by decide) (by decide)
 have l1:=gx l n
 have l2:=gx l (nn l n)
 have l3:=gx l (nn l (nn l n))
 have l4:=gx l (nn l (nn l (nn l n)))
 have l5:=gx l (nn l (nn l (nn l (nn l n))))
 have l6:=gx l (nn l (nn l (nn l (nn l (nn l n)))))
 have l7:=gx l (nn l (nn l (nn l (nn l (nn l (nn l n))))))
 have l8:=gx l (nn l (nn l (nn l (nn l (nn l (nn l (nn l n)))))))
 have l9:=gx l (nn l (nn l (nn l (nn l (nn l (nn l (nn l (nn l n))))))))
 have hix:=Ov hx.1 hx.2
 refine yw Tryz.func72 rfl (by kernel_rfl) (by simp [Tryz.f72]) rfl (by intro i j h;rcases i with _|_|_|i<;>simp_all) ?_
 intro C hP hN
 simp only [Tryz.f72] at hN ⊢
 with_reducible repeat' (first|refine Sp.h ?_|((first|refine Ss.h ?_|refine Sc.h (GV i h3) ?_|refine Sc.h (sY l _ _ (by decide) (by omega)) ?_|refine Sc.h (Cs l _ _ (by decide) (by decide) (by omega)) ?_|(refine Sb.h ?_ ?_ ?_<;>(try intro hgd)<;>try exact Xy))<;>simp -implicitDefEqProofs (maxSteps:=2000000) [hP,hN,ot,hix,hx.1,hx.2])|refine X2 ?_ ?_|(refine Xd ?_ ?_<;>intro hcd<;>try exact Xx))
 all_goals (clear hix hP hN l1 l2 l3 l4 l5 l6 l7 l8 l9 hx h3 hn;simp_all [qR,F9,NH,NI,nK,mK,Nd])
end Go.Ab
namespace Go.Ab
open Go.Proofs
structure Ms where
 link : Int
 mass : Int
 px : Int
 py : Int
 pz : Int
abbrev bY (m : Ms) : PV:=.val (.agg #[.int .i64 m.link,.int .i64 m.mass,.int .i64 m.px,.int .i64 m.py,.int .i64 m.pz])
def vz (l : List Int) (m : Nat) : Nat→Nat
 |0=>m
 |i+1=>F9 l (vz l m i) i
theorem OM (l : List Int) (n i : Nat) : mK l n i≤n+6:=by
 have l1:=gx l n
 have l2:=gx l (nn l n)
 have l3:=gx l (nn l (nn l n))
 have l4:=gx l (nn l (nn l (nn l n)))
 have l5:=gx l (nn l (nn l (nn l (nn l n))))
 have l6:=gx l (nn l (nn l (nn l (nn l (nn l n)))))
 unfold mK Nd;split<;>omega
theorem Ow (l : List Int) (n i : Nat) : F9 l n i≤n+9:=by
 have h:=OM l n i
 have l1:=gx l (mK l n i)
 have l2:=gx l (nn l (mK l n i))
 have l3:=gx l (nn l (nn l (mK l n i)))
 unfold F9;split
 ·omega
 ·split<;>omega
theorem MY (l : List Int) (m i : Nat) : vz l m i≤m+9 * i:=by
 induction i with
 |zero=>simp [vz]
 |succ i ih=>have:=Ow l (vz l m i) i;simp only [vz];omega
def EH (l : List Int) (m k : Nat) : List J:=(List.range k).map fun i=>qR l (vz l m i) i
theorem N6 (l : List Int) (m k : Nat) : (EH l m (k+1)).map bT=(EH l m k).map bT++[bT (qR l (vz l m k) k)]:=by simp [EH,List.range_succ]
theorem Ar (l : List Int) (m k : Nat) : (EH l m k).length=k:=by simp [EH]
def ou (l : List Int) (m : Nat) : Nat→Nat
 |0=>m
 |i+1=>nn l (nn l (nn l (nn l (ou l m i))))
theorem NJ (l : List Int) (m i : Nat) : ou l m i≤m+4 * i:=by
 induction i with
 |zero=>simp [ou]
 |succ i ih=>
  have l1:=gx l (ou l m i)
  have l2:=gx l (nn l (ou l m i))
  have l3:=gx l (nn l (nn l (ou l m i)))
  have l4:=gx l (nn l (nn l (nn l (ou l m i))))
  simp only [ou];omega
def MU (l : List Int) (m : Nat) (n : Int) : Ms where
 link:=nx l m n
 mass:=wr (1+nx l (nn l m) 9000)
 px:=wr (wr (nx l (nn l (nn l m)) 7 - 3) * 32768)
 py:=0
 pz:=wr (wr (nx l (nn l (nn l (nn l m))) 5 - 2) * 32768)
def EI (l : List Int) (m : Nat) (n : Int) (k : Nat) : List Ms:=(List.range k).map fun i=>MU l (ou l m i) n
theorem N7 (l : List Int) (m : Nat) (n : Int) (k : Nat) : (EI l m n (k+1)).map bY=(EI l m n k).map bY++[bY (MU l (ou l m k) n)]:=by simp [EI,List.range_succ]
theorem Ga (l : List Int) (m : Nat) (n : Int) (k : Nat) : (EI l m n k).length=k:=by simp [EI]
abbrev mT : AV:=.pv (.val (.slice none 0 0))
def rN (l : List Int) (n : Nat) : Nat:=(1+nx l n 3).toNat
def rM (l : List Int) (n : Nat) : Nat:=vz l (nn l n) (rN l n)
def rK (l : List Int) (n : Nat) : Nat:=(nx l (rM l n) 3).toNat
def mY (l : List Int) (n : Nat) : List J:=EH l (nn l n) (rN l n)
def vQ (l : List Int) (n : Nat) : List Ms:=EI l (nn l (rM l n)) (rN l n) (rK l n)
def A0 (l : List Int) (n : Nat) : Nat:=ou l (nn l (rM l n)) (rK l n)
theorem Pl (l : List Int) (n : Nat) (hn : n < 100000) : ab Tryz.prog 37 [.bx 0] [ot l n] [ot l (A0 l n)] (.pv (.agg [.sl ((mY l n).map bT),.sl ((vQ l n).map bY)])):=by
 have hx:=ji l n (k:=3) (by decide) (by decide)
 have hw1 : IntKind.i64.wrap (1+nx l n 3)=((rN l n : Nat) : Int):=by rw [IntKind.wrap_i64,rN];omega
 have hrN : rN l n≤3∧0 < rN l n:=by unfold rN;omega
 have hl1:=gx l n
 refine yw Tryz.func37 rfl (by kernel_rfl) (by simp [Tryz.f37]) rfl (by intro i j h;rcases i with _|_|_|i<;>simp_all) ?_
 intro C hP hN
 simp only [Tryz.f37] at hN ⊢
 with_reducible repeat' (first|refine Sp.h ?_|((first|refine Wd ?_|refine Ss.h ?_|refine Sc.h (sY l n 3 (by decide) (by omega)) ?_|(refine Sb.h ?_ ?_ ?_<;>(try intro hgd)<;>try exact Xy))<;>simp -implicitDefEqProofs (maxSteps:=2000000) [hP,hN,ot,hw1]<;>try refine Ya ?_)|refine X2 ?_ ?_|(refine Xd ?_ ?_<;>intro hcd<;>try exact Xx))
 refine WP.loopN [20] (rN l n) (fun i st=>st.t 0=.ptr (pk 0) 0∧st.t 2=.ptr 2 0∧st.t 3=.ptr 3 0∧st.t 4=.pv (Z (rN l n))∧st.t 5=.pv (Z i)∧
  st.h (pk 0)=some (.box [.pv (zs l),.pv (Z (vz l (nn l n) i))] false false)∧st.h 2=some (.box [mT,mT] true false)∧st.h 20=none∧st.h 45=none∧st.h 46=none∧
  ((i=0∧st.h 3=some (.box [mT,mT] true false)∧st.h 21=none)∨(0 < i∧st.h 3=some (.box [.arr 21 i,mT] true false)∧st.h 21=some (.row 81 12 ((EH l (nn l n) i).map bT) 0)))) (by simp [vz]) ?_
 rintro i st hi ⟨h0,h2,h3,h4,h5,hp,hb2,hb20,hb45,hb46,hor⟩
 by_cases hlt : i < rN l n
 ·have hw : IntKind.i64.wrap ((i : Int)+1)=(i : Int)+1:=by rw [IntKind.wrap_i64];omega
  have hm:=MY l (nn l n) i
  have hJ:=N6 l (nn l n) i
  have hS : vz l (nn l n) (i+1)=F9 l (vz l (nn l n) i) i:=rfl
  rcases hor with ⟨hi0,hb3,hb21⟩|⟨hi0,hb3,hb21⟩
  ·subst hi0
   with_reducible repeat' (first|refine Sp.h ?_|((first|refine Wd ?_|refine Ss.h ?_|refine Sc.h (O4 l _ 0 (by omega) (by omega)) ?_|(refine Sb.h ?_ ?_ ?_<;>(try intro hgd)<;>try exact Xy))<;>simp -implicitDefEqProofs (maxSteps:=2000000) [hP,hN,h0,h2,h3,h4,h5,hp,hb2,hb20,hb45,hb46,hb3,hb21,hlt,hw,hS]<;>try refine Ya ?_)|refine X2 ?_ ?_|(refine Xd ?_ ?_<;>intro hcd<;>try exact Xx))
   exact ⟨by decide,by simp [EH]⟩
  ·have hz:=Ar l (nn l n) i
   with_reducible repeat' (first|refine Sp.h ?_|((first|refine Wd ?_|refine Ss.h ?_|refine Sc.h (O4 l _ i (by omega) (by omega)) ?_|(refine Sb.h ?_ ?_ ?_<;>(try intro hgd)<;>try exact Xy))<;>simp -implicitDefEqProofs (maxSteps:=2000000) [hP,hN,h0,h2,h3,h4,h5,hp,hb2,hb20,hb45,hb46,hb3,hb21,hlt,hw,hS,hz,show (i+1) * 104≤140737488355328 by omega,show i≤9223372036854775806 by omega]<;>try refine Ya ?_)|refine X2 ?_ ?_|(refine Xd ?_ ?_<;>intro hcd<;>try exact Xx))
   simp [hJ]
 ·have hir : i=rN l n:=by omega
  rcases hor with ⟨hi0,_⟩|⟨hi0,hb3,hb21⟩
  ·omega
  subst hir
  have hm:=MY l (nn l n) (rN l n)
  have hx3:=ji l (rM l n) (k:=3) (by decide) (by decide)
  have hk : nx l (vz l (nn l n) (rN l n)) 3=((rK l n : Nat) : Int):=by show nx l (rM l n) 3=_;unfold rK;omega
  have hk3 : rK l n < 3:=by unfold rK;omega
  have hz:=Ar l (nn l n) (rN l n)
  have hl2:=gx l (rM l n)
  have hmr : rM l n≤nn l n+9 * rN l n:=hm
  with_reducible repeat' (first|refine Sp.h ?_|((first|refine Wd ?_|refine Ss.h ?_|refine Sc.h (sY l _ 3 (by decide) (by omega)) ?_|(refine Sb.h ?_ ?_ ?_<;>(try intro hgd)<;>try exact Xy))<;>simp -implicitDefEqProofs (maxSteps:=2000000) [hP,hN,h0,h2,h3,h4,h5,hp,hb2,hb20,hb45,hb46,hb3,hb21,hlt,hk]<;>try refine Ya ?_)|refine X2 ?_ ?_|(refine Xd ?_ ?_<;>intro hcd<;>try exact Xx))
  refine WP.loopN [] (rK l n) (fun i st=>st.t 0=.ptr (pk 0) 0∧st.t 2=.ptr 2 0∧st.t 3=.ptr 3 0∧st.t 4=.pv (Z (rN l n))∧st.t 6=.pv (Z ((rK l n : Int) - i))∧
   st.h (pk 0)=some (.box [.pv (zs l),.pv (Z (ou l (nn l (rM l n)) i))] false false)∧st.h 2=some (.box [mT,mT] true false)∧st.h 45=none∧st.h 21=some (.row 81 12 ((mY l n).map bT) 0)∧
   ((i=0∧st.h 3=some (.box [.arr 21 (rN l n),mT] true false)∧st.h 46=none)∨(0 < i∧st.h 3=some (.box [.arr 21 (rN l n),.arr 46 i] true false)∧st.h 46=some (.row 146 5 ((EI l (nn l (rM l n)) (rN l n) i).map bY) 0)))) (by simp [h0,h2,h3,h4,hb2,hb45,hb46,hb3,hb21,ou,rM,mY]) ?_
  clear hb2 hb20 hb45 hb46 hb3 hb21 hp h0 h2 h3 h4 h5
  rintro i st hi ⟨h0,h2,h3,h4,h6,hp,hb2,hb45,hb21,hor⟩
  by_cases hlt : i < rK l n
  ·have hw : IntKind.i64.wrap ((rK l n : Int) - i - 1)=(rK l n : Int) - ((i : Int)+1):=by rw [IntKind.wrap_i64];omega
   have hgt : (0 : Int) < (rK l n : Int) - i:=by omega
   have hm2:=NJ l (nn l (rM l n)) i
   have l1:=gx l (ou l (nn l (rM l n)) i)
   have l2:=gx l (nn l (ou l (nn l (rM l n)) i))
   have l3:=gx l (nn l (nn l (ou l (nn l (rM l n)) i)))
   have hJ:=N7 l (nn l (rM l n)) (rN l n) i
   have hS : ou l (nn l (rM l n)) (i+1)=nn l (nn l (nn l (nn l (ou l (nn l (rM l n)) i)))):=rfl
   have hne : ((rN l n : Nat) : Int)≠0:=by omega
   rcases hor with ⟨hi0,hb3,hb46⟩|⟨hi0,hb3,hb46⟩
   ·subst hi0
    with_reducible repeat' (first|refine Sp.h ?_|((first|refine Wd ?_|refine Ss.h ?_|refine Sc.h (sY l _ _ hne (by omega)) ?_|refine Sc.h (sY l _ _ (by decide) (by omega)) ?_|refine Sc.h (Cs l _ _ (by decide) (by decide) (by omega)) ?_|(refine Sb.h ?_ ?_ ?_<;>(try intro hgd)<;>try exact Xy))<;>simp -implicitDefEqProofs (maxSteps:=2000000) [hP,hN,h0,h2,h3,h4,h6,hp,hb2,hb45,hb46,hb3,hb21,hlt,hw,hgt,hS]<;>try refine Ya ?_)|refine X2 ?_ ?_|(refine Xd ?_ ?_<;>intro hcd<;>try exact Xx))
    exact ⟨by rw [IntKind.wrap_i64];omega,by simp [EI,MU,ou]⟩
   ·have hz:=Ga l (nn l (rM l n)) (rN l n) i
    with_reducible repeat' (first|refine Sp.h ?_|((first|refine Wd ?_|refine Ss.h ?_|refine Sc.h (sY l _ _ hne (by omega)) ?_|refine Sc.h (sY l _ _ (by decide) (by omega)) ?_|refine Sc.h (Cs l _ _ (by decide) (by decide) (by omega)) ?_|(refine Sb.h ?_ ?_ ?_<;>(try intro hgd)<;>try exact Xy))<;>simp -implicitDefEqProofs (maxSteps:=2000000) [hP,hN,h0,h2,h3,h4,h6,hp,hb2,hb45,hb46,hb3,hb21,hlt,hw,hgt,hS,hz,show (i+1) * 40≤140737488355328 by omega,show i≤9223372036854775806 by omega]<;>try refine Ya ?_)|refine X2 ?_ ?_|(refine Xd ?_ ?_<;>intro hcd<;>try exact Xx))
    simp [hJ,MU]
  ·have hir : i=rK l n:=by omega
   subst hir
   have hzJ : (mY l n).length=rN l n:=Ar l (nn l n) (rN l n)
   have hzM:=Ga l (nn l (rM l n)) (rN l n) (rK l n)
   rcases hor with ⟨hi0,hb3,hb46⟩|⟨hi0,hb3,hb46⟩
   ·skip
    with_reducible repeat' (first|refine Sp.h ?_|((first|refine Wd ?_|refine Ss.h ?_|(refine Sb.h ?_ ?_ ?_<;>(try intro hgd)<;>try exact Xy))<;>simp -implicitDefEqProofs (maxSteps:=2000000) [hP,hN,h0,h2,h3,h4,h6,hp,hb2,hb45,hb46,hb3,hb21,hi0,hzJ]<;>try refine Ya ?_)|refine X2 ?_ ?_|(refine Xd ?_ ?_<;>intro hcd<;>try exact Xx))
    all_goals simp [A0,vQ,hi0,EI]
   ·skip
    with_reducible repeat' (first|refine Sp.h ?_|((first|refine Wd ?_|refine Ss.h ?_|(refine Sb.h ?_ ?_ ?_<;>(try intro hgd)<;>try exact Xy))<;>simp -implicitDefEqProofs (maxSteps:=2000000) [hP,hN,h0,h2,h3,h4,h6,hp,hb2,hb45,hb46,hb3,hb21,hzJ,hzM]<;>try refine Ya ?_)|refine X2 ?_ ?_|(refine Xd ?_ ?_<;>intro hcd<;>try exact Xx))
    all_goals simp [A0,vQ]
abbrev fx (js : List J) (ms : List Ms) : PV:=.agg [.sl (js.map bT),.sl (ms.map bY)]
end Go.Ab
namespace Go.Ab
open Go.Proofs
def vK (l : List Int) (m : Nat) : Nat:=if nx l m 6=0 then nn l m else if nx l m 6=1 then nn l m else nn l (nn l m)
def nq (l : List Int) : Nat→Nat
 |0=>0
 |i+1=>vK l (nq l i)
theorem E8 (l : List Int) (i : Nat) : nq l i≤2 * i:=by
 induction i with
 |zero=>simp [nq]
 |succ i ih=>
  have l1:=gx l (nq l i)
  have l2:=gx l (nn l (nq l i))
  simp only [nq,vK];split
  ·omega
  ·split<;>omega
def Ca (l : List Int) (m : Nat) (lo hi : Int) : Int:=if nx l m 6=0 then lo else if nx l m 6=1 then hi else wr (lo+nx l (nn l m) (hi - lo+1))
def jk (l : List Int) (js : List J) : List Int:=js.mapIdx fun i j=>Ca l (nq l i) j.lo j.hi
def yD (j : J) : Prop:=-1000000≤j.lo∧j.lo≤j.hi∧j.hi≤1000000
theorem Cb {l : List Int} {js : List J} {i : Nat} (hlt : i < js.length) : ((jk l js).map Z).take i++[Z (Ca l (nq l i) js[i].lo js[i].hi)]=((jk l js).map Z).take (i+1):=by
 rw [List.take_succ_eq_append_getElem (by simpa [jk] using hlt)];simp [jk]
theorem d9 (l : List Int) (js : List J) (ms : List Ms) (hl : js.length≤1000) (hj : ∀ j ∈ js,yD j) : ab Tryz.prog 9 [.pv (fx js ms),.pv (zs l)] [] [] (.pv (zs (jk l js))):=by
 refine Dp Tryz.func9 ?_
 intro C hP hN
 simp only [Tryz.f9] at hN ⊢
 with_reducible repeat' (first|refine Sp.h ?_|((first|refine Wh [6] ?_|refine Wi [6] ?_|refine Ss.h ?_|refine Sc.h (GU _) ?_|(refine Sb.h ?_ ?_ ?_<;>(try intro hgd)<;>try exact Xy))<;>simp -implicitDefEqProofs (maxSteps:=2000000) [hP,hN,ot]<;>try refine Ya ?_)|refine X2 ?_ ?_|(refine Xd ?_ ?_<;>intro hcd<;>try exact Xx))
 refine WP.loopN [] js.length (fun i st=>st.t 2=.ptr 2 0∧st.t 5=.ptr 11 0∧st.t 6=.arr 6 i∧st.t 7=.pv (Z i)∧st.h 2=some (.box [.pv (.sl (js.map bT)),.pv (.sl (ms.map bY))] true false)∧
  st.h 11=some (.box [.pv (zs l),.pv (Z (nq l i))] true false)∧st.h 6=some (.row 2 1 (((jk l js).map Z).take i) 0)) (by simp [nq]) ?_
 rintro i st hi ⟨h2,h5,h6,h7,hb2,hb11,hb6⟩
 have hzT : min i (jk l js).length=i:=by simp [jk];omega
 by_cases hlt : i < js.length
 ·have hw : IntKind.i64.wrap ((i : Int)+1)=(i : Int)+1:=by rw [IntKind.wrap_i64];omega
  have hm:=E8 l i
  have l1:=gx l (nq l i)
  have hs:=Cb (l:=l) hlt
  have hok:=hj js[i] (List.getElem_mem hlt)
  have hw2 : IntKind.i64.wrap (js[i].hi - js[i].lo)=js[i].hi - js[i].lo:=by unfold yD at hok;rw [IntKind.wrap_i64];omega
  have hw3 : IntKind.i64.wrap (js[i].hi - js[i].lo+1)=js[i].hi - js[i].lo+1:=by unfold yD at hok;rw [IntKind.wrap_i64];omega
  have hS : nq l (i+1)=vK l (nq l i):=rfl
  have hne : js[i].hi - js[i].lo+1≠0:=by unfold yD at hok;omega
  with_reducible repeat' (first|refine Sp.h ?_|((first|refine Wd ?_|refine Ss.h ?_|refine Sc.h (sY l _ 6 (by decide) (by omega)) ?_|refine Sc.h (sY l _ _ hne (by omega)) ?_|(refine Sb.h ?_ ?_ ?_<;>(try intro hgd)<;>try exact Xy))<;>simp -implicitDefEqProofs (maxSteps:=2000000) [hP,hN,h2,h5,h6,h7,hb2,hb11,hb6,hzT,hlt,hw,hw2,hw3,hS,show (i+1) * 8≤140737488355328 by omega,show i≤9223372036854775806 by omega]<;>try refine Ya ?_)|refine X2 ?_ ?_|(refine Xd ?_ ?_<;>intro hcd<;>try exact Xx))
  all_goals (rw [← hs];clear hs hj hb2 hb11 hb6 h2 h5 h6 h7 hP hN hw2 hw3 hw hS;simp_all [vK,Ca])
 ·skip
  with_reducible repeat' (first|refine Sp.h ?_|((first|refine Wd ?_|refine Ss.h ?_|(refine Sb.h ?_ ?_ ?_<;>(try intro hgd)<;>try exact Xy))<;>simp -implicitDefEqProofs (maxSteps:=2000000) [hP,hN,h2,h5,h6,h7,hb2,hb11,hb6,hzT,hlt]<;>try refine Ya ?_)|refine X2 ?_ ?_|(refine Xd ?_ ?_<;>intro hcd<;>try exact Xx))
  exact uP (by simp [jk]) hlt
theorem N8 (l : List Int) (n i : Nat) : yD (qR l n i)∧(qR l n i).lo≤0∧0≤(qR l n i).hi:=by
 have h1:=ji l (mK l n i) (k:=3) (by decide) (by decide)
 have h2:=ji l (mK l n i) (k:=5) (by decide) (by decide)
 have h3:=ji l (nn l (mK l n i)) (k:=4) (by decide) (by decide)
 have h4:=ji l (nn l (nn l (mK l n i))) (k:=3) (by decide) (by decide)
 have hlo : -1000000≤NH l n i∧NH l n i≤0:=by
  unfold NH
  generalize nx l (mK l n i) 3=a at *
  generalize nx l (mK l n i) 5=b at *
  split
  ·omega
  ·split
   ·simp only [wr,IntKind.wrap_i64];omega
   ·have : b=0∨b=1∨b=2∨b=3∨b=4:=by omega
    rcases this with rfl|rfl|rfl|rfl|rfl<;>decide
 have hhi : 0≤NI l n i∧NI l n i≤1000000:=by
  unfold NI
  generalize nx l (nn l (mK l n i)) 4=a at *
  generalize nx l (nn l (nn l (mK l n i))) 3=b at *
  split
  ·omega
  ·split
   ·simp only [wr,IntKind.wrap_i64];omega
   ·have ha : ∀ c : Int,0≤c→c < 4→0≤wr ((wr (wr (1+c) * 65536)).tdiv 8)∧wr ((wr (wr (1+c) * 65536)).tdiv 8)≤32768:=by
     intro c h0 h4
     have : c=0∨c=1∨c=2∨c=3:=by omega
     rcases this with rfl|rfl|rfl|rfl<;>decide
    have:=ha a h3.1 h3.2
    rw [aa (n:=wr ((wr (wr (1+a) * 65536)).tdiv 8)+b) (by omega) (by omega)];omega
 simp only [yD,qR];omega
theorem NK (l : List Int) (n : Nat) : ∀ j ∈ mY l n,yD j:=by
 intro j hj
 simp only [mY,EH,List.mem_map] at hj
 obtain ⟨i,_,rfl⟩:=hj
 exact (N8 l _ i).1
theorem Nf (l : List Int) (n : Nat) : (mY l n).length≤3∧0 < (mY l n).length:=by
 have hx:=ji l n (k:=3) (by decide) (by decide)
 rw [mY,Ar,rN];omega
theorem De (x : Int) {k : Int} (hk : 0 < k) (hk' : k < 4611686018427387904) : 0≤pJ x k∧pJ x k < k:=by
 have:=ji [x] 0 hk hk'
 simpa [nx] using this
end Go.Ab
namespace Go.Ab
open Go.Proofs
theorem tY {P : Program} (d : Nat) (t : TypeId) (a b : Bool) (h : P.underlying t=some .bool) : ag P (Op.equalIn (d+1) t (.bool a) (.bool b))=some (a==b):=by
 simp only [Op.equalIn,ae,fK h,Option.bind_some];rfl
def qP (x y : AV) : Option (Bool × Bool):=match x,y with
 |.pv (.val (.bool a)),.pv (.val (.bool b))=>some (a,b)
 |_,_=>none
def Cc (x y : AV) (fb : Option aT) : Option aT:=match qP x y with
 |some (a,b)=>some (.pv (.val (.bool (a==b))),[])
 |none=>fb
@[simp] theorem GW (a b : Bool) (fb : Option aT) : Cc (.pv (.val (.bool a))) (.pv (.val (.bool b))) fb=some (.pv (.val (.bool (a==b))),[]):=rfl
@[simp] theorem Jj {dst : Option Nat} {ty : TypeId} {pos : String} {aft : Array Edge} {g : Option (Nat × Bool)} {ρ : Operand→AV} (x y : Operand) :
 aG Tryz.prog ⟨dst,.binOp .eql 4 x y 4,ty,pos,aft,g⟩ ρ=Cc (ρ x) (ρ y) (dU Tryz.prog ⟨dst,.binOp .eql 4 x y 4,ty,pos,aft,g⟩ ρ):=by
 unfold Cc
 split
 ·rename_i a b h
  unfold qP at h
  split at h
  ·rename_i a' b' hx hy
   injection h with h;injection h with h1 h2;subst h1;subst h2
   refine bB (by simp [Op.operands,hx,hy,cE]) ?_
   unfold execOp
   simp only [(aK hx).2,(aK hy).2]
   have h1 : ag Tryz.prog (eqGuard .eql 4 x y (.bool a') (.bool b'))=some ():=by kernel_rfl
   have h2 : ag Tryz.prog (binOp .eql 4 (.bool a') (.bool b'))=some (.bool (a'==b')):=by
    simp only [binOp,ae]
    rw [show ag Tryz.prog (Op.equal 4 (.bool a') (.bool b'))=some (a'==b') from tY 9999 4 a' b' Tryz.underlying4]
    rfl
   simp only [ae,h1,h2,Option.bind_some];rfl
  ·cases h
 ·rfl
theorem HG (f : FuncId) (p : Int × Int→Int→Bool) (xs : List (Int × Int)) (ys : List (Int)) (hl : xs.length≤9223372036854775807) (hf : ∀ a b,ab Tryz.prog f [.pv (aJ a),.pv (Z b)] [] [] (.pv (B (p a b)))) : ab Tryz.prog 120 [.pv (.sl (xs.map aJ)),.pv (.sl (ys.map Z)),.pv (Fv f)] [] [] (.pv (B (decide (xs.length=ys.length) && bZ p xs ys))):=by
 refine Dp Tryz.func120 ?_
 intro C hP hN
 simp only [Tryz.f120] at hN ⊢
 by_cases he : xs.length=ys.length
 ·skip
  with_reducible repeat' (first|refine Sp.h ?_|((first|refine Wd ?_|refine Ss.h ?_|(refine Sb.h ?_ ?_ ?_<;>(try intro hgd)<;>try exact Xy))<;>simp -implicitDefEqProofs (maxSteps:=2000000) [hP,hN,he]<;>try refine Ya ?_)|refine X2 ?_ ?_|(refine Xd ?_ ?_<;>intro hcd<;>try exact Xx))
  refine WP.loopN [8] xs.length (fun i st=>st.t 0=.pv (.sl (xs.map aJ))∧st.t 1=.pv (.sl (ys.map Z))∧st.t 2=.pv (Fv f)∧st.t 14=.pv (.sl (xs.map aJ))∧st.t 15=.pv (Z xs.length)∧st.t 16=.pv (Z i)∧st.h 8=none∧df p xs ys i=true) (by simp [df,he]) ?_
  rintro i st hi ⟨h0,h1,h2,h14,h15,h16,hb,hq⟩
  by_cases hlt : i < xs.length
  ·have hw:=ak hlt hl
   have hlt' : i < ys.length:=by omega
   have hF : p xs[i] ys[i]=false→bZ p xs ys=false:=fL hlt hlt'
   have hS : p xs[i] ys[i]=true→df p xs ys (i+1)=true:=gn hlt hlt' hq
   with_reducible repeat' (first|refine Sp.h ?_|((first|refine Wd ?_|refine Ss.h ?_|refine Sc.h (hf _ _) ?_|(refine Sb.h ?_ ?_ ?_<;>(try intro hgd)<;>try exact Xy))<;>simp -implicitDefEqProofs (maxSteps:=2000000) [hP,hN,h0,h1,h2,h14,h15,h16,hb,hlt,hlt',hw]<;>try refine Ya ?_)|refine X2 ?_ ?_|(refine Xd ?_ ?_<;>intro hcd<;>try exact Xx))
   all_goals first|exact hF (by simpa using hcd)|simpa using hS (by simpa using hcd)
  ·skip
   with_reducible repeat' (first|refine Sp.h ?_|((first|refine Wd ?_|refine Ss.h ?_|(refine Sb.h ?_ ?_ ?_<;>(try intro hgd)<;>try exact Xy))<;>simp -implicitDefEqProofs (maxSteps:=2000000) [hP,hN,h0,h1,h2,h14,h15,h16,hb,hlt]<;>try refine Ya ?_)|refine X2 ?_ ?_|(refine Xd ?_ ?_<;>intro hcd<;>try exact Xx))
   all_goals simp [he,go hlt hq]
 ·skip
  with_reducible repeat' (first|refine Sp.h ?_|((first|refine Wd ?_|refine Ss.h ?_|(refine Sb.h ?_ ?_ ?_<;>(try intro hgd)<;>try exact Xy))<;>simp -implicitDefEqProofs (maxSteps:=2000000) [hP,hN,he]<;>try refine Ya ?_)|refine X2 ?_ ?_|(refine Xd ?_ ?_<;>intro hcd<;>try exact Xx))
  all_goals simp [he]
theorem HH (f : FuncId) (p : Int × Int→Int × Int→Bool) (xs : List (Int × Int)) (ys : List (Int × Int)) (hl : xs.length≤9223372036854775807) (hf : ∀ a b,ab Tryz.prog f [.pv (aJ a),.pv (aJ b)] [] [] (.pv (B (p a b)))) : ab Tryz.prog 123 [.pv (.sl (xs.map aJ)),.pv (.sl (ys.map aJ)),.pv (Fv f)] [] [] (.pv (B (decide (xs.length=ys.length) && bZ p xs ys))):=by
 refine Dp Tryz.func123 ?_
 intro C hP hN
 simp only [Tryz.f123] at hN ⊢
 by_cases he : xs.length=ys.length
 ·skip
  with_reducible repeat' (first|refine Sp.h ?_|((first|refine Wd ?_|refine Ss.h ?_|(refine Sb.h ?_ ?_ ?_<;>(try intro hgd)<;>try exact Xy))<;>simp -implicitDefEqProofs (maxSteps:=2000000) [hP,hN,he]<;>try refine Ya ?_)|refine X2 ?_ ?_|(refine Xd ?_ ?_<;>intro hcd<;>try exact Xx))
  refine WP.loopN [8] xs.length (fun i st=>st.t 0=.pv (.sl (xs.map aJ))∧st.t 1=.pv (.sl (ys.map aJ))∧st.t 2=.pv (Fv f)∧st.t 14=.pv (.sl (xs.map aJ))∧st.t 15=.pv (Z xs.length)∧st.t 16=.pv (Z i)∧st.h 8=none∧df p xs ys i=true) (by simp [df,he]) ?_
  rintro i st hi ⟨h0,h1,h2,h14,h15,h16,hb,hq⟩
  by_cases hlt : i < xs.length
  ·have hw:=ak hlt hl
   have hlt' : i < ys.length:=by omega
   have hF : p xs[i] ys[i]=false→bZ p xs ys=false:=fL hlt hlt'
   have hS : p xs[i] ys[i]=true→df p xs ys (i+1)=true:=gn hlt hlt' hq
   with_reducible repeat' (first|refine Sp.h ?_|((first|refine Wd ?_|refine Ss.h ?_|refine Sc.h (hf _ _) ?_|(refine Sb.h ?_ ?_ ?_<;>(try intro hgd)<;>try exact Xy))<;>simp -implicitDefEqProofs (maxSteps:=2000000) [hP,hN,h0,h1,h2,h14,h15,h16,hb,hlt,hlt',hw]<;>try refine Ya ?_)|refine X2 ?_ ?_|(refine Xd ?_ ?_<;>intro hcd<;>try exact Xx))
   all_goals first|exact hF (by simpa using hcd)|simpa using hS (by simpa using hcd)
  ·skip
   with_reducible repeat' (first|refine Sp.h ?_|((first|refine Wd ?_|refine Ss.h ?_|(refine Sb.h ?_ ?_ ?_<;>(try intro hgd)<;>try exact Xy))<;>simp -implicitDefEqProofs (maxSteps:=2000000) [hP,hN,h0,h1,h2,h14,h15,h16,hb,hlt]<;>try refine Ya ?_)|refine X2 ?_ ?_|(refine Xd ?_ ?_<;>intro hcd<;>try exact Xx))
   all_goals simp [he,go hlt hq]
 ·skip
  with_reducible repeat' (first|refine Sp.h ?_|((first|refine Wd ?_|refine Ss.h ?_|(refine Sb.h ?_ ?_ ?_<;>(try intro hgd)<;>try exact Xy))<;>simp -implicitDefEqProofs (maxSteps:=2000000) [hP,hN,he]<;>try refine Ya ?_)|refine X2 ?_ ?_|(refine Xd ?_ ?_<;>intro hcd<;>try exact Xx))
  all_goals simp [he]
theorem HI (f : FuncId) (g : Int × Int→Int→Int) (xs : List (Int × Int)) (ys : List (Int)) (hl : xs.length≤16777216) (he : xs.length=ys.length) (hf : ∀ a b,ab Tryz.prog f [.pv (aJ a),.pv (Z b)] [] [] (.pv (Z (g a b)))) : ab Tryz.prog 127 [.pv (.sl (xs.map aJ)),.pv (.sl (ys.map Z)),.pv (Fv f)] [] [] (.pv (.sl ((List.zipWith g xs ys).map Z))):=by
 refine Dp Tryz.func127 ?_
 intro C hP hN
 simp only [Tryz.f127] at hN ⊢
 with_reducible repeat' (first|refine Sp.h ?_|((first|refine Wd ?_|refine Ss.h ?_|(refine Sb.h ?_ ?_ ?_<;>(try intro hgd)<;>try exact Xy))<;>simp -implicitDefEqProofs (maxSteps:=2000000) [hP,hN,hl,show (8 : Int) * xs.length≤281474976710656 by omega,show (xs.length : Int)≤9223372036854775807 by omega]<;>try refine Ya ?_)|refine X2 ?_ ?_|(refine Xd ?_ ?_<;>intro hcd<;>try exact Xx))
 refine WP.loopN [9] xs.length (fun i st=>st.t 0=.pv (.sl (xs.map aJ))∧st.t 1=.pv (.sl (ys.map Z))∧st.t 2=.pv (Fv f)∧st.t 7=.arr 12 xs.length∧st.t 13=.pv (.sl (xs.map aJ))∧st.t 14=.pv (Z xs.length)∧st.t 15=.pv (Z i)∧st.h 9=none∧
  ∃ L,st.h 12=some (.row 2 1 L 0)∧L.length=xs.length∧∀ j,j < i→L[j]?=((List.zipWith g xs ys).map Z)[j]?) (by simp) ?_
 rintro i st hi ⟨h0,h1,h2,h7,h13,h14,h15,hb,L,hL,hLl,hq⟩
 have hT : L.length=((List.zipWith g xs ys).map Z).length:=by simp [hLl,he]
 by_cases hlt : i < xs.length
 ·have hw:=ak hlt (gD hl)
  have hlt' : i < ys.length:=by omega
  have hltL : i < L.length:=by omega
  with_reducible repeat' (first|refine Sp.h ?_|((first|refine Wd ?_|refine Ss.h ?_|refine Sc.h (hf _ _) ?_|(refine Sb.h ?_ ?_ ?_<;>(try intro hgd)<;>try exact Xy))<;>simp -implicitDefEqProofs (maxSteps:=2000000) [hP,hN,h0,h1,h2,h7,h13,h14,h15,hb,hL,hLl,hlt,hlt',hltL,hw]<;>try refine Ya ?_)|refine X2 ?_ ?_|(refine Xd ?_ ?_<;>intro hcd<;>try exact Xx))
  simpa using wy hT hq (v:=Z (g xs[i] ys[i])) (by simp [List.getElem?_zipWith,hlt,hlt'])
 ·skip
  with_reducible repeat' (first|refine Sp.h ?_|((first|refine Wd ?_|refine Ss.h ?_|(refine Sb.h ?_ ?_ ?_<;>(try intro hgd)<;>try exact Xy))<;>simp -implicitDefEqProofs (maxSteps:=2000000) [hP,hN,h0,h1,h2,h7,h13,h14,h15,hb,hL,hLl,hlt]<;>try refine Ya ?_)|refine X2 ?_ ?_|(refine Xd ?_ ?_<;>intro hcd<;>try exact Xx))
  simpa using wz hT hq (by simp;omega)
def i7 (x : Int × Int) (y : Int) : Int:=min (max y x.1) x.2
theorem HJ (x : Int × Int) (y : Int) : ab Tryz.prog 128 [.pv (aJ x),.pv (Z y)] [] [] (.pv (Z (i7 x y))):=by
 refine Dp Tryz.func128 ?_
 intro C hP hN
 simp only [Tryz.f128] at hN ⊢
 with_reducible repeat' (first|refine Sp.h ?_|((first|refine Ss.h ?_|(refine Sb.h ?_ ?_ ?_<;>(try intro hgd)<;>try exact Xy))<;>simp -implicitDefEqProofs (maxSteps:=2000000) [hP,hN])|refine X2 ?_ ?_|(refine Xd ?_ ?_<;>intro hcd<;>try exact Xx))
 all_goals (first|(simp_all [i7];done)|((try simp_all [i7])<;>(try omega)<;>grind))
def fc (xs : List (Int × Int)) (ys : List Int) : List Int:=if decide (xs.length=ys.length) && aD vI xs then List.zipWith i7 xs ys else []
theorem Jk (xs : List (Int × Int)) (ys : List Int) (hl : xs.length≤16777216) : ab Tryz.prog 93 [.pv (iv xs),.pv (zs ys)] [] [] (.pv (zs (fc xs ys))):=by
 refine Dp Tryz.func93 ?_
 intro C hP hN
 simp only [Tryz.f93] at hN ⊢
 by_cases he : xs.length=ys.length
 ·cases hv : aD vI xs with
  |false=>
   with_reducible repeat' (first|refine Sp.h ?_|((first|refine Ss.h ?_|refine Sc.h (pL _ (gD hl)) ?_|(refine Sb.h ?_ ?_ ?_<;>(try intro hgd)<;>try exact Xy))<;>simp -implicitDefEqProofs (maxSteps:=2000000) [hP,hN,he,hv])|refine X2 ?_ ?_|(refine Xd ?_ ?_<;>intro hcd<;>try exact Xx))
   all_goals simp [fc,he,hv]
  |true=>
   with_reducible repeat' (first|refine Sp.h ?_|((first|refine Ss.h ?_|refine Sc.h (pL _ (gD hl)) ?_|refine Sc.h (HI _ _ _ _ hl he HJ) ?_|(refine Sb.h ?_ ?_ ?_<;>(try intro hgd)<;>try exact Xy))<;>simp -implicitDefEqProofs (maxSteps:=2000000) [hP,hN,he,hv])|refine X2 ?_ ?_|(refine Xd ?_ ?_<;>intro hcd<;>try exact Xx))
   all_goals simp [fc,he,hv]
 ·skip
  with_reducible repeat' (first|refine Sp.h ?_|((first|refine Ss.h ?_|refine Sc.h (pL _ (gD hl)) ?_|(refine Sb.h ?_ ?_ ?_<;>(try intro hgd)<;>try exact Xy))<;>simp -implicitDefEqProofs (maxSteps:=2000000) [hP,hN,he])|refine X2 ?_ ?_|(refine Xd ?_ ?_<;>intro hcd<;>try exact Xx))
  all_goals simp [fc,he]
theorem HK (a : Int × Int) (b : Int) : ab Tryz.prog 121 [.pv (aJ a),.pv (Z b)] [] [] (.pv (B (j9 a b))):=HB a.1 a.2 b
def cI (xs : List (Int × Int)) (ys : List Int) : Bool:=decide (xs.length=ys.length) && bZ j9 xs ys
def kc (xs ys : List (Int × Int)) : Bool:=decide (xs.length=ys.length) && bZ cW xs ys
def dG (x y : Int × Int) : Bool:=am x.1 x.2 && am y.1 y.2 && decide (max x.1 y.1≤min x.2 y.2)
def bj (xs ys : List (Int × Int)) : Bool:=decide (xs.length=ys.length) && bZ dG xs ys
theorem DB (xs : List (Int × Int)) (ys : List Int) (hl : xs.length≤9223372036854775807) : ab Tryz.prog 86 [.pv (iv xs),.pv (zs ys)] [] [] (.pv (B (cI xs ys))):=by
 refine Dp Tryz.func86 ?_
 intro C hP hN
 simp only [Tryz.f86] at hN ⊢
 with_reducible repeat' (first|refine Sp.h ?_|((first|refine Ss.h ?_|refine Sc.h (HG _ j9 _ _ hl HK) ?_|(refine Sb.h ?_ ?_ ?_<;>(try intro hgd)<;>try exact Xy))<;>simp -implicitDefEqProofs (maxSteps:=2000000) [hP,hN])|refine X2 ?_ ?_|(refine Xd ?_ ?_<;>intro hcd<;>try exact Xx))
 all_goals (first|(simp_all [cI];done)|((try simp_all [cI])<;>(try omega)<;>grind))
theorem HL (x y : Int × Int) : ab Tryz.prog 124 [.pv (aJ x),.pv (aJ y)] [] [] (.pv (B (dG x y))):=by
 refine Dp Tryz.func124 ?_
 intro C hP hN
 simp only [Tryz.f124] at hN ⊢
 cases h : dG x y with
 |true=>
  have h' : (am x.1 x.2 && am y.1 y.2 && decide (max x.1 y.1≤min x.2 y.2))=true:=h
  with_reducible repeat' (first|refine Sp.h ?_|((first|refine Ss.h ?_|refine Sc.h (E6 _ _ _ _) ?_|(refine Sb.h ?_ ?_ ?_<;>(try intro hgd)<;>try exact Xy))<;>simp -implicitDefEqProofs (maxSteps:=2000000) [hP,hN,h'])|refine X2 ?_ ?_|(refine Xd ?_ ?_<;>intro hcd<;>try exact Xx))
 |false=>
  have h' : (am x.1 x.2 && am y.1 y.2 && decide (max x.1 y.1≤min x.2 y.2))=false:=h
  with_reducible repeat' (first|refine Sp.h ?_|((first|refine Ss.h ?_|refine Sc.h (E6 _ _ _ _) ?_|(refine Sb.h ?_ ?_ ?_<;>(try intro hgd)<;>try exact Xy))<;>simp -implicitDefEqProofs (maxSteps:=2000000) [hP,hN,h'])|refine X2 ?_ ?_|(refine Xd ?_ ?_<;>intro hcd<;>try exact Xx))
theorem GX (xs ys : List (Int × Int)) (hl : xs.length≤9223372036854775807) : ab Tryz.prog 88 [.pv (iv xs),.pv (iv ys)] [] [] (.pv (B (bj xs ys))):=by
 refine Dp Tryz.func88 ?_
 intro C hP hN
 simp only [Tryz.f88] at hN ⊢
 with_reducible repeat' (first|refine Sp.h ?_|((first|refine Ss.h ?_|refine Sc.h (HH _ dG _ _ hl HL) ?_|(refine Sb.h ?_ ?_ ?_<;>(try intro hgd)<;>try exact Xy))<;>simp -implicitDefEqProofs (maxSteps:=2000000) [hP,hN])|refine X2 ?_ ?_|(refine Xd ?_ ?_<;>intro hcd<;>try exact Xx))
 all_goals (first|(simp_all [bj];done)|((try simp_all [bj])<;>(try omega)<;>grind))
end Go.Ab
