/- The contracts and facts that the laws of this seat need, in one text (Ty, CfA). -/
import Derived.Test.YtnpgedgeajnfbaaGreatW3
import Derived.Test.YtnpgedgeajnfbaaGreatProg
set_option linter.all false
set_option maxHeartbeats 16000000
namespace Go.Ab
open Go.Proofs
@[simp] theorem D9 : aj Tryz.prog 2=some ⟨1,(some (.int .i64 0)),.one⟩:=by kernel_rfl
@[simp] theorem Ea : bk Tryz.prog 2=some .i64:=by kernel_rfl
@[simp] theorem Eb : aj Tryz.prog 3=some ⟨1,(some (.int .i64 0)),.one⟩:=by kernel_rfl
@[simp] theorem Ec : bk Tryz.prog 3=some .i64:=by kernel_rfl
@[simp] theorem Ed : aj Tryz.prog 4=some ⟨1,(some (.bool false)),.one⟩:=by kernel_rfl
@[simp] theorem LQ : aj Tryz.prog 5=some ⟨1,(some (.int .u8 0)),.one⟩:=by kernel_rfl
@[simp] theorem LR : bk Tryz.prog 5=some .u8:=by kernel_rfl
@[simp] theorem LS : aj Tryz.prog 6=some ⟨1,(some (.int .u8 0)),.one⟩:=by kernel_rfl
@[simp] theorem LT : bk Tryz.prog 6=some .u8:=by kernel_rfl
@[simp] theorem LU : aj Tryz.prog 7=some ⟨4,(some (.agg #[.int .i64 0,.int .i64 0,.bool false,.int .u8 0])),.struct [(0,1),(1,1),(2,1),(3,1)]⟩:=by kernel_rfl
@[simp] theorem LV : aj Tryz.prog 8=some ⟨4,(some (.agg #[.int .i64 0,.int .i64 0,.bool false,.int .u8 0])),.struct [(0,1),(1,1),(2,1),(3,1)]⟩:=by kernel_rfl
@[simp] theorem El : aj Tryz.prog 9=some ⟨1,(some (.string ByteArray.empty)),.one⟩:=by kernel_rfl
@[simp] theorem Em : db Tryz.prog 9=some none:=by kernel_rfl
@[simp] theorem K0 : aj Tryz.prog 10=some ⟨1,(some (.string ByteArray.empty)),.one⟩:=by kernel_rfl
@[simp] theorem K1 : db Tryz.prog 10=some none:=by kernel_rfl
@[simp] theorem K2 : aj Tryz.prog 11=some ⟨1,(some (.string ByteArray.empty)),.one⟩:=by kernel_rfl
@[simp] theorem K3 : db Tryz.prog 11=some none:=by kernel_rfl
@[simp] theorem K4 : aj Tryz.prog 12=some ⟨1,(some (.int .u64 0)),.one⟩:=by kernel_rfl
@[simp] theorem K5 : bk Tryz.prog 12=some .u64:=by kernel_rfl
@[simp] theorem K6 : aj Tryz.prog 13=some ⟨2,(some (.agg #[.string ByteArray.empty,.int .u64 0])),.struct [(0,1),(1,1)]⟩:=by kernel_rfl
@[simp] theorem K7 : aj Tryz.prog 14=some ⟨2,(some (.agg #[.string ByteArray.empty,.int .u64 0])),.struct [(0,1),(1,1)]⟩:=by kernel_rfl
@[simp] theorem K8 : aj Tryz.prog 15=some ⟨1,(some (.pointer none)),.one⟩:=by kernel_rfl
@[simp] theorem K9 : aj Tryz.prog 16=some ⟨1,(some (.pointer none)),.one⟩:=by kernel_rfl
@[simp] theorem La : aj Tryz.prog 17=some ⟨1,(some (.pointer none)),.one⟩:=by kernel_rfl
@[simp] theorem Lb : aj Tryz.prog 18=some ⟨1,(some (.agg #[.pointer none])),.struct [(0,1)]⟩:=by kernel_rfl
@[simp] theorem Lc : aj Tryz.prog 19=some ⟨1,(some (.agg #[.pointer none])),.struct [(0,1)]⟩:=by kernel_rfl
@[simp] theorem Ld : aj Tryz.prog 21=some ⟨1,(some (.int .i32 0)),.one⟩:=by kernel_rfl
@[simp] theorem Le : bk Tryz.prog 21=some .i32:=by kernel_rfl
@[simp] theorem Dl : aj Tryz.prog 22=some ⟨1,(some (.slice none 0 0)),.slice 58 12 104 (some (.agg #[.string ByteArray.empty,.int .i64 0,.int .i64 0,.int .i64 0,.int .i64 0,.int .i64 0,.int .i64 0,.int .i64 0,.int .i64 0,.int .i64 0,.int .i64 0,.int .i64 0]))⟩:=by kernel_rfl
@[simp] theorem Dm : aj Tryz.prog 23=some ⟨1,(some (.slice none 0 0)),.slice 98 5 40 (some (.agg #[.int .i64 0,.int .i64 0,.int .i64 0,.int .i64 0,.int .i64 0]))⟩:=by kernel_rfl
@[simp] theorem Dn : aj Tryz.prog 24=some ⟨2,(some (.agg #[.slice none 0 0,.slice none 0 0])),.struct [(0,1),(1,1)]⟩:=by kernel_rfl
@[simp] theorem Do : aj Tryz.prog 25=some ⟨2,(some (.agg #[.slice none 0 0,.slice none 0 0])),.struct [(0,1),(1,1)]⟩:=by kernel_rfl
@[simp] theorem Lf : aj Tryz.prog 26=some ⟨1,(some (.slice none 0 0)),.slice 53 3 40 (some (.agg #[.int .i64 0,.int .i64 0,.slice none 0 0]))⟩:=by kernel_rfl
@[simp] theorem Lg : aj Tryz.prog 27=some ⟨1,(some (.slice none 0 0)),.slice 56 2 16 (some (.agg #[.int .i64 0,.int .i64 0]))⟩:=by kernel_rfl
@[simp] theorem Lh : aj Tryz.prog 28=some ⟨4,(some (.agg #[.slice none 0 0,.slice none 0 0,.slice none 0 0,.slice none 0 0])),.struct [(0,2),(2,1),(3,1)]⟩:=by kernel_rfl
@[simp] theorem Li : aj Tryz.prog 29=some ⟨4,(some (.agg #[.slice none 0 0,.slice none 0 0,.slice none 0 0,.slice none 0 0])),.struct [(0,2),(2,1),(3,1)]⟩:=by kernel_rfl
@[simp] theorem Du : aj Tryz.prog 30=some ⟨1,(some (.slice none 0 0)),.slice 60 2 16 (some (.agg #[.int .i64 0,.int .i64 0]))⟩:=by kernel_rfl
@[simp] theorem Lj : aj Tryz.prog 31=some ⟨1,(some (.slice none 0 0)),.slice 51 3 24 (some (.agg #[.int .i64 0,.int .i64 0,.int .i64 0]))⟩:=by kernel_rfl
@[simp] theorem Dw : aj Tryz.prog 32=some ⟨1,(some (.slice none 0 0)),.slice 3 1 8 (some (.int .i64 0))⟩:=by kernel_rfl
@[simp] theorem Dx : aj Tryz.prog 37=some ⟨1,(some (.slice none 0 0)),.slice 2 1 8 (some (.int .i64 0))⟩:=by kernel_rfl
@[simp] theorem Lk : aj Tryz.prog 38=some ⟨3,(some (.agg #[.int .i64 0,.slice none 0 0,.slice none 0 0])),.struct [(0,1),(1,1),(2,1)]⟩:=by kernel_rfl
@[simp] theorem Ll : aj Tryz.prog 39=some ⟨3,(some (.agg #[.int .i64 0,.slice none 0 0,.slice none 0 0])),.struct [(0,1),(1,1),(2,1)]⟩:=by kernel_rfl
@[simp] theorem Lm : aj Tryz.prog 40=some ⟨5,(some (.agg #[.int .i64 0,.slice none 0 0,.int .i64 0,.slice none 0 0,.slice none 0 0])),.struct [(0,1),(1,1),(2,3)]⟩:=by kernel_rfl
@[simp] theorem Ln : aj Tryz.prog 41=some ⟨5,(some (.agg #[.int .i64 0,.slice none 0 0,.int .i64 0,.slice none 0 0,.slice none 0 0])),.struct [(0,1),(1,1),(2,3)]⟩:=by kernel_rfl
@[simp] theorem Lp : aj Tryz.prog 45=some ⟨1,(some (.pointer none)),.one⟩:=by kernel_rfl
@[simp] theorem DD : aj Tryz.prog 50=some ⟨3,(some (.agg #[.int .i64 0,.int .i64 0,.int .i64 0])),.array 3 1⟩:=by kernel_rfl
@[simp] theorem DE : db Tryz.prog 50=some (some 3):=by kernel_rfl
@[simp] theorem DF : aj Tryz.prog 51=some ⟨3,(some (.agg #[.int .i64 0,.int .i64 0,.int .i64 0])),.array 3 1⟩:=by kernel_rfl
@[simp] theorem DG : db Tryz.prog 51=some (some 3):=by kernel_rfl
@[simp] theorem Lq : aj Tryz.prog 52=some ⟨3,(some (.agg #[.int .i64 0,.int .i64 0,.slice none 0 0])),.struct [(0,1),(1,1),(2,1)]⟩:=by kernel_rfl
@[simp] theorem Lr : aj Tryz.prog 53=some ⟨3,(some (.agg #[.int .i64 0,.int .i64 0,.slice none 0 0])),.struct [(0,1),(1,1),(2,1)]⟩:=by kernel_rfl
@[simp] theorem Ls : aj Tryz.prog 55=some ⟨2,(some (.agg #[.int .i64 0,.int .i64 0])),.struct [(0,1),(1,1)]⟩:=by kernel_rfl
@[simp] theorem Lt : aj Tryz.prog 56=some ⟨2,(some (.agg #[.int .i64 0,.int .i64 0])),.struct [(0,1),(1,1)]⟩:=by kernel_rfl
@[simp] theorem DL : aj Tryz.prog 57=some ⟨12,(some (.agg #[.string ByteArray.empty,.int .i64 0,.int .i64 0,.int .i64 0,.int .i64 0,.int .i64 0,.int .i64 0,.int .i64 0,.int .i64 0,.int .i64 0,.int .i64 0,.int .i64 0])),.struct [(0,1),(1,1),(2,1),(3,3),(6,1),(7,1),(8,1),(9,1),(10,1),(11,1)]⟩:=by kernel_rfl
@[simp] theorem DM : aj Tryz.prog 58=some ⟨12,(some (.agg #[.string ByteArray.empty,.int .i64 0,.int .i64 0,.int .i64 0,.int .i64 0,.int .i64 0,.int .i64 0,.int .i64 0,.int .i64 0,.int .i64 0,.int .i64 0,.int .i64 0])),.struct [(0,1),(1,1),(2,1),(3,3),(6,1),(7,1),(8,1),(9,1),(10,1),(11,1)]⟩:=by kernel_rfl
@[simp] theorem DN : aj Tryz.prog 59=some ⟨2,(some (.agg #[.int .i64 0,.int .i64 0])),.struct [(0,1),(1,1)]⟩:=by kernel_rfl
@[simp] theorem DO : aj Tryz.prog 60=some ⟨2,(some (.agg #[.int .i64 0,.int .i64 0])),.struct [(0,1),(1,1)]⟩:=by kernel_rfl
@[simp] theorem Lu : aj Tryz.prog 65=some ⟨1,(some (.slice none 0 0)),.slice 107 2 16 (some (.agg #[.int .i64 0,.int .i64 0]))⟩:=by kernel_rfl
@[simp] theorem Lv : aj Tryz.prog 66=some ⟨1,(some (.slice none 0 0)),.slice 71 1 24 (some (.slice none 0 0))⟩:=by kernel_rfl
@[simp] theorem Lw : aj Tryz.prog 67=some ⟨3,(some (.agg #[.slice none 0 0,.slice none 0 0,.slice none 0 0])),.struct [(0,1),(1,1),(2,1)]⟩:=by kernel_rfl
@[simp] theorem Lx : aj Tryz.prog 68=some ⟨3,(some (.agg #[.slice none 0 0,.slice none 0 0,.slice none 0 0])),.struct [(0,1),(1,1),(2,1)]⟩:=by kernel_rfl
@[simp] theorem Ly : aj Tryz.prog 71=some ⟨1,(some (.slice none 0 0)),.slice 124 6 48 (some (.agg #[.int .i64 0,.int .i64 0,.int .i64 0,.int .i64 0,.int .i64 0,.int .i64 0]))⟩:=by kernel_rfl
@[simp] theorem Lz : aj Tryz.prog 72=some ⟨4,(some (.agg #[.slice none 0 0,.slice none 0 0,.int .i64 0,.int .i64 0])),.struct [(0,1),(1,1),(2,1),(3,1)]⟩:=by kernel_rfl
@[simp] theorem LC : aj Tryz.prog 73=some ⟨4,(some (.agg #[.slice none 0 0,.slice none 0 0,.int .i64 0,.int .i64 0])),.struct [(0,1),(1,1),(2,1),(3,1)]⟩:=by kernel_rfl
@[simp] theorem LD : aj Tryz.prog 77=some ⟨7,(some (.agg #[.int .i64 0,.int .i64 0,.int .i64 0,.int .i64 0,.slice none 0 0,.slice none 0 0,.int .i64 0])),.struct [(0,1),(1,3),(4,1),(5,1),(6,1)]⟩:=by kernel_rfl
@[simp] theorem LE : aj Tryz.prog 78=some ⟨7,(some (.agg #[.int .i64 0,.int .i64 0,.int .i64 0,.int .i64 0,.slice none 0 0,.slice none 0 0,.int .i64 0])),.struct [(0,1),(1,3),(4,1),(5,1),(6,1)]⟩:=by kernel_rfl
@[simp] theorem LF : aj Tryz.prog 83=some ⟨3,(some (.agg #[.int .i64 0,.slice none 0 0,.slice none 0 0])),.struct [(0,3)]⟩:=by kernel_rfl
@[simp] theorem LG : aj Tryz.prog 84=some ⟨3,(some (.agg #[.int .i64 0,.slice none 0 0,.slice none 0 0])),.struct [(0,3)]⟩:=by kernel_rfl
@[simp] theorem LH : aj Tryz.prog 85=some ⟨1,(some (.agg #[.slice none 0 0])),.struct [(0,1)]⟩:=by kernel_rfl
@[simp] theorem LI : aj Tryz.prog 86=some ⟨1,(some (.agg #[.slice none 0 0])),.struct [(0,1)]⟩:=by kernel_rfl
@[simp] theorem LJ : aj Tryz.prog 87=some ⟨1,(some (.slice none 0 0)),.slice 92 2 32 (some (.agg #[.slice none 0 0,.int .i64 0]))⟩:=by kernel_rfl
@[simp] theorem LK : aj Tryz.prog 91=some ⟨2,(some (.agg #[.slice none 0 0,.int .i64 0])),.struct [(0,1),(1,1)]⟩:=by kernel_rfl
@[simp] theorem LN : aj Tryz.prog 92=some ⟨2,(some (.agg #[.slice none 0 0,.int .i64 0])),.struct [(0,1),(1,1)]⟩:=by kernel_rfl
@[simp] theorem LO : aj Tryz.prog 94=some ⟨2,(some (.agg #[.slice none 0 0,.int .i64 0])),.struct [(0,1),(1,1)]⟩:=by kernel_rfl
@[simp] theorem LP : aj Tryz.prog 95=some ⟨2,(some (.agg #[.slice none 0 0,.int .i64 0])),.struct [(0,1),(1,1)]⟩:=by kernel_rfl
@[simp] theorem D7 : aj Tryz.prog 97=some ⟨5,(some (.agg #[.int .i64 0,.int .i64 0,.int .i64 0,.int .i64 0,.int .i64 0])),.struct [(0,1),(1,1),(2,3)]⟩:=by kernel_rfl
@[simp] theorem D8 : aj Tryz.prog 98=some ⟨5,(some (.agg #[.int .i64 0,.int .i64 0,.int .i64 0,.int .i64 0,.int .i64 0])),.struct [(0,1),(1,1),(2,3)]⟩:=by kernel_rfl
@[simp] theorem JL : aj Tryz.prog 102=some ⟨1,(some (.int .i64 0)),.one⟩:=by kernel_rfl
@[simp] theorem JM : bk Tryz.prog 102=some .i64:=by kernel_rfl
@[simp] theorem JN : aj Tryz.prog 107=some ⟨2,(some (.agg #[.int .i64 0,.int .i64 0])),.struct [(0,1),(1,1)]⟩:=by kernel_rfl
@[simp] theorem JO : aj Tryz.prog 109=some ⟨1,(some (.nilFunc)),.one⟩:=by kernel_rfl
@[simp] theorem JP : aj Tryz.prog 113=some ⟨2,(some (.agg #[.slice none 0 0,.slice none 0 0])),.struct [(0,1),(1,1)]⟩:=by kernel_rfl
@[simp] theorem JQ : aj Tryz.prog 114=some ⟨2,(some (.agg #[.slice none 0 0,.slice none 0 0])),.struct [(0,1),(1,1)]⟩:=by kernel_rfl
@[simp] theorem JR : aj Tryz.prog 116=some ⟨2,(some (.agg #[.slice none 0 0,.slice none 0 0])),.struct [(0,2)]⟩:=by kernel_rfl
@[simp] theorem JS : aj Tryz.prog 117=some ⟨2,(some (.agg #[.slice none 0 0,.slice none 0 0])),.struct [(0,2)]⟩:=by kernel_rfl
@[simp] theorem JT : aj Tryz.prog 118=some ⟨2,(some (.agg #[.slice none 0 0,.slice none 0 0])),.struct [(0,2)]⟩:=by kernel_rfl
@[simp] theorem JU : aj Tryz.prog 119=some ⟨8,(some (.agg #[.slice none 0 0,.slice none 0 0,.slice none 0 0,.slice none 0 0,.int .i64 0,.int .i64 0,.int .i64 0,.int .i64 0])),.struct [(0,2),(2,2),(4,3),(7,1)]⟩:=by kernel_rfl
@[simp] theorem JV : aj Tryz.prog 120=some ⟨8,(some (.agg #[.slice none 0 0,.slice none 0 0,.slice none 0 0,.slice none 0 0,.int .i64 0,.int .i64 0,.int .i64 0,.int .i64 0])),.struct [(0,2),(2,2),(4,3),(7,1)]⟩:=by kernel_rfl
@[simp] theorem JW : aj Tryz.prog 123=some ⟨6,(some (.agg #[.int .i64 0,.int .i64 0,.int .i64 0,.int .i64 0,.int .i64 0,.int .i64 0])),.array 3 2⟩:=by kernel_rfl
@[simp] theorem JX : db Tryz.prog 123=none:=by kernel_rfl
@[simp] theorem JY : kT Tryz.prog 123=some (3,2):=by kernel_rfl
@[simp] theorem JZ : aj Tryz.prog 124=some ⟨6,(some (.agg #[.int .i64 0,.int .i64 0,.int .i64 0,.int .i64 0,.int .i64 0,.int .i64 0])),.array 3 2⟩:=by kernel_rfl
@[simp] theorem J0 : db Tryz.prog 124=none:=by kernel_rfl
@[simp] theorem J1 : kT Tryz.prog 124=some (3,2):=by kernel_rfl
@[simp] theorem J2 : aj Tryz.prog 129=some ⟨1,(some (.nilIface)),.one⟩:=by kernel_rfl
@[simp] theorem J3 : aj Tryz.prog 144=some ⟨8,(some (.agg #[.int .i64 0,.int .i64 0,.int .i64 0,.int .i64 0,.int .i64 0,.int .i64 0,.int .i64 0,.int .i64 0])),.array 8 1⟩:=by kernel_rfl
@[simp] theorem J4 : db Tryz.prog 144=some (some 8):=by kernel_rfl
@[simp] theorem J5 : aj Tryz.prog 151=some ⟨1,(some (.slice none 0 0)),.slice 156 24 192 (some (.agg #[.int .i64 0,.int .i64 0,.int .i64 0,.int .i64 0,.int .i64 0,.int .i64 0,.int .i64 0,.int .i64 0,.int .i64 0,.int .i64 0,.int .i64 0,.int .i64 0,.int .i64 0,.int .i64 0,.int .i64 0,.int .i64 0,.int .i64 0,.int .i64 0,.int .i64 0,.int .i64 0,.int .i64 0,.int .i64 0,.int .i64 0,.int .i64 0]))⟩:=by kernel_rfl
@[simp] theorem J6 : aj Tryz.prog 153=some ⟨18,(some (.agg #[.int .i64 0,.int .i64 0,.int .i64 0,.int .i64 0,.int .i64 0,.int .i64 0,.int .i64 0,.int .i64 0,.int .i64 0,.int .i64 0,.int .i64 0,.int .i64 0,.int .i64 0,.int .i64 0,.int .i64 0,.int .i64 0,.int .i64 0,.int .i64 0])),.array 3 6⟩:=by kernel_rfl
@[simp] theorem J7 : db Tryz.prog 153=none:=by kernel_rfl
@[simp] theorem J8 : kT Tryz.prog 153=some (3,6):=by kernel_rfl
@[simp] theorem J9 : aj Tryz.prog 154=some ⟨18,(some (.agg #[.int .i64 0,.int .i64 0,.int .i64 0,.int .i64 0,.int .i64 0,.int .i64 0,.int .i64 0,.int .i64 0,.int .i64 0,.int .i64 0,.int .i64 0,.int .i64 0,.int .i64 0,.int .i64 0,.int .i64 0,.int .i64 0,.int .i64 0,.int .i64 0])),.array 3 6⟩:=by kernel_rfl
@[simp] theorem Ka : db Tryz.prog 154=none:=by kernel_rfl
@[simp] theorem Kb : kT Tryz.prog 154=some (3,6):=by kernel_rfl
@[simp] theorem Kc : aj Tryz.prog 155=some ⟨24,(some (.agg #[.int .i64 0,.int .i64 0,.int .i64 0,.int .i64 0,.int .i64 0,.int .i64 0,.int .i64 0,.int .i64 0,.int .i64 0,.int .i64 0,.int .i64 0,.int .i64 0,.int .i64 0,.int .i64 0,.int .i64 0,.int .i64 0,.int .i64 0,.int .i64 0,.int .i64 0,.int .i64 0,.int .i64 0,.int .i64 0,.int .i64 0,.int .i64 0])),.struct [(0,18),(18,6)]⟩:=by kernel_rfl
@[simp] theorem Kd : aj Tryz.prog 156=some ⟨24,(some (.agg #[.int .i64 0,.int .i64 0,.int .i64 0,.int .i64 0,.int .i64 0,.int .i64 0,.int .i64 0,.int .i64 0,.int .i64 0,.int .i64 0,.int .i64 0,.int .i64 0,.int .i64 0,.int .i64 0,.int .i64 0,.int .i64 0,.int .i64 0,.int .i64 0,.int .i64 0,.int .i64 0,.int .i64 0,.int .i64 0,.int .i64 0,.int .i64 0])),.struct [(0,18),(18,6)]⟩:=by kernel_rfl
@[simp] theorem Ke : aj Tryz.prog 163=some ⟨2,(some (.agg #[.slice none 0 0,.int .i64 0])),.struct [(0,1),(1,1)]⟩:=by kernel_rfl
@[simp] theorem Kf : aj Tryz.prog 164=some ⟨2,(some (.agg #[.slice none 0 0,.int .i64 0])),.struct [(0,1),(1,1)]⟩:=by kernel_rfl
@[simp] theorem Kg : aj Tryz.prog 165=some ⟨4,(some (.agg #[.slice none 0 0,.int .i64 0,.slice none 0 0,.int .i64 0])),.struct [(0,2),(2,2)]⟩:=by kernel_rfl
@[simp] theorem Kh : aj Tryz.prog 166=some ⟨4,(some (.agg #[.slice none 0 0,.int .i64 0,.slice none 0 0,.int .i64 0])),.struct [(0,2),(2,2)]⟩:=by kernel_rfl
@[simp] theorem Ki : aj Tryz.prog 168=some ⟨1,(some (.pointer none)),.one⟩:=by kernel_rfl
@[simp] theorem Kj : aj Tryz.prog 204=some ⟨1,(some (.nilFunc)),.one⟩:=by kernel_rfl
@[simp] theorem Kk : aj Tryz.prog 207=some ⟨1,(some (.nilFunc)),.one⟩:=by kernel_rfl
@[simp] theorem Kl : aj Tryz.prog 208=some ⟨1,(some (.agg #[.nilFunc])),.struct [(0,1)]⟩:=by kernel_rfl
@[simp] theorem Km : aj Tryz.prog 209=some ⟨1,(some (.agg #[.nilFunc])),.struct [(0,1)]⟩:=by kernel_rfl
@[simp] theorem Kn : aj Tryz.prog 223=some ⟨1,(some (.int .i64 0)),.one⟩:=by kernel_rfl
@[simp] theorem Ko : bk Tryz.prog 223=some .i64:=by kernel_rfl
@[simp] theorem Kp : aj Tryz.prog 226=some ⟨1,(some (.nilFunc)),.one⟩:=by kernel_rfl
@[simp] theorem Kq : aj Tryz.prog 227=some ⟨2,(some (.agg #[.nilFunc,.nilFunc])),.struct [(0,1),(1,1)]⟩:=by kernel_rfl
@[simp] theorem Kr : aj Tryz.prog 228=some ⟨2,(some (.agg #[.nilFunc,.nilFunc])),.struct [(0,1),(1,1)]⟩:=by kernel_rfl
@[simp] theorem Ks : aj Tryz.prog 232=some ⟨1,(some (.int .u64 0)),.one⟩:=by kernel_rfl
@[simp] theorem Kt : bk Tryz.prog 232=some .u64:=by kernel_rfl
@[simp] theorem Ku : aj Tryz.prog 237=some ⟨4,(some (.agg #[.int .i64 0,.int .i64 0,.int .i64 0,.int .i64 0])),.array 4 1⟩:=by kernel_rfl
@[simp] theorem Kv : db Tryz.prog 237=some (some 4):=by kernel_rfl
@[simp] theorem Kw : aj Tryz.prog 238=some ⟨1,(some (.int .u64 0)),.one⟩:=by kernel_rfl
@[simp] theorem Kx : bk Tryz.prog 238=some .u64:=by kernel_rfl
@[simp] theorem Ky : aj Tryz.prog 243=some ⟨11,(some (.agg #[.int .i64 0,.int .i64 0,.int .i64 0,.int .i64 0,.int .i64 0,.int .i64 0,.int .i64 0,.int .i64 0,.int .i64 0,.int .i64 0,.int .i64 0])),.array 11 1⟩:=by kernel_rfl
@[simp] theorem Kz : db Tryz.prog 243=some (some 11):=by kernel_rfl
@[simp] theorem KA : aj Tryz.prog 246=some ⟨11,(some (.agg #[.int .i64 0,.int .i64 0,.int .i64 0,.int .i64 0,.int .i64 0,.int .i64 0,.int .i64 0,.int .i64 0,.int .i64 0,.int .i64 0,.int .i64 0])),.array 11 1⟩:=by kernel_rfl
@[simp] theorem KB : db Tryz.prog 246=some (some 11):=by kernel_rfl
@[simp] theorem KD : aj Tryz.prog 250=some ⟨4,(some (.agg #[.pointer none,.pointer none,.pointer none,.string ByteArray.empty])),.struct [(0,1),(1,1),(2,1),(3,1)]⟩:=by kernel_rfl
@[simp] theorem KE : aj Tryz.prog 251=some ⟨4,(some (.agg #[.pointer none,.pointer none,.pointer none,.string ByteArray.empty])),.struct [(0,1),(1,1),(2,1),(3,1)]⟩:=by kernel_rfl
@[simp] theorem KF : aj Tryz.prog 252=some ⟨0,(some (.agg #[])),.array 0 1⟩:=by kernel_rfl
@[simp] theorem KG : db Tryz.prog 252=some (some 0):=by kernel_rfl
@[simp] theorem KH : aj Tryz.prog 253=some ⟨0,(some (.agg #[])),.struct [(0,0)]⟩:=by kernel_rfl
@[simp] theorem KI : aj Tryz.prog 254=some ⟨0,(some (.agg #[])),.struct [(0,0)]⟩:=by kernel_rfl
@[simp] theorem KJ : aj Tryz.prog 256=some ⟨1,(some (.int .u32 0)),.one⟩:=by kernel_rfl
@[simp] theorem KK : bk Tryz.prog 256=some .u32:=by kernel_rfl
@[simp] theorem KL : aj Tryz.prog 257=some ⟨1,(some (.int .u8 0)),.one⟩:=by kernel_rfl
@[simp] theorem KM : bk Tryz.prog 257=some .u8:=by kernel_rfl
@[simp] theorem KN : aj Tryz.prog 258=some ⟨1,(some (.int .u8 0)),.one⟩:=by kernel_rfl
@[simp] theorem KO : bk Tryz.prog 258=some .u8:=by kernel_rfl
@[simp] theorem KP : aj Tryz.prog 259=some ⟨1,(some (.nilFunc)),.one⟩:=by kernel_rfl
@[simp] theorem KQ : aj Tryz.prog 260=some ⟨1,(some (.pointer none)),.one⟩:=by kernel_rfl
@[simp] theorem KR : aj Tryz.prog 261=some ⟨1,(some (.int .i32 0)),.one⟩:=by kernel_rfl
@[simp] theorem KS : bk Tryz.prog 261=some .i32:=by kernel_rfl
@[simp] theorem KT : aj Tryz.prog 262=some ⟨1,(some (.int .i32 0)),.one⟩:=by kernel_rfl
@[simp] theorem KU : bk Tryz.prog 262=some .i32:=by kernel_rfl
@[simp] theorem KV : aj Tryz.prog 263=some ⟨11,(some (.agg #[.int .u64 0,.int .u64 0,.int .u32 0,.int .u8 0,.int .u8 0,.int .u8 0,.int .u8 0,.nilFunc,.pointer none,.int .i32 0,.int .i32 0])),.struct [(0,1),(1,1),(2,1),(3,1),(4,1),(5,1),(6,1),(7,1),(8,1),(9,1),(10,1)]⟩:=by kernel_rfl
@[simp] theorem KW : aj Tryz.prog 264=some ⟨11,(some (.agg #[.int .u64 0,.int .u64 0,.int .u32 0,.int .u8 0,.int .u8 0,.int .u8 0,.int .u8 0,.nilFunc,.pointer none,.int .i32 0,.int .i32 0])),.struct [(0,1),(1,1),(2,1),(3,1),(4,1),(5,1),(6,1),(7,1),(8,1),(9,1),(10,1)]⟩:=by kernel_rfl
end Go.Ab
namespace Go.Ab
open Go.Proofs
abbrev I (lo hi : Int) : PV:=.val (.agg #[.int .i64 lo,.int .i64 hi])
abbrev bF (x : Int × Int) : PV:=I x.1 x.2
abbrev B (b : Bool) : PV:=.val (.bool b)
abbrev Z (n : Int) : PV:=.val (.int .i64 n)
abbrev wr (n : Int) : Int:=IntKind.i64.wrap n
def bG (lo hi : Int) : Bool:=decide (-2147483648≤lo) && decide (lo≤hi) && decide (hi≤2147483648)
theorem AE (a b c d : Int) : ai Tryz.prog (Op.equal 60 (.agg #[.int .i64 a,.int .i64 b]) (.agg #[.int .i64 c,.int .i64 d]))=some (a==c && b==d):=by
 have hf : (Tryz.prog.fieldsOf 60).toList=[(Tryz.prog.fieldsOf 60)[0]!,(Tryz.prog.fieldsOf 60)[1]!]:=by kernel_rfl
 show ai Tryz.prog (Op.equalIn (9999+1) 60 _ _)=_
 rw [pL 9999 60 _ _ (by kernel_rfl) (by kernel_rfl),hf]
 have h:=mG (P:=Tryz.prog) (d:=9999) (xs:=#[.int .i64 a,.int .i64 b]) (ys:=#[.int .i64 c,.int .i64 d]) (f:=(Tryz.prog.fieldsOf 60)[0]!) (fs:=[(Tryz.prog.fieldsOf 60)[1]!]) (a:=.int .i64 a) (b:=.int .i64 c) (by decide +kernel) (by kernel_rfl) (by kernel_rfl) (lY 9998 _ .i64 .i64 a c (by kernel_rfl))
  (mG (by decide +kernel) (a:=.int .i64 b) (b:=.int .i64 d) (by kernel_rfl) (by kernel_rfl) (lY 9998 _ .i64 .i64 b d (by kernel_rfl)) tT)
 rw [h];simp
def i9 (P : Program) (o : Oper) (ρ : Operand→AV) : Option bw:=bf P o ρ
def mH (x : AV) : Option (Int × Int):=match x with
 |.pv (.val (.agg vs))=>match vs.toList with
  |[.int .i64 a,.int .i64 b]=>some (a,b)
  |_=>none
 |_=>none
theorem iO {x : AV} {a b : Int} (h : mH x=some (a,b)) : x=.pv (I a b):=by
 unfold mH at h
 split at h
 ·split at h
  ·rename_i vs _ a' b' hv
   injection h with h;injection h with h1 h2;subst h1;subst h2
   rw [← Array.toArray_toList (xs:=vs),hv]
  ·cases h
 ·cases h
def uN (x y : AV) (fb : Option bw) : Option bw:=match mH x,mH y with
 |some (a,b),some (c,d)=>some (.pv (.val (.bool !(a==c && b==d))),[])
 |_,_=>fb
@[simp] theorem yu (a b c d : Int) (fb : Option bw) : uN (.pv (.val (.agg #[.int .i64 a,.int .i64 b]))) (.pv (.val (.agg #[.int .i64 c,.int .i64 d]))) fb=some (.pv (.val (.bool !(a==c && b==d))),[]):=rfl
@[simp] theorem C0 {dst : Option Nat} {ty : TypeId} {pos : String} {aft : Array Edge} {g : Option (Nat × Bool)} {ρ : Operand→AV} (x y : Operand) :
 bf Tryz.prog ⟨dst,.binOp .neq 60 x y 60,ty,pos,aft,g⟩ ρ=uN (ρ x) (ρ y) (i9 Tryz.prog ⟨dst,.binOp .neq 60 x y 60,ty,pos,aft,g⟩ ρ):=by
 unfold uN
 split
 ·rename_i a b c d hx hy
  exact ol rfl (iO hx) (iO hy) (by kernel_rfl) (AE a b c d)
 ·rfl
theorem k9 (lo hi : Int) : ah Tryz.prog 40 [.pv (I lo hi)] [] [] (.pv (B (bG lo hi))):=by
 refine Dp Tryz.func40 ?_
 intro C hP hN
 simp only [Tryz.f40] at hN ⊢
 with_reducible repeat' (first|refine Sp.h ?_|((first|refine Ss.h ?_|(refine Sb.h ?_ ?_ ?_<;>(try intro hgd)<;>try exact Xy))<;>simp -implicitDefEqProofs (maxSteps:=2000000) [hP,hN])|refine X2 ?_ ?_|(refine Xd ?_ ?_<;>intro hcd<;>try exact Xx))
 all_goals (first|(simp_all [bG];done)|((try simp_all [bG])<;>(try omega)<;>grind))
theorem nG (lo hi : Int) : ah Tryz.prog 120 [.pv (I lo hi)] [] [] (.pv (B (bG lo hi))):=by
 refine Dp Tryz.func120 ?_
 intro C hP hN
 simp only [Tryz.f120] at hN ⊢
 with_reducible repeat' (first|refine Sp.h ?_|((first|refine Ss.h ?_|(refine Sb.h ?_ ?_ ?_<;>(try intro hgd)<;>try exact Xy))<;>simp -implicitDefEqProofs (maxSteps:=2000000) [hP,hN])|refine X2 ?_ ?_|(refine Xd ?_ ?_<;>intro hcd<;>try exact Xx))
 all_goals (first|(simp_all [bG];done)|((try simp_all [bG])<;>(try omega)<;>grind))
theorem wO (a b c d : Int) : ah Tryz.prog 204 [.pv (I a b),.pv (I c d)] [] [] (.pv (B (bG a b && bG c d))):=by
 refine Dp Tryz.func204 ?_
 intro C hP hN
 simp only [Tryz.f204] at hN ⊢
 with_reducible repeat' (first|refine Sp.h ?_|((first|refine Ss.h ?_|refine Sc.h (k9 _ _) ?_|(refine Sb.h ?_ ?_ ?_<;>(try intro hgd)<;>try exact Xy))<;>simp -implicitDefEqProofs (maxSteps:=2000000) [hP,hN])|refine X2 ?_ ?_|(refine Xd ?_ ?_<;>intro hcd<;>try exact Xx))
 all_goals (first|(simp_all;done)|((try simp_all)<;>(try omega)<;>grind))
def cw (n k : Int) : Int:=if n.tmod k < 0 then wr (n.tmod k+k) else n.tmod k
theorem tG (n k : Int) (hk : k≠0) : ah Tryz.prog 35 [.pv (Z n),.pv (Z k)] [] [] (.pv (Z (cw n k))):=by
 refine Dp Tryz.func35 ?_
 intro C hP hN
 simp only [Tryz.f35] at hN ⊢
 with_reducible repeat' (first|refine Sp.h ?_|((first|refine Ss.h ?_|(refine Sb.h ?_ ?_ ?_<;>(try intro hgd)<;>try exact Xy))<;>simp -implicitDefEqProofs (maxSteps:=2000000) [hP,hN,hk])|refine X2 ?_ ?_|(refine Xd ?_ ?_<;>intro hcd<;>try exact Xx))
 all_goals (first|(simp_all [cw];done)|((try simp_all [cw])<;>(try omega)<;>grind))
@[simp] theorem At (a b : Int) : (if b < a then b else a)=min a b:=by split<;>omega
@[simp] theorem Au (a b : Int) : (if a < b then b else a)=max a b:=by split<;>omega
theorem ao {n : Int} (h1 : -9223372036854775808≤n:=by omega) (h2 : n < 9223372036854775808:=by omega) : wr n=n:=by
 rw [wr,IntKind.wrap_i64];omega
theorem FU {k : Int} (hk : k < 64) : min k.toNat 64=k.toNat:=by omega
theorem Eu : IntKind.i64.bits=64:=rfl
theorem GL (a : Int) : ah Tryz.prog 206 [.pv (Z a)] [] [] (.pv (Z (min (max a (-2147483648)) 2147483648))):=by
 refine Dp Tryz.func206 ?_
 intro C hP hN
 simp only [Tryz.f206] at hN ⊢
 with_reducible repeat' (first|refine Sp.h ?_|((first|refine Ss.h ?_|(refine Sb.h ?_ ?_ ?_<;>(try intro hgd)<;>try exact Xy))<;>simp -implicitDefEqProofs (maxSteps:=2000000) [hP,hN])|refine X2 ?_ ?_|(refine Xd ?_ ?_<;>intro hcd<;>try exact Xx))
 all_goals (first|(simp_all;done)|((try simp_all)<;>(try omega)<;>grind))
theorem Ev (a b : Int) : ah Tryz.prog 193 [.pv (Z a),.pv (Z b)] [] [] (.pv (I (min (max a (-2147483648)) 2147483648) (min (max b (-2147483648)) 2147483648))):=by
 refine Dp Tryz.func193 ?_
 intro C hP hN
 simp only [Tryz.f193] at hN ⊢
 with_reducible repeat' (first|refine Sp.h ?_|((first|refine Ss.h ?_|refine Sc.h (GL _) ?_|(refine Sb.h ?_ ?_ ?_<;>(try intro hgd)<;>try exact Xy))<;>simp -implicitDefEqProofs (maxSteps:=2000000) [hP,hN])|refine X2 ?_ ?_|(refine Xd ?_ ?_<;>intro hcd<;>try exact Xx))
 all_goals (first|(simp_all;done)|((try simp_all)<;>(try omega)<;>grind))
theorem GM (a : Int) : ah Tryz.prog 165 [.pv (Z a)] [] [] (.pv (I (min (max a (-2147483648)) 2147483648) (min (max a (-2147483648)) 2147483648))):=by
 refine Dp Tryz.func165 ?_
 intro C hP hN
 simp only [Tryz.f165] at hN ⊢
 with_reducible repeat' (first|refine Sp.h ?_|((first|refine Ss.h ?_|refine Sc.h (Ev _ _) ?_|(refine Sb.h ?_ ?_ ?_<;>(try intro hgd)<;>try exact Xy))<;>simp -implicitDefEqProofs (maxSteps:=2000000) [hP,hN])|refine X2 ?_ ?_|(refine Xd ?_ ?_<;>intro hcd<;>try exact Xx))
 all_goals (first|(simp_all;done)|((try simp_all)<;>(try omega)<;>grind))
theorem Ip (a k : Int) (h : 0≤k) (hk : k < 64) : ah Tryz.prog 98 [.pv (Z a),.pv (Z k)] [] [] (.pv (Z (a.fdiv (2 ^ k.toNat)))):=by
 refine Dp Tryz.func98 ?_
 intro C hP hN
 simp only [Tryz.f98] at hN ⊢
 with_reducible repeat' (first|refine Sp.h ?_|((first|refine Ss.h ?_|(refine Sb.h ?_ ?_ ?_<;>(try intro hgd)<;>try exact Xy))<;>simp -implicitDefEqProofs (maxSteps:=2000000) [hP,hN,h,Eu,FU hk])|refine X2 ?_ ?_|(refine Xd ?_ ?_<;>intro hcd<;>try exact Xx))
 all_goals (first|(simp_all;done)|((try simp_all)<;>(try omega)<;>grind))
def fK (x y : Int × Int) : Int × Int:=if bG x.1 x.2 && bG y.1 y.2 then (min x.1 y.1,max x.2 y.2) else (0,0)
theorem zG (a b c d : Int) : ah Tryz.prog 233 [.pv (I a b),.pv (I c d)] [] [] (.pv (bF (fK (a,b) (c,d)))):=by
 refine Dp Tryz.func233 ?_
 intro C hP hN
 simp only [Tryz.f233] at hN ⊢
 with_reducible repeat' (first|refine Sp.h ?_|((first|refine Ss.h ?_|refine Sc.h (wO _ _ _ _) ?_|(refine Sb.h ?_ ?_ ?_<;>(try intro hgd)<;>try exact Xy))<;>simp -implicitDefEqProofs (maxSteps:=2000000) [hP,hN])|refine X2 ?_ ?_|(refine Xd ?_ ?_<;>intro hcd<;>try exact Xx))
 all_goals (first|(simp_all [fK];done)|((try simp_all [fK])<;>(try omega)<;>grind))
theorem zH (a b c d : Int) : ah Tryz.prog 223 [.pv (I a b),.pv (I c d)] [] [] (.pv (bF (fK (a,b) (c,d)))):=by
 refine Dp Tryz.func223 ?_
 intro C hP hN
 simp only [Tryz.f223] at hN ⊢
 with_reducible repeat' (first|refine Sp.h ?_|((first|refine Ss.h ?_|refine Sc.h (nG _ _) ?_|(refine Sb.h ?_ ?_ ?_<;>(try intro hgd)<;>try exact Xy))<;>simp -implicitDefEqProofs (maxSteps:=2000000) [hP,hN])|refine X2 ?_ ?_|(refine Xd ?_ ?_<;>intro hcd<;>try exact Xx))
 all_goals (first|(simp_all [fK];done)|((try simp_all [fK])<;>(try omega)<;>grind))
theorem wP (a b : Int) : ah Tryz.prog 232 [.pv (I a b)] [] [] (.pv (Z (if bG a b then wr (b - a) else 0))):=by
 refine Dp Tryz.func232 ?_
 intro C hP hN
 simp only [Tryz.f232] at hN ⊢
 with_reducible repeat' (first|refine Sp.h ?_|((first|refine Ss.h ?_|refine Sc.h (k9 _ _) ?_|(refine Sb.h ?_ ?_ ?_<;>(try intro hgd)<;>try exact Xy))<;>simp -implicitDefEqProofs (maxSteps:=2000000) [hP,hN])|refine X2 ?_ ?_|(refine Xd ?_ ?_<;>intro hcd<;>try exact Xx))
 all_goals (first|(simp_all;done)|((try simp_all)<;>(try omega)<;>grind))
theorem Iq (a b : Int) : ah Tryz.prog 50 [.pv (I a b)] [] [] (.pv (Z (if bG a b then (wr (a+b)).fdiv 2 else 0))):=by
 refine Dp Tryz.func50 ?_
 intro C hP hN
 simp only [Tryz.f50] at hN ⊢
 with_reducible repeat' (first|refine Sp.h ?_|((first|refine Ss.h ?_|refine Sc.h (k9 _ _) ?_|refine Sc.h (Ip _ _ (by decide) (by decide)) ?_|(refine Sb.h ?_ ?_ ?_<;>(try intro hgd)<;>try exact Xy))<;>simp -implicitDefEqProofs (maxSteps:=2000000) [hP,hN])|refine X2 ?_ ?_|(refine Xd ?_ ?_<;>intro hcd<;>try exact Xx))
 all_goals (first|(simp_all;done)|((try simp_all)<;>(try omega)<;>grind))
theorem GN (a b x : Int) : ah Tryz.prog 239 [.pv (I a b),.pv (Z x)] [] [] (.pv (B (bG a b && decide (a≤x) && decide (x≤b)))):=by
 refine Dp Tryz.func239 ?_
 intro C hP hN
 simp only [Tryz.f239] at hN ⊢
 with_reducible repeat' (first|refine Sp.h ?_|((first|refine Ss.h ?_|refine Sc.h (k9 _ _) ?_|(refine Sb.h ?_ ?_ ?_<;>(try intro hgd)<;>try exact Xy))<;>simp -implicitDefEqProofs (maxSteps:=2000000) [hP,hN])|refine X2 ?_ ?_|(refine Xd ?_ ?_<;>intro hcd<;>try exact Xx))
 all_goals (first|(simp_all;done)|((try simp_all)<;>(try omega)<;>grind))
end Go.Ab
namespace Go.Ab
open Go.Proofs
abbrev zs (xs : List Int) : PV:=.sl (xs.map Z)
abbrev iv (xs : List (Int × Int)) : PV:=.sl (xs.map bF)
abbrev Fv (f : FuncId) : PV:=.val (.func (.func f) #[] #[])
theorem bi {i n : Nat} (h : i < n) (hn : n≤9223372036854775807) : IntKind.i64.wrap ((i : Int)+1)=(i : Int)+1:=by rw [IntKind.wrap_i64];omega
def lu {α : Type} (p : α→Bool) (xs : List α) : Int:=match xs.findIdx? p with
 |some i=>i
 |none=>-1
theorem mX {α : Type} {p : α→Bool} {xs : List α} {i : Nat} (hlt : i < xs.length) (hq : ∀ j x,j < i→xs[j]?=some x→p x=false) (hp : p xs[i]=true) : lu p xs=i:=by
 have : xs.findIdx? p=some i:=by
  rw [List.findIdx?_eq_some_iff_getElem]
  refine ⟨hlt,hp,fun j hj=>?_⟩
  have hjl : j < xs.length:=by omega
  rw [hq j xs[j] hj (List.getElem?_eq_getElem hjl)];simp
 simp [lu,this]
theorem rh {α : Type} {p : α→Bool} {xs : List α} (hq : ∀ (j : Nat) x,xs[j]?=some x→p x=false) : lu p xs=-1:=by
 have : xs.findIdx? p=none:=by
  rw [List.findIdx?_eq_none_iff]
  intro x hx
  obtain ⟨j,hj,rfl⟩:=List.mem_iff_getElem.1 hx
  exact hq j _ (List.getElem?_eq_getElem hj)
 simp [lu,this]
theorem pR {α : Type} (p : α→Bool) (xs : List α) : decide (0≤lu p xs)=xs.any p:=by
 unfold lu
 cases h : xs.findIdx? p with
 |none=>
  rw [List.findIdx?_eq_none_iff] at h
  have : xs.any p=false:=by
   rw [List.any_eq_false];intro x hx;rw [h x hx];simp
  simp [this]
 |some i=>
  rw [List.findIdx?_eq_some_iff_getElem] at h
  obtain ⟨hl,hp,_⟩:=h
  have : xs.any p=true:=List.any_eq_true.2 ⟨xs[i],List.getElem_mem hl,hp⟩
  simp [this]
theorem mf {α : Type} {p : α→Bool} {xs : List α} {i : Nat} (hlt : i < xs.length) (hq : ∀ j x,j < i→xs[j]?=some x→p x=false) (hp : p xs[i]=false) : ∀ j x,j < i+1→xs[j]?=some x→p x=false:=by
 intro j x hj hx
 by_cases e : j=i
 ·subst e;rw [List.getElem?_eq_getElem hlt] at hx;injection hx with hx;subst hx;exact hp
 ·exact hq j x (by omega) hx
theorem sP {α : Type} {p : α→Bool} {xs : List α} {i : Nat} (hlt : ¬ i < xs.length) (hq : ∀ j x,j < i→xs[j]?=some x→p x=false) : ∀ (j : Nat) x,xs[j]?=some x→p x=false:=by
 intro j x hx
 have:=(List.getElem?_eq_some_iff.1 hx).1
 exact hq j x (by omega) hx
theorem GO (f : FuncId) (p : Int × Int→Bool) (xs : List (Int × Int)) (hl : xs.length≤9223372036854775807) (hf : ∀ x,ah Tryz.prog f [.pv (bF x)] [] [] (.pv (B (p x)))) : ah Tryz.prog 160 [.pv (iv xs),.pv (Fv f)] [] [] (.pv (Z (lu p xs))):=by
 refine Dp Tryz.func160 ?_
 intro C hP hN
 simp only [Tryz.f160] at hN ⊢
 with_reducible repeat' (first|refine Sp.h ?_|((first|refine Ss.h ?_|(refine Sb.h ?_ ?_ ?_<;>(try intro hgd)<;>try exact Xy))<;>simp -implicitDefEqProofs (maxSteps:=2000000) [hP,hN])|refine X2 ?_ ?_|(refine Xd ?_ ?_<;>intro hcd<;>try exact Xx))
 refine WP.loopN [] xs.length (fun i st=>st.t 0=.pv (iv xs)∧st.t 1=.pv (Fv f)∧st.t 7=.pv (Z xs.length)∧st.t 8=.pv (Z i)∧∀ j x,j < i→xs[j]?=some x→p x=false) (by simp) ?_
 rintro i st hi ⟨h0,h1,h7,h8,hq⟩
 by_cases hlt : i < xs.length
 ·have hw:=bi hlt hl
  with_reducible repeat' (first|refine Sp.h ?_|((first|refine Ss.h ?_|refine Sc.h (hf _) ?_|(refine Sb.h ?_ ?_ ?_<;>(try intro hgd)<;>try exact Xy))<;>simp -implicitDefEqProofs (maxSteps:=2000000) [hP,hN,h0,h1,h7,h8,hlt,hw])|refine X2 ?_ ?_|(refine Xd ?_ ?_<;>intro hcd<;>try exact Xx))
  ·exact (mX hlt hq hcd).symm
  ·simpa using mf hlt hq hcd
 ·skip
  with_reducible repeat' (first|refine Sp.h ?_|((first|refine Ss.h ?_|(refine Sb.h ?_ ?_ ?_<;>(try intro hgd)<;>try exact Xy))<;>simp -implicitDefEqProofs (maxSteps:=2000000) [hP,hN,h0,h1,h7,h8,hlt])|refine X2 ?_ ?_|(refine Xd ?_ ?_<;>intro hcd<;>try exact Xx))
  exact (rh (sP hlt hq)).symm
theorem GP (f : FuncId) (p : Int × Int→Bool) (xs : List (Int × Int)) (hl : xs.length≤9223372036854775807) (hf : ∀ x,ah Tryz.prog f [.pv (bF x)] [] [] (.pv (B (p x)))) : ah Tryz.prog 128 [.pv (iv xs),.pv (Fv f)] [] [] (.pv (B (xs.any p))):=by
 refine Dp Tryz.func128 ?_
 intro C hP hN
 simp only [Tryz.f128] at hN ⊢
 with_reducible repeat' (first|refine Sp.h ?_|((first|refine Ss.h ?_|refine Sc.h (GO _ _ _ hl hf) ?_|(refine Sb.h ?_ ?_ ?_<;>(try intro hgd)<;>try exact Xy))<;>simp -implicitDefEqProofs (maxSteps:=2000000) [hP,hN])|refine X2 ?_ ?_|(refine Xd ?_ ?_<;>intro hcd<;>try exact Xx))
 all_goals (first|(simp_all [pR];done)|((try simp_all [pR])<;>(try omega)<;>grind))
def fe {α : Type} (p : α→Bool) (xs : List α) : Bool:=xs.all p
theorem DB {α : Type} (p : α→Bool) (xs : List α) : (xs.any fun x=>!p x)=!fe p xs:=by simp [fe,List.any_eq_not_all_not]
abbrev vI (x : Int × Int) : Bool:=bG x.1 x.2
def A0 (x : Int) : Bool:=decide (-2147483648≤x) && decide (x≤2147483648)
end Go.Ab
namespace Go.Ab
open Go.Proofs
end Go.Ab
namespace Go.Ab
open Go.Proofs
theorem ve {α : Type} {p : α→Bool} {xs : List α} {i : Nat} (hlt : i < xs.length) (hp : p xs[i]=false) : fe p xs=false:=by
 rw [fe,List.all_eq_false];exact ⟨xs[i],List.getElem_mem hlt,by simp [hp]⟩
theorem wQ {α : Type} {p : α→Bool} {xs : List α} {i : Nat} (hlt : i < xs.length) (h : fe p (xs.take i)=true) (hp : p xs[i]=true) : fe p (xs.take (i+1))=true:=by
 unfold fe at *;rw [List.take_succ_eq_append_getElem hlt,List.all_append,h];simp [hp]
theorem wR {α : Type} {p : α→Bool} {xs : List α} {i : Nat} (hlt : ¬ i < xs.length) (h : fe p (xs.take i)=true) : fe p xs=true:=by
 rwa [List.take_of_length_le (by omega)] at h
def ri {α β : Type} (f : α→β→Bool) (xs : List α) (ys : List β) : Bool:=(List.zipWith f xs ys).all id
def rO {α β : Type} (f : α→β→Bool) (xs : List α) (ys : List β) (i : Nat) : Bool:=((List.zipWith f xs ys).take i).all id
theorem zI {α β : Type} {f : α→β→Bool} {xs : List α} {ys : List β} {i : Nat} (hlt : i < xs.length) (hlt' : i < ys.length) (hp : f xs[i] ys[i]=false) : ri f xs ys=false:=
 ve (p:=id) (xs:=List.zipWith f xs ys) (i:=i) (by simp;omega) (by simpa using hp)
theorem A1 {α β : Type} {f : α→β→Bool} {xs : List α} {ys : List β} {i : Nat} (hlt : i < xs.length) (hlt' : i < ys.length) (h : rO f xs ys i=true) (hp : f xs[i] ys[i]=true) : rO f xs ys (i+1)=true:=
 wQ (p:=id) (xs:=List.zipWith f xs ys) (i:=i) (by simp;omega) h (by simpa using hp)
theorem A2 {α β : Type} {f : α→β→Bool} {xs : List α} {ys : List β} {i : Nat} (hlt : ¬ i < xs.length) (h : rO f xs ys i=true) : ri f xs ys=true:=
 wR (p:=id) (xs:=List.zipWith f xs ys) (i:=i) (by simp;omega) h
theorem GQ (xs : List (Int × Int)) (hl : xs.length≤9223372036854775807) : ah Tryz.prog 107 [.pv (iv xs)] [] [] (.pv (B (fe vI xs))):=by
 refine Dp Tryz.func107 ?_
 intro C hP hN
 simp only [Tryz.f107] at hN ⊢
 with_reducible repeat' (first|refine Sp.h ?_|((first|refine Ss.h ?_|(refine Sb.h ?_ ?_ ?_<;>(try intro hgd)<;>try exact Xy))<;>simp -implicitDefEqProofs (maxSteps:=2000000) [hP,hN])|refine X2 ?_ ?_|(refine Xd ?_ ?_<;>intro hcd<;>try exact Xx))
 refine WP.loopN [] xs.length (fun i st=>st.t 0=.pv (iv xs)∧st.t 3=.pv (Z i)∧fe vI (xs.take i)=true) (by simp [fe]) ?_
 rintro i st hi ⟨h0,h1,hq⟩
 by_cases hlt : i < xs.length
 ·have hw:=bi hlt hl
  have hF : vI xs[i]=false→fe vI xs=false:=ve hlt
  have hS : vI xs[i]=true→fe vI (xs.take (i+1))=true:=wQ hlt hq
  with_reducible repeat' (first|refine Sp.h ?_|((first|refine Ss.h ?_|refine Sc.h (nG _ _) ?_|(refine Sb.h ?_ ?_ ?_<;>(try intro hgd)<;>try exact Xy))<;>simp -implicitDefEqProofs (maxSteps:=2000000) [hP,hN,h0,h1,hlt,hw])|refine X2 ?_ ?_|(refine Xd ?_ ?_<;>intro hcd<;>try exact Xx))
  all_goals first|(rw [hF];simp_all [A0];try omega)|(rw [hS];simp_all [A0];try omega)
 ·skip
  with_reducible repeat' (first|refine Sp.h ?_|((first|refine Ss.h ?_|(refine Sb.h ?_ ?_ ?_<;>(try intro hgd)<;>try exact Xy))<;>simp -implicitDefEqProofs (maxSteps:=2000000) [hP,hN,h0,h1,hlt])|refine X2 ?_ ?_|(refine Xd ?_ ?_<;>intro hcd<;>try exact Xx))
  simp [wR hlt hq]
def GR (x : Int × Int) (c : Int) : Bool:=bG x.1 x.2 && decide (x.1≤c) && decide (c≤x.2)
def sA {α : Type} [DecidableEq α] (x y : α) : Bool:=decide (x=y)
theorem DC {α : Type} [DecidableEq α] {xs ys : List α} (he : xs.length=ys.length) : ri sA xs ys=decide (xs=ys):=by
 unfold ri
 induction xs generalizing ys with
 |nil=>cases ys<;>simp at he ⊢
 |cons x xs ih=>cases ys with
  |nil=>simp at he
  |cons y ys=>simp only [List.zipWith_cons_cons,List.all_cons,ih (by simpa using he)];simp [sA,Bool.decide_and]
def rP {α : Type} [DecidableEq α] (xs ys : List α) : Bool:=decide (xs.length=ys.length) && ri sA xs ys
theorem Ga (xs : List (Int)) (ys : List (Int)) (hl : xs.length≤9223372036854775807) (hm : ys.length≤9223372036854775807) : ah Tryz.prog 38 [.pv (zs xs),.pv (zs ys)] [] [] (.pv (B (rP xs ys))):=by
 refine Dp Tryz.func38 ?_
 intro C hP hN
 simp only [Tryz.f38] at hN ⊢
 by_cases he : xs.length=ys.length
 ·skip
  with_reducible repeat' (first|refine Sp.h ?_|((first|refine Wd ?_|refine Ss.h ?_|(refine Sb.h ?_ ?_ ?_<;>(try intro hgd)<;>try exact Xy))<;>simp -implicitDefEqProofs (maxSteps:=2000000) [hP,hN,he]<;>try refine Ya ?_)|refine X2 ?_ ?_|(refine Xd ?_ ?_<;>intro hcd<;>try exact Xx))
  refine WP.loopN [] xs.length (fun i st=>st.t 0=.pv (zs xs)∧st.t 1=.pv (zs ys)∧st.t 5=.pv (Z i)∧rO sA xs ys i=true) (by simp [rO]) ?_
  rintro i st hi ⟨h0,h1,h2,hq⟩
  by_cases hlt : i < xs.length
  ·have hw:=bi hlt hl
   have hlt' : i < ys.length:=by omega
   have hF : sA xs[i] ys[i]=false→ri sA xs ys=false:=zI hlt hlt'
   have hS : sA xs[i] ys[i]=true→rO sA xs ys (i+1)=true:=A1 hlt hlt' hq
   with_reducible repeat' (first|refine Sp.h ?_|((first|refine Wd ?_|refine Ss.h ?_|(refine Sb.h ?_ ?_ ?_<;>(try intro hgd)<;>try exact Xy))<;>simp -implicitDefEqProofs (maxSteps:=2000000) [hP,hN,h0,h1,h2,hlt,hlt',hw]<;>try refine Ya ?_)|refine X2 ?_ ?_|(refine Xd ?_ ?_<;>intro hcd<;>try exact Xx))
   all_goals first|(rw [rP,hF (by simp only [sA]<;>grind)];simp;done)|(rw [hS (by simp only [sA]<;>grind)];done)
  ·have hlt' : ¬ i < ys.length:=by omega
   with_reducible repeat' (first|refine Sp.h ?_|((first|refine Wd ?_|refine Ss.h ?_|(refine Sb.h ?_ ?_ ?_<;>(try intro hgd)<;>try exact Xy))<;>simp -implicitDefEqProofs (maxSteps:=2000000) [hP,hN,h0,h1,h2,hlt,hlt']<;>try refine Ya ?_)|refine X2 ?_ ?_|(refine Xd ?_ ?_<;>intro hcd<;>try exact Xx))
   all_goals simp [rP,he,A2 hlt hq]
 ·skip
  with_reducible repeat' (first|refine Sp.h ?_|((first|refine Wd ?_|refine Ss.h ?_|(refine Sb.h ?_ ?_ ?_<;>(try intro hgd)<;>try exact Xy))<;>simp -implicitDefEqProofs (maxSteps:=2000000) [hP,hN,he]<;>try refine Ya ?_)|refine X2 ?_ ?_|(refine Xd ?_ ?_<;>intro hcd<;>try exact Xx))
  all_goals simp [rP,he]
end Go.Ab
namespace Go.Ab
open Go.Proofs
end Go.Ab
namespace Go.Ab
open Go.Proofs
def tH (x : Int × Int) : Int:=if bG x.1 x.2 then wr (x.2 - x.1) else 0
def nH (x : Int × Int) : Int:=if bG x.1 x.2 then (wr (x.1+x.2)).fdiv 2 else 0
def jh (xs : List (Int × Int)) (j : Int) : Bool:=decide (0≤j) && fe vI xs && (match xs[j.toNat]? with|some x=>decide (2≤tH x)|none=>false)
def nI (xs : List (Int × Int)) (j : Int) : List (Int × Int):=if jh xs j then (match xs[j.toNat]? with|some x=>xs.set j.toNat (x.1,nH x)|none=>[]) else []
def nJ (xs : List (Int × Int)) (j : Int) : List (Int × Int):=if jh xs j then (match xs[j.toNat]? with|some x=>xs.set j.toNat (nH x,x.2)|none=>[]) else []
end Go.Ab
namespace Go.Ab
open Go.Proofs
def nx (l : List Int) (n : Nat) (k : Int) : Int:=match l[n]? with
 |some x=>cw x k
 |none=>0
def nn (l : List Int) (n : Nat) : Nat:=if n < l.length then n+1 else n
abbrev iu (l : List Int) (n : Nat) : List PV:=[zs l,Z n]
theorem Ew (l : List Int) : ah Tryz.prog 11 [.pv (zs l)] [] [] (.box (iu l 0)):=by
 refine Dp Tryz.func11 ?_
 intro C hP hN
 simp only [Tryz.f11] at hN ⊢
 with_reducible repeat' (first|refine Sp.h ?_|((first|refine Ss.h ?_|(refine Sb.h ?_ ?_ ?_<;>(try intro hgd)<;>try exact Xy))<;>simp -implicitDefEqProofs (maxSteps:=2000000) [hP,hN])|refine X2 ?_ ?_|(refine Xd ?_ ?_<;>intro hcd<;>try exact Xx))
 all_goals (first|(simp_all;done)|((try simp_all)<;>(try omega)<;>grind))
theorem bS (l : List Int) (n : Nat) : nn l n≤n+1:=by unfold nn;split<;>omega
theorem eo (l : List Int) (n : Nat) (k : Int) (hk : k≠0) (hn : n < 1000000) : ah Tryz.prog 13 [.bx 0,.pv (Z k)] [iu l n] [iu l (nn l n)] (.pv (Z (nx l n k))):=by
 have hw : IntKind.i64.wrap ((n : Int)+1)=(n : Int)+1:=by rw [IntKind.wrap_i64];omega
 have hw' : IntKind.i64.wrap (n : Int)=n:=by rw [IntKind.wrap_i64];omega
 refine nj Tryz.func13 rfl (by kernel_rfl) (by simp [Tryz.f13]) rfl (by intro i j h;rcases i with _|_|_|i<;>simp_all) ?_
 intro C hP hN
 simp only [Tryz.f13] at hN ⊢
 by_cases hlt : n < l.length
 ·skip
  with_reducible repeat' (first|refine Sp.h ?_|((first|refine Wd ?_|refine Ss.h ?_|refine Sc.h (tG _ _ hk) ?_|(refine Sb.h ?_ ?_ ?_<;>(try intro hgd)<;>try exact Xy))<;>simp -implicitDefEqProofs (maxSteps:=2000000) [hP,hN,iu,hlt,hw,hw',Nat.not_le.2 hlt]<;>try refine Ya ?_)|refine X2 ?_ ?_|(refine Xd ?_ ?_<;>intro hcd<;>try exact Xx))
  simp [nn,nx,hlt]
 ·skip
  with_reducible repeat' (first|refine Sp.h ?_|((first|refine Wd ?_|refine Ss.h ?_|(refine Sb.h ?_ ?_ ?_<;>(try intro hgd)<;>try exact Xy))<;>simp -implicitDefEqProofs (maxSteps:=2000000) [hP,hN,iu,hlt,Nat.not_lt.1 hlt]<;>try refine Ya ?_)|refine X2 ?_ ?_|(refine Xd ?_ ?_<;>intro hcd<;>try exact Xx))
  simp [nn,nx,hlt]
theorem sB (l : List Int) (n : Nat) (k : Int) (h0 : 0 < k) (hk : k < 1000000) (hn : n < 1000000) : ah Tryz.prog 15 [.bx 0,.pv (Z k)] [iu l n] [iu l (nn l n)] (.pv (Z (wr (nx l n (2 * k+1) - k)))):=by
 have hw : IntKind.i64.wrap (2 * k)=2 * k:=by rw [IntKind.wrap_i64];omega
 have hw' : IntKind.i64.wrap (2 * k+1)=2 * k+1:=by rw [IntKind.wrap_i64];omega
 refine nj Tryz.func15 rfl (by kernel_rfl) (by simp [Tryz.f15]) rfl (by intro i j h;rcases i with _|_|_|i<;>simp_all) ?_
 intro C hP hN
 simp only [Tryz.f15] at hN ⊢
 with_reducible repeat' (first|refine Sp.h ?_|((first|refine Ss.h ?_|refine Sc.h (eo l n (2 * k+1) (by omega) hn) ?_|(refine Sb.h ?_ ?_ ?_<;>(try intro hgd)<;>try exact Xy))<;>simp -implicitDefEqProofs (maxSteps:=2000000) [hP,hN,iu,hw,hw'])|refine X2 ?_ ?_|(refine Xd ?_ ?_<;>intro hcd<;>try exact Xx))
theorem dl (l : List Int) (n : Nat) {k : Int} (hk : 0 < k) (hk' : k < 4611686018427387904) : 0≤nx l n k∧nx l n k < k:=by
 unfold nx
 split
 ·rename_i x _
  have h1 : -k < x.tmod k:=by have:=Int.lt_tmod_of_pos x hk;omega
  have h2 : x.tmod k < k:=Int.tmod_lt_of_pos x hk
  unfold cw
  split
  ·rw [ao (by omega) (by omega)];omega
  ·omega
 ·omega
def A3 (a : Int) : Int:=if a=2 then 1 else if a=3 then 2 else if a=4 then 4 else if a=5 then 5 else if a=7 then 0 else 3
theorem DH {c : Int} (h0 : 0≤c) (h8 : c < 8) : ∀ h,([.int .i64 3,.int .i64 3,.int .i64 1,.int .i64 2,.int .i64 4,.int .i64 5,.int .i64 3,.int .i64 0] : List Value)[c.toNat]'h=.int .i64 (A3 c):=by
 have : c=0∨c=1∨c=2∨c=3∨c=4∨c=5∨c=6∨c=7:=by omega
 rcases this with rfl|rfl|rfl|rfl|rfl|rfl|rfl|rfl<;>(intro h;rfl)
def uA (i : Nat) : ByteArray:=⟨#[UInt8.ofNat (97+i)]⟩
abbrev tJ : Value:=.string ⟨#[97,98,99,100,101,102,103,104,105,106]⟩
def tK (i : Nat) : Operand→AV:=fun x=>match x with
 |.tmp 3=>.pv (Z i)
 |.tmp 5=>.pv (Z ((i : Int)+1))
 |_=>.pv (.val tJ)
section
variable {dst : Option Nat} {ty : TypeId} {pos : String} {aft : Array Edge} {g : Option (Nat × Bool)} {ρ : Operand→AV}
theorem DI : bf Tryz.prog ⟨dst,.slice 9 (.const tJ) (some (.tmp 3)) (some (.tmp 5)) none,ty,pos,aft,g⟩ (tK 0)=some (.pv (.val (.string (uA 0))),[]):=by kernel_rfl
theorem DJ : bf Tryz.prog ⟨dst,.slice 9 (.const tJ) (some (.tmp 3)) (some (.tmp 5)) none,ty,pos,aft,g⟩ (tK 1)=some (.pv (.val (.string (uA 1))),[]):=by kernel_rfl
theorem DK : bf Tryz.prog ⟨dst,.slice 9 (.const tJ) (some (.tmp 3)) (some (.tmp 5)) none,ty,pos,aft,g⟩ (tK 2)=some (.pv (.val (.string (uA 2))),[]):=by kernel_rfl
theorem FV (i : Nat) (h3 : i < 3) (hc : ρ (.const tJ)=.pv (.val tJ)) (hx : ρ (.tmp 3)=.pv (Z i)) (hy : ρ (.tmp 5)=.pv (Z ((i : Int)+1))) :
 bf Tryz.prog ⟨dst,.slice 9 (.const tJ) (some (.tmp 3)) (some (.tmp 5)) none,ty,pos,aft,g⟩ ρ=some (.pv (.val (.string (uA i))),[]):=by
 have h : bf Tryz.prog ⟨dst,.slice 9 (.const tJ) (some (.tmp 3)) (some (.tmp 5)) none,ty,pos,aft,g⟩ ρ=bf Tryz.prog ⟨dst,.slice 9 (.const tJ) (some (.tmp 3)) (some (.tmp 5)) none,ty,pos,aft,g⟩ (tK i):=by
  refine rd (by intro _ _ h;cases h) ?_
  intro x hx'
  simp [Op.operands] at hx'
  rcases hx' with rfl|rfl|rfl
  ·exact hc
  ·exact hx
  ·exact hy
 rw [h]
 have : i=0∨i=1∨i=2:=by omega
 rcases this with rfl|rfl|rfl
 ·exact DI
 ·exact DJ
 ·exact DK
end
theorem Ir (i : Nat) (h3 : i < 3) : ah Tryz.prog 72 [.pv (Z i)] [] [] (.pv (.val (.string (uA i)))):=by
 have hw : IntKind.i64.wrap ((i : Int)+1)=(i : Int)+1:=by rw [IntKind.wrap_i64];omega
 refine Dp Tryz.func72 ?_
 intro C hP hN
 simp only [Tryz.f72] at hN ⊢
 with_reducible repeat' (first|refine Sp.h ?_|((first|refine Ss.h ?_|(refine Sb.h ?_ ?_ ?_<;>(try intro hgd)<;>try exact Xy))<;>simp -implicitDefEqProofs (maxSteps:=2000000) [hP,hN,hw])|refine X2 ?_ ?_|(refine Xd ?_ ?_<;>intro hcd<;>try exact Xx))
 rw [FV i h3 rfl (by simp) (by simp)]
 simp [hP,hN]
 with_reducible repeat' (first|refine Sp.h ?_|((first|refine Ss.h ?_|(refine Sb.h ?_ ?_ ?_<;>(try intro hgd)<;>try exact Xy))<;>simp -implicitDefEqProofs (maxSteps:=2000000) [hP,hN,hw])|refine X2 ?_ ?_|(refine Xd ?_ ?_<;>intro hcd<;>try exact Xx))
end Go.Ab
namespace Go.Ab
open Go.Proofs
structure J where
 name : ByteArray
 kind : Int
 parent : Int
 ox : Int
 oy : Int
 oz : Int
 lo : Int
 hi : Int
 w : Int
 sp : Int
 ac : Int
 tq : Int
abbrev gq (j : J) : PV:=.val (.agg #[.string j.name,.int .i64 j.kind,.int .i64 j.parent,.int .i64 j.ox,.int .i64 j.oy,.int .i64 j.oz,.int .i64 j.lo,.int .i64 j.hi,.int .i64 j.w,.int .i64 j.sp,.int .i64 j.ac,.int .i64 j.tq])
def yJ (l : List Int) (n : Nat) : Nat:=nn l (nn l (nn l (nn l n)))
def jV (l : List Int) (n i : Nat) : Nat:=if 0 < i then nn l (nn l (yJ l n)) else yJ l n
def la (l : List Int) (n : Nat) : Int:=A3 (nx l (nn l (nn l n)) 8)
def A4 (l : List Int) (n i : Nat) : Int:=if la l n=0 then 0 else if la l n=4∨la l n=5 then wr (wr (-nx l (jV l n i) 3) * 65536) else wr ((wr (wr (-nx l (jV l n i) 5) * 65536)).tdiv 8)
def A5 (l : List Int) (n i : Nat) : Int:=if la l n=0 then 0 else if la l n=4∨la l n=5 then wr (nx l (nn l (jV l n i)) 4 * 32768) else wr (wr ((wr (wr (1+nx l (nn l (jV l n i)) 4) * 65536)).tdiv 8)+nx l (nn l (nn l (jV l n i))) 3)
def uB (l : List Int) (n i : Nat) : Nat:=if la l n=0 then jV l n i else if la l n=4∨la l n=5 then nn l (nn l (jV l n i)) else nn l (nn l (nn l (jV l n i)))
def mg (l : List Int) (n i : Nat) : J where
 name:=uA i
 kind:=la l n
 parent:=if nx l (nn l (nn l (nn l n))) 4=1 then -1 else wr ((i : Int) - 1)
 ox:=if 0 < i then 131072 else 0
 oy:=if 0 < i then wr (wr (nx l (yJ l n) 5 - 2) * 32768) else 0
 oz:=if 0 < i then wr (wr (nx l (nn l (yJ l n)) 3 - 1) * 32768) else 0
 lo:=A4 l n i
 hi:=A5 l n i
 w:=wr (1+nx l n 4)
 sp:=65536
 ac:=wr (65536+nx l (nn l n) 3)
 tq:=327680
theorem Gb (l : List Int) (n i : Nat) (h3 : i < 3) (hn : n < 900000) : ah Tryz.prog 34 [.bx 0,.pv (Z i)] [iu l n] [iu l (uB l n i)] (.pv (gq (mg l n i))):=by
 have hx:=dl l (nn l (nn l n)) (k:=8) (by decide) (by decide)
 have l1:=bS l n
 have l2:=bS l (nn l n)
 have l3:=bS l (nn l (nn l n))
 have l4:=bS l (nn l (nn l (nn l n)))
 have l5:=bS l (nn l (nn l (nn l (nn l n))))
 have l6:=bS l (nn l (nn l (nn l (nn l (nn l n)))))
 have l7:=bS l (nn l (nn l (nn l (nn l (nn l (nn l n))))))
 have l8:=bS l (nn l (nn l (nn l (nn l (nn l (nn l (nn l n)))))))
 have l9:=bS l (nn l (nn l (nn l (nn l (nn l (nn l (nn l (nn l n))))))))
 have hix:=DH hx.1 hx.2
 refine nj Tryz.func34 rfl (by kernel_rfl) (by simp [Tryz.f34]) rfl (by intro i j h;rcases i with _|_|_|i<;>simp_all) ?_
 intro C hP hN
 simp only [Tryz.f34] at hN ⊢
 with_reducible repeat' (first|refine Sp.h ?_|((first|refine Ss.h ?_|refine Sc.h (Ir i h3) ?_|refine Sc.h (eo l _ _ (by decide) (by omega)) ?_|refine Sc.h (sB l _ _ (by decide) (by decide) (by omega)) ?_|(refine Sb.h ?_ ?_ ?_<;>(try intro hgd)<;>try exact Xy))<;>simp -implicitDefEqProofs (maxSteps:=2000000) [hP,hN,iu,hix,hx.1,hx.2])|refine X2 ?_ ?_|(refine Xd ?_ ?_<;>intro hcd<;>try exact Xx))
 all_goals (clear hix hP hN l1 l2 l3 l4 l5 l6 l7 l8 l9 hx h3 hn;simp_all [mg,uB,A4,A5,la,jV,yJ])
end Go.Ab
namespace Go.Ab
open Go.Proofs
structure Ms where
 link : Int
 mass : Int
 px : Int
 py : Int
 pz : Int
abbrev eG (m : Ms) : PV:=.val (.agg #[.int .i64 m.link,.int .i64 m.mass,.int .i64 m.px,.int .i64 m.py,.int .i64 m.pz])
def oG (l : List Int) (m : Nat) : Nat→Nat
 |0=>m
 |i+1=>uB l (oG l m i) i
theorem Ex (l : List Int) (n i : Nat) : jV l n i≤n+6:=by
 have l1:=bS l n
 have l2:=bS l (nn l n)
 have l3:=bS l (nn l (nn l n))
 have l4:=bS l (nn l (nn l (nn l n)))
 have l5:=bS l (nn l (nn l (nn l (nn l n))))
 have l6:=bS l (nn l (nn l (nn l (nn l (nn l n)))))
 unfold jV yJ;split<;>omega
theorem DP (l : List Int) (n i : Nat) : uB l n i≤n+9:=by
 have h:=Ex l n i
 have l1:=bS l (jV l n i)
 have l2:=bS l (nn l (jV l n i))
 have l3:=bS l (nn l (nn l (jV l n i)))
 unfold uB;split
 ·omega
 ·split<;>omega
theorem wU (l : List Int) (m i : Nat) : oG l m i≤m+9 * i:=by
 induction i with
 |zero=>simp [oG]
 |succ i ih=>have:=DP l (oG l m i) i;simp only [oG];omega
def tL (l : List Int) (m k : Nat) : List J:=(List.range k).map fun i=>mg l (oG l m i) i
theorem B3 (l : List Int) (m k : Nat) : (tL l m (k+1)).map gq=(tL l m k).map gq++[gq (mg l (oG l m k) k)]:=by simp [tL,List.range_succ]
theorem pg (l : List Int) (m k : Nat) : (tL l m k).length=k:=by simp [tL]
def lc (l : List Int) (m : Nat) : Nat→Nat
 |0=>m
 |i+1=>nn l (nn l (nn l (nn l (lc l m i))))
theorem A6 (l : List Int) (m i : Nat) : lc l m i≤m+4 * i:=by
 induction i with
 |zero=>simp [lc]
 |succ i ih=>
  have l1:=bS l (lc l m i)
  have l2:=bS l (nn l (lc l m i))
  have l3:=bS l (nn l (nn l (lc l m i)))
  have l4:=bS l (nn l (nn l (nn l (lc l m i))))
  simp only [lc];omega
def vY (l : List Int) (m : Nat) (n : Int) : Ms where
 link:=nx l m n
 mass:=wr (1+nx l (nn l m) 9000)
 px:=wr (wr (nx l (nn l (nn l m)) 7 - 3) * 32768)
 py:=0
 pz:=wr (wr (nx l (nn l (nn l (nn l m))) 5 - 2) * 32768)
def tM (l : List Int) (m : Nat) (n : Int) (k : Nat) : List Ms:=(List.range k).map fun i=>vY l (lc l m i) n
theorem B4 (l : List Int) (m : Nat) (n : Int) (k : Nat) : (tM l m n (k+1)).map eG=(tM l m n k).map eG++[eG (vY l (lc l m k) n)]:=by simp [tM,List.range_succ]
theorem uC (l : List Int) (m : Nat) (n : Int) (k : Nat) : (tM l m n k).length=k:=by simp [tM]
abbrev gk : AV:=.pv (.val (.slice none 0 0))
def rN (l : List Int) (n : Nat) : Nat:=(1+nx l n 3).toNat
def rM (l : List Int) (n : Nat) : Nat:=oG l (nn l n) (rN l n)
def rK (l : List Int) (n : Nat) : Nat:=(nx l (rM l n) 3).toNat
def jW (l : List Int) (n : Nat) : List J:=tL l (nn l n) (rN l n)
def oH (l : List Int) (n : Nat) : List Ms:=tM l (nn l (rM l n)) (rN l n) (rK l n)
def rj (l : List Int) (n : Nat) : Nat:=lc l (nn l (rM l n)) (rK l n)
theorem It (l : List Int) (n : Nat) (hn : n < 100000) : ah Tryz.prog 12 [.bx 0] [iu l n] [iu l (rj l n)] (.pv (.agg [.sl ((jW l n).map gq),.sl ((oH l n).map eG)])):=by
 have hx:=dl l n (k:=3) (by decide) (by decide)
 have hw1 : IntKind.i64.wrap (1+nx l n 3)=((rN l n : Nat) : Int):=by rw [IntKind.wrap_i64,rN];omega
 have hrN : rN l n≤3∧0 < rN l n:=by unfold rN;omega
 have hl1:=bS l n
 refine nj Tryz.func12 rfl (by kernel_rfl) (by simp [Tryz.f12]) rfl (by intro i j h;rcases i with _|_|_|i<;>simp_all) ?_
 intro C hP hN
 simp only [Tryz.f12] at hN ⊢
 with_reducible repeat' (first|refine Sp.h ?_|((first|refine Wd ?_|refine Ss.h ?_|refine Sc.h (eo l n 3 (by decide) (by omega)) ?_|(refine Sb.h ?_ ?_ ?_<;>(try intro hgd)<;>try exact Xy))<;>simp -implicitDefEqProofs (maxSteps:=2000000) [hP,hN,iu,hw1]<;>try refine Ya ?_)|refine X2 ?_ ?_|(refine Xd ?_ ?_<;>intro hcd<;>try exact Xx))
 refine WP.loopN [20] (rN l n) (fun i st=>st.t 0=.ptr (pk 0) 0∧st.t 2=.ptr 2 0∧st.t 3=.ptr 3 0∧st.t 4=.pv (Z (rN l n))∧st.t 5=.pv (Z i)∧
  st.h (pk 0)=some (.box [.pv (zs l),.pv (Z (oG l (nn l n) i))] false false)∧st.h 2=some (.box [gk,gk] true false)∧st.h 20=none∧st.h 45=none∧st.h 46=none∧
  ((i=0∧st.h 3=some (.box [gk,gk] true false)∧st.h 21=none)∨(0 < i∧st.h 3=some (.box [.arr 21 i,gk] true false)∧st.h 21=some (.row 58 12 ((tL l (nn l n) i).map gq) 0)))) (by simp [oG]) ?_
 rintro i st hi ⟨h0,h2,h3,h4,h5,hp,hb2,hb20,hb45,hb46,hor⟩
 by_cases hlt : i < rN l n
 ·have hw : IntKind.i64.wrap ((i : Int)+1)=(i : Int)+1:=by rw [IntKind.wrap_i64];omega
  have hm:=wU l (nn l n) i
  have hJ:=B3 l (nn l n) i
  have hS : oG l (nn l n) (i+1)=uB l (oG l (nn l n) i) i:=rfl
  rcases hor with ⟨hi0,hb3,hb21⟩|⟨hi0,hb3,hb21⟩
  ·subst hi0
   with_reducible repeat' (first|refine Sp.h ?_|((first|refine Wd ?_|refine Ss.h ?_|refine Sc.h (Gb l _ 0 (by omega) (by omega)) ?_|(refine Sb.h ?_ ?_ ?_<;>(try intro hgd)<;>try exact Xy))<;>simp -implicitDefEqProofs (maxSteps:=2000000) [hP,hN,h0,h2,h3,h4,h5,hp,hb2,hb20,hb45,hb46,hb3,hb21,hlt,hw,hS]<;>try refine Ya ?_)|refine X2 ?_ ?_|(refine Xd ?_ ?_<;>intro hcd<;>try exact Xx))
   exact ⟨by decide,by simp [tL]⟩
  ·have hz:=pg l (nn l n) i
   with_reducible repeat' (first|refine Sp.h ?_|((first|refine Wd ?_|refine Ss.h ?_|refine Sc.h (Gb l _ i (by omega) (by omega)) ?_|(refine Sb.h ?_ ?_ ?_<;>(try intro hgd)<;>try exact Xy))<;>simp -implicitDefEqProofs (maxSteps:=2000000) [hP,hN,h0,h2,h3,h4,h5,hp,hb2,hb20,hb45,hb46,hb3,hb21,hlt,hw,hS,hz,show (i+1) * 104≤140737488355328 by omega,show i≤9223372036854775806 by omega]<;>try refine Ya ?_)|refine X2 ?_ ?_|(refine Xd ?_ ?_<;>intro hcd<;>try exact Xx))
   simp [hJ]
 ·have hir : i=rN l n:=by omega
  rcases hor with ⟨hi0,_⟩|⟨hi0,hb3,hb21⟩
  ·omega
  subst hir
  have hm:=wU l (nn l n) (rN l n)
  have hx3:=dl l (rM l n) (k:=3) (by decide) (by decide)
  have hk : nx l (oG l (nn l n) (rN l n)) 3=((rK l n : Nat) : Int):=by show nx l (rM l n) 3=_;unfold rK;omega
  have hk3 : rK l n < 3:=by unfold rK;omega
  have hz:=pg l (nn l n) (rN l n)
  have hl2:=bS l (rM l n)
  have hmr : rM l n≤nn l n+9 * rN l n:=hm
  with_reducible repeat' (first|refine Sp.h ?_|((first|refine Wd ?_|refine Ss.h ?_|refine Sc.h (eo l _ 3 (by decide) (by omega)) ?_|(refine Sb.h ?_ ?_ ?_<;>(try intro hgd)<;>try exact Xy))<;>simp -implicitDefEqProofs (maxSteps:=2000000) [hP,hN,h0,h2,h3,h4,h5,hp,hb2,hb20,hb45,hb46,hb3,hb21,hlt,hk]<;>try refine Ya ?_)|refine X2 ?_ ?_|(refine Xd ?_ ?_<;>intro hcd<;>try exact Xx))
  refine WP.loopN [] (rK l n) (fun i st=>st.t 0=.ptr (pk 0) 0∧st.t 2=.ptr 2 0∧st.t 3=.ptr 3 0∧st.t 4=.pv (Z (rN l n))∧st.t 6=.pv (Z ((rK l n : Int) - i))∧
   st.h (pk 0)=some (.box [.pv (zs l),.pv (Z (lc l (nn l (rM l n)) i))] false false)∧st.h 2=some (.box [gk,gk] true false)∧st.h 45=none∧st.h 21=some (.row 58 12 ((jW l n).map gq) 0)∧
   ((i=0∧st.h 3=some (.box [.arr 21 (rN l n),gk] true false)∧st.h 46=none)∨(0 < i∧st.h 3=some (.box [.arr 21 (rN l n),.arr 46 i] true false)∧st.h 46=some (.row 98 5 ((tM l (nn l (rM l n)) (rN l n) i).map eG) 0)))) (by simp [h0,h2,h3,h4,hb2,hb45,hb46,hb3,hb21,lc,rM,jW]) ?_
  clear hb2 hb20 hb45 hb46 hb3 hb21 hp h0 h2 h3 h4 h5
  rintro i st hi ⟨h0,h2,h3,h4,h6,hp,hb2,hb45,hb21,hor⟩
  by_cases hlt : i < rK l n
  ·have hw : IntKind.i64.wrap ((rK l n : Int) - i - 1)=(rK l n : Int) - ((i : Int)+1):=by rw [IntKind.wrap_i64];omega
   have hgt : (0 : Int) < (rK l n : Int) - i:=by omega
   have hm2:=A6 l (nn l (rM l n)) i
   have l1:=bS l (lc l (nn l (rM l n)) i)
   have l2:=bS l (nn l (lc l (nn l (rM l n)) i))
   have l3:=bS l (nn l (nn l (lc l (nn l (rM l n)) i)))
   have hJ:=B4 l (nn l (rM l n)) (rN l n) i
   have hS : lc l (nn l (rM l n)) (i+1)=nn l (nn l (nn l (nn l (lc l (nn l (rM l n)) i)))):=rfl
   have hne : ((rN l n : Nat) : Int)≠0:=by omega
   rcases hor with ⟨hi0,hb3,hb46⟩|⟨hi0,hb3,hb46⟩
   ·subst hi0
    with_reducible repeat' (first|refine Sp.h ?_|((first|refine Wd ?_|refine Ss.h ?_|refine Sc.h (eo l _ _ hne (by omega)) ?_|refine Sc.h (eo l _ _ (by decide) (by omega)) ?_|refine Sc.h (sB l _ _ (by decide) (by decide) (by omega)) ?_|(refine Sb.h ?_ ?_ ?_<;>(try intro hgd)<;>try exact Xy))<;>simp -implicitDefEqProofs (maxSteps:=2000000) [hP,hN,h0,h2,h3,h4,h6,hp,hb2,hb45,hb46,hb3,hb21,hlt,hw,hgt,hS]<;>try refine Ya ?_)|refine X2 ?_ ?_|(refine Xd ?_ ?_<;>intro hcd<;>try exact Xx))
    exact ⟨by rw [IntKind.wrap_i64];omega,by simp [tM,vY,lc]⟩
   ·have hz:=uC l (nn l (rM l n)) (rN l n) i
    with_reducible repeat' (first|refine Sp.h ?_|((first|refine Wd ?_|refine Ss.h ?_|refine Sc.h (eo l _ _ hne (by omega)) ?_|refine Sc.h (eo l _ _ (by decide) (by omega)) ?_|refine Sc.h (sB l _ _ (by decide) (by decide) (by omega)) ?_|(refine Sb.h ?_ ?_ ?_<;>(try intro hgd)<;>try exact Xy))<;>simp -implicitDefEqProofs (maxSteps:=2000000) [hP,hN,h0,h2,h3,h4,h6,hp,hb2,hb45,hb46,hb3,hb21,hlt,hw,hgt,hS,hz,show (i+1) * 40≤140737488355328 by omega,show i≤9223372036854775806 by omega]<;>try refine Ya ?_)|refine X2 ?_ ?_|(refine Xd ?_ ?_<;>intro hcd<;>try exact Xx))
    simp [hJ,vY]
  ·have hir : i=rK l n:=by omega
   subst hir
   have hzJ : (jW l n).length=rN l n:=pg l (nn l n) (rN l n)
   have hzM:=uC l (nn l (rM l n)) (rN l n) (rK l n)
   rcases hor with ⟨hi0,hb3,hb46⟩|⟨hi0,hb3,hb46⟩
   ·skip
    with_reducible repeat' (first|refine Sp.h ?_|((first|refine Wd ?_|refine Ss.h ?_|(refine Sb.h ?_ ?_ ?_<;>(try intro hgd)<;>try exact Xy))<;>simp -implicitDefEqProofs (maxSteps:=2000000) [hP,hN,h0,h2,h3,h4,h6,hp,hb2,hb45,hb46,hb3,hb21,hi0,hzJ]<;>try refine Ya ?_)|refine X2 ?_ ?_|(refine Xd ?_ ?_<;>intro hcd<;>try exact Xx))
    all_goals simp [rj,oH,hi0,tM]
   ·skip
    with_reducible repeat' (first|refine Sp.h ?_|((first|refine Wd ?_|refine Ss.h ?_|(refine Sb.h ?_ ?_ ?_<;>(try intro hgd)<;>try exact Xy))<;>simp -implicitDefEqProofs (maxSteps:=2000000) [hP,hN,h0,h2,h3,h4,h6,hp,hb2,hb45,hb46,hb3,hb21,hzJ,hzM]<;>try refine Ya ?_)|refine X2 ?_ ?_|(refine Xd ?_ ?_<;>intro hcd<;>try exact Xx))
    all_goals simp [rj,oH]
abbrev jq (js : List J) (ms : List Ms) : PV:=.agg [.sl (js.map gq),.sl (ms.map eG)]
end Go.Ab
namespace Go.Ab
open Go.Proofs
def rk (j : J) : Prop:=-1000000≤j.lo∧j.lo≤j.hi∧j.hi≤1000000
theorem B5 (l : List Int) (n i : Nat) : rk (mg l n i)∧(mg l n i).lo≤0∧0≤(mg l n i).hi:=by
 have h1:=dl l (jV l n i) (k:=3) (by decide) (by decide)
 have h2:=dl l (jV l n i) (k:=5) (by decide) (by decide)
 have h3:=dl l (nn l (jV l n i)) (k:=4) (by decide) (by decide)
 have h4:=dl l (nn l (nn l (jV l n i))) (k:=3) (by decide) (by decide)
 have hlo : -1000000≤A4 l n i∧A4 l n i≤0:=by
  unfold A4
  generalize nx l (jV l n i) 3=a at *
  generalize nx l (jV l n i) 5=b at *
  split
  ·omega
  ·split
   ·simp only [wr,IntKind.wrap_i64];omega
   ·have : b=0∨b=1∨b=2∨b=3∨b=4:=by omega
    rcases this with rfl|rfl|rfl|rfl|rfl<;>decide
 have hhi : 0≤A5 l n i∧A5 l n i≤1000000:=by
  unfold A5
  generalize nx l (nn l (jV l n i)) 4=a at *
  generalize nx l (nn l (nn l (jV l n i))) 3=b at *
  split
  ·omega
  ·split
   ·simp only [wr,IntKind.wrap_i64];omega
   ·have ha : ∀ c : Int,0≤c→c < 4→0≤wr ((wr (wr (1+c) * 65536)).tdiv 8)∧wr ((wr (wr (1+c) * 65536)).tdiv 8)≤32768:=by
     intro c h0 h4
     have : c=0∨c=1∨c=2∨c=3:=by omega
     rcases this with rfl|rfl|rfl|rfl<;>decide
    have:=ha a h3.1 h3.2
    rw [ao (n:=wr ((wr (wr (1+a) * 65536)).tdiv 8)+b) (by omega) (by omega)];omega
 simp only [rk,mg];omega
theorem A7 (l : List Int) (n : Nat) : ∀ j ∈ jW l n,rk j:=by
 intro j hj
 simp only [jW,tL,List.mem_map] at hj
 obtain ⟨i,_,rfl⟩:=hj
 exact (B5 l _ i).1
theorem yL (l : List Int) (n : Nat) : (jW l n).length≤3∧0 < (jW l n).length:=by
 have hx:=dl l n (k:=3) (by decide) (by decide)
 rw [jW,pg,rN];omega
end Go.Ab
namespace Go.Ab
open Go.Proofs
theorem v9 {P : Program} (d : Nat) (t : TypeId) (a b : Bool) (h : P.underlying t=some .bool) : ai P (Op.equalIn (d+1) t (.bool a) (.bool b))=some (a==b):=by
 simp only [Op.equalIn,ag,dS h,Option.bind_some];rfl
def aJ (x y : AV) : Option (Bool × Bool):=match x,y with
 |.pv (.val (.bool a)),.pv (.val (.bool b))=>some (a,b)
 |_,_=>none
def uO (x y : AV) (fb : Option bw) : Option bw:=match aJ x y with
 |some (a,b)=>some (.pv (.val (.bool (a==b))),[])
 |none=>fb
@[simp] theorem yv (a b : Bool) (fb : Option bw) : uO (.pv (.val (.bool a))) (.pv (.val (.bool b))) fb=some (.pv (.val (.bool (a==b))),[]):=rfl
@[simp] theorem AJ {dst : Option Nat} {ty : TypeId} {pos : String} {aft : Array Edge} {g : Option (Nat × Bool)} {ρ : Operand→AV} (x y : Operand) :
 bf Tryz.prog ⟨dst,.binOp .eql 4 x y 4,ty,pos,aft,g⟩ ρ=uO (ρ x) (ρ y) (i9 Tryz.prog ⟨dst,.binOp .eql 4 x y 4,ty,pos,aft,g⟩ ρ):=by
 unfold uO
 split
 ·rename_i a b h
  unfold aJ at h
  split at h
  ·rename_i a' b' hx hy
   injection h with h;injection h with h1 h2;subst h1;subst h2
   refine bV (by simp [Op.operands,hx,hy,cL]) ?_
   unfold execOp
   simp only [(aR hx).2,(aR hy).2]
   have h1 : ai Tryz.prog (eqGuard .eql 4 x y (.bool a') (.bool b'))=some ():=by kernel_rfl
   have h2 : ai Tryz.prog (binOp .eql 4 (.bool a') (.bool b'))=some (.bool (a'==b')):=by
    simp only [binOp,ag]
    rw [show ai Tryz.prog (Op.equal 4 (.bool a') (.bool b'))=some (a'==b') from v9 9999 4 a' b' Tryz.underlying4]
    rfl
   simp only [ag,h1,h2,Option.bind_some];rfl
  ·cases h
 ·rfl
def Ey (xs : List (Int × Int)) (ys : List Int) : Bool:=decide (xs.length=ys.length) && ri GR xs ys
def Ez (x y : Int × Int) : Bool:=bG x.1 x.2 && bG y.1 y.2 && decide (max x.1 y.1≤min x.2 y.2)
def tN (xs ys : List (Int × Int)) : Bool:=decide (xs.length=ys.length) && ri Ez xs ys
end Go.Ab
