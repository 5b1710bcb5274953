/- The contracts and facts that the laws of this seat need, in one text (Ty, CfA). -/
import Derived.Test.YtpbakcmohoahgaaGreatU3
import Derived.Test.YtpbakcmohoahgaaGreatProg
set_option linter.all false
set_option maxHeartbeats 16000000
namespace Go.Ab
open Go.Proofs
@[simp] theorem GK : ae Tryz.prog 2=some ⟨1,(some (.int .i64 0)),.one⟩:=by kernel_rfl
@[simp] theorem GL : bm Tryz.prog 2=some .i64:=by kernel_rfl
@[simp] theorem GM : ae Tryz.prog 3=some ⟨1,(some (.int .i64 0)),.one⟩:=by kernel_rfl
@[simp] theorem GN : bm Tryz.prog 3=some .i64:=by kernel_rfl
@[simp] theorem GO : ae Tryz.prog 4=some ⟨1,(some (.bool false)),.one⟩:=by kernel_rfl
@[simp] theorem GP : ae Tryz.prog 5=some ⟨1,(some (.int .u8 0)),.one⟩:=by kernel_rfl
@[simp] theorem GQ : bm Tryz.prog 5=some .u8:=by kernel_rfl
@[simp] theorem GR : ae Tryz.prog 6=some ⟨1,(some (.int .u8 0)),.one⟩:=by kernel_rfl
@[simp] theorem GS : bm Tryz.prog 6=some .u8:=by kernel_rfl
@[simp] theorem GT : ae Tryz.prog 7=some ⟨4,(some (.agg #[.int .i64 0,.int .i64 0,.bool false,.int .u8 0])),.struct [(0,1),(1,1),(2,1),(3,1)]⟩:=by kernel_rfl
@[simp] theorem GU : ae Tryz.prog 8=some ⟨4,(some (.agg #[.int .i64 0,.int .i64 0,.bool false,.int .u8 0])),.struct [(0,1),(1,1),(2,1),(3,1)]⟩:=by kernel_rfl
@[simp] theorem GV : ae Tryz.prog 9=some ⟨1,(some (.string ByteArray.empty)),.one⟩:=by kernel_rfl
@[simp] theorem GW : df Tryz.prog 9=some none:=by kernel_rfl
@[simp] theorem FW : ae Tryz.prog 10=some ⟨1,(some (.string ByteArray.empty)),.one⟩:=by kernel_rfl
@[simp] theorem FX : df Tryz.prog 10=some none:=by kernel_rfl
@[simp] theorem FY : ae Tryz.prog 11=some ⟨1,(some (.string ByteArray.empty)),.one⟩:=by kernel_rfl
@[simp] theorem FZ : df Tryz.prog 11=some none:=by kernel_rfl
@[simp] theorem F0 : ae Tryz.prog 12=some ⟨1,(some (.int .u64 0)),.one⟩:=by kernel_rfl
@[simp] theorem F1 : bm Tryz.prog 12=some .u64:=by kernel_rfl
@[simp] theorem F2 : ae Tryz.prog 13=some ⟨2,(some (.agg #[.string ByteArray.empty,.int .u64 0])),.struct [(0,1),(1,1)]⟩:=by kernel_rfl
@[simp] theorem F3 : ae Tryz.prog 14=some ⟨2,(some (.agg #[.string ByteArray.empty,.int .u64 0])),.struct [(0,1),(1,1)]⟩:=by kernel_rfl
@[simp] theorem F4 : ae Tryz.prog 15=some ⟨1,(some (.pointer none)),.one⟩:=by kernel_rfl
@[simp] theorem F5 : ae Tryz.prog 16=some ⟨1,(some (.pointer none)),.one⟩:=by kernel_rfl
@[simp] theorem F6 : ae Tryz.prog 17=some ⟨1,(some (.pointer none)),.one⟩:=by kernel_rfl
@[simp] theorem F7 : ae Tryz.prog 18=some ⟨1,(some (.agg #[.pointer none])),.struct [(0,1)]⟩:=by kernel_rfl
@[simp] theorem F8 : ae Tryz.prog 19=some ⟨1,(some (.agg #[.pointer none])),.struct [(0,1)]⟩:=by kernel_rfl
@[simp] theorem F9 : ae Tryz.prog 21=some ⟨1,(some (.int .i32 0)),.one⟩:=by kernel_rfl
@[simp] theorem Ga : bm Tryz.prog 21=some .i32:=by kernel_rfl
@[simp] theorem Gb : ae Tryz.prog 22=some ⟨1,(some (.slice none 0 0)),.slice 3 1 8 (some (.int .i64 0))⟩:=by kernel_rfl
@[simp] theorem Gc : ae Tryz.prog 23=some ⟨1,(some (.slice none 0 0)),.slice 131 12 104 (some (.agg #[.string ByteArray.empty,.int .i64 0,.int .i64 0,.int .i64 0,.int .i64 0,.int .i64 0,.int .i64 0,.int .i64 0,.int .i64 0,.int .i64 0,.int .i64 0,.int .i64 0]))⟩:=by kernel_rfl
@[simp] theorem Gd : ae Tryz.prog 24=some ⟨1,(some (.slice none 0 0)),.slice 238 5 40 (some (.agg #[.int .i64 0,.int .i64 0,.int .i64 0,.int .i64 0,.int .i64 0]))⟩:=by kernel_rfl
@[simp] theorem Ge : ae Tryz.prog 25=some ⟨2,(some (.agg #[.slice none 0 0,.slice none 0 0])),.struct [(0,1),(1,1)]⟩:=by kernel_rfl
@[simp] theorem Gf : ae Tryz.prog 26=some ⟨2,(some (.agg #[.slice none 0 0,.slice none 0 0])),.struct [(0,1),(1,1)]⟩:=by kernel_rfl
@[simp] theorem Gg : ae Tryz.prog 27=some ⟨1,(some (.slice none 0 0)),.slice 85 3 40 (some (.agg #[.int .i64 0,.int .i64 0,.slice none 0 0]))⟩:=by kernel_rfl
@[simp] theorem Gh : ae Tryz.prog 28=some ⟨1,(some (.slice none 0 0)),.slice 129 2 16 (some (.agg #[.int .i64 0,.int .i64 0]))⟩:=by kernel_rfl
@[simp] theorem Gi : ae Tryz.prog 29=some ⟨4,(some (.agg #[.slice none 0 0,.slice none 0 0,.slice none 0 0,.slice none 0 0])),.struct [(0,2),(2,1),(3,1)]⟩:=by kernel_rfl
@[simp] theorem Gj : ae Tryz.prog 30=some ⟨4,(some (.agg #[.slice none 0 0,.slice none 0 0,.slice none 0 0,.slice none 0 0])),.struct [(0,2),(2,1),(3,1)]⟩:=by kernel_rfl
@[simp] theorem Gk : ae Tryz.prog 32=some ⟨1,(some (.slice none 0 0)),.slice 83 2 16 (some (.agg #[.int .i64 0,.int .i64 0]))⟩:=by kernel_rfl
@[simp] theorem Gl : ae Tryz.prog 34=some ⟨1,(some (.slice none 0 0)),.slice 54 8 112 (some (.agg #[.int .i64 0,.int .i64 0,.int .i64 0,.int .i64 0,.slice none 0 0,.int .i64 0,.slice none 0 0,.slice none 0 0]))⟩:=by kernel_rfl
@[simp] theorem Gm : ae Tryz.prog 35=some ⟨2,(some (.agg #[.slice none 0 0,.slice none 0 0])),.struct [(0,1),(1,1)]⟩:=by kernel_rfl
@[simp] theorem Gn : ae Tryz.prog 36=some ⟨2,(some (.agg #[.slice none 0 0,.slice none 0 0])),.struct [(0,1),(1,1)]⟩:=by kernel_rfl
@[simp] theorem Gp : ae Tryz.prog 39=some ⟨1,(some (.slice none 0 0)),.slice 126 3 24 (some (.agg #[.int .i64 0,.int .i64 0,.int .i64 0]))⟩:=by kernel_rfl
@[simp] theorem Gq : ae Tryz.prog 40=some ⟨1,(some (.slice none 0 0)),.slice 2 1 8 (some (.int .i64 0))⟩:=by kernel_rfl
@[simp] theorem Gr : ae Tryz.prog 41=some ⟨3,(some (.agg #[.int .i64 0,.slice none 0 0,.slice none 0 0])),.struct [(0,1),(1,1),(2,1)]⟩:=by kernel_rfl
@[simp] theorem Gs : ae Tryz.prog 42=some ⟨3,(some (.agg #[.int .i64 0,.slice none 0 0,.slice none 0 0])),.struct [(0,1),(1,1),(2,1)]⟩:=by kernel_rfl
@[simp] theorem Gt : ae Tryz.prog 43=some ⟨5,(some (.agg #[.int .i64 0,.slice none 0 0,.int .i64 0,.slice none 0 0,.slice none 0 0])),.struct [(0,1),(1,1),(2,3)]⟩:=by kernel_rfl
@[simp] theorem Gu : ae Tryz.prog 44=some ⟨5,(some (.agg #[.int .i64 0,.slice none 0 0,.int .i64 0,.slice none 0 0,.slice none 0 0])),.struct [(0,1),(1,1),(2,3)]⟩:=by kernel_rfl
@[simp] theorem Gv : ae Tryz.prog 53=some ⟨8,(some (.agg #[.int .i64 0,.int .i64 0,.int .i64 0,.int .i64 0,.slice none 0 0,.int .i64 0,.slice none 0 0,.slice none 0 0])),.struct [(0,1),(1,1),(2,1),(3,5)]⟩:=by kernel_rfl
@[simp] theorem Gw : ae Tryz.prog 54=some ⟨8,(some (.agg #[.int .i64 0,.int .i64 0,.int .i64 0,.int .i64 0,.slice none 0 0,.int .i64 0,.slice none 0 0,.slice none 0 0])),.struct [(0,1),(1,1),(2,1),(3,5)]⟩:=by kernel_rfl
@[simp] theorem Gx : ae Tryz.prog 65=some ⟨1,(some (.slice none 0 0)),.slice 40 1 24 (some (.slice none 0 0))⟩:=by kernel_rfl
@[simp] theorem Gy : ae Tryz.prog 66=some ⟨1,(some (.slice none 0 0)),.slice 76 2 48 (some (.agg #[.slice none 0 0,.slice none 0 0]))⟩:=by kernel_rfl
@[simp] theorem Gz : ae Tryz.prog 67=some ⟨2,(some (.agg #[.slice none 0 0,.slice none 0 0])),.struct [(0,1),(1,1)]⟩:=by kernel_rfl
@[simp] theorem GA : ae Tryz.prog 68=some ⟨2,(some (.agg #[.slice none 0 0,.slice none 0 0])),.struct [(0,1),(1,1)]⟩:=by kernel_rfl
@[simp] theorem GB : ae Tryz.prog 71=some ⟨1,(some (.int .i64 0)),.one⟩:=by kernel_rfl
@[simp] theorem GC : bm Tryz.prog 71=some .i64:=by kernel_rfl
@[simp] theorem GD : ae Tryz.prog 74=some ⟨1,(some (.slice none 0 0)),.slice 280 3 40 (some (.agg #[.int .i64 0,.int .i64 0,.slice none 0 0]))⟩:=by kernel_rfl
@[simp] theorem GE : ae Tryz.prog 75=some ⟨2,(some (.agg #[.slice none 0 0,.slice none 0 0])),.struct [(0,1),(1,1)]⟩:=by kernel_rfl
@[simp] theorem GF : ae Tryz.prog 76=some ⟨2,(some (.agg #[.slice none 0 0,.slice none 0 0])),.struct [(0,1),(1,1)]⟩:=by kernel_rfl
@[simp] theorem GG : ae Tryz.prog 82=some ⟨2,(some (.agg #[.int .i64 0,.int .i64 0])),.struct [(0,1),(1,1)]⟩:=by kernel_rfl
@[simp] theorem GH : ae Tryz.prog 83=some ⟨2,(some (.agg #[.int .i64 0,.int .i64 0])),.struct [(0,1),(1,1)]⟩:=by kernel_rfl
@[simp] theorem GI : ae Tryz.prog 84=some ⟨3,(some (.agg #[.int .i64 0,.int .i64 0,.slice none 0 0])),.struct [(0,1),(1,1),(2,1)]⟩:=by kernel_rfl
@[simp] theorem GJ : ae Tryz.prog 85=some ⟨3,(some (.agg #[.int .i64 0,.int .i64 0,.slice none 0 0])),.struct [(0,1),(1,1),(2,1)]⟩:=by kernel_rfl
@[simp] theorem DK : ae Tryz.prog 101=some ⟨4,(some (.agg #[.int .i64 0,.int .i64 0,.int .i64 0,.int .i64 0])),.struct [(0,1),(1,1),(2,1),(3,1)]⟩:=by kernel_rfl
@[simp] theorem DL : ae Tryz.prog 102=some ⟨4,(some (.agg #[.int .i64 0,.int .i64 0,.int .i64 0,.int .i64 0])),.struct [(0,1),(1,1),(2,1),(3,1)]⟩:=by kernel_rfl
@[simp] theorem DM : ae Tryz.prog 120=some ⟨1,(some (.pointer none)),.one⟩:=by kernel_rfl
@[simp] theorem DN : ae Tryz.prog 125=some ⟨3,(some (.agg #[.int .i64 0,.int .i64 0,.int .i64 0])),.array 3 1⟩:=by kernel_rfl
@[simp] theorem DO : df Tryz.prog 125=some (some 3):=by kernel_rfl
@[simp] theorem DP : ae Tryz.prog 126=some ⟨3,(some (.agg #[.int .i64 0,.int .i64 0,.int .i64 0])),.array 3 1⟩:=by kernel_rfl
@[simp] theorem DQ : df Tryz.prog 126=some (some 3):=by kernel_rfl
@[simp] theorem DR : ae Tryz.prog 128=some ⟨2,(some (.agg #[.int .i64 0,.int .i64 0])),.struct [(0,1),(1,1)]⟩:=by kernel_rfl
@[simp] theorem DS : ae Tryz.prog 129=some ⟨2,(some (.agg #[.int .i64 0,.int .i64 0])),.struct [(0,1),(1,1)]⟩:=by kernel_rfl
@[simp] theorem DT : ae Tryz.prog 130=some ⟨12,(some (.agg #[.string ByteArray.empty,.int .i64 0,.int .i64 0,.int .i64 0,.int .i64 0,.int .i64 0,.int .i64 0,.int .i64 0,.int .i64 0,.int .i64 0,.int .i64 0,.int .i64 0])),.struct [(0,1),(1,1),(2,1),(3,3),(6,1),(7,1),(8,1),(9,1),(10,1),(11,1)]⟩:=by kernel_rfl
@[simp] theorem DU : ae Tryz.prog 131=some ⟨12,(some (.agg #[.string ByteArray.empty,.int .i64 0,.int .i64 0,.int .i64 0,.int .i64 0,.int .i64 0,.int .i64 0,.int .i64 0,.int .i64 0,.int .i64 0,.int .i64 0,.int .i64 0])),.struct [(0,1),(1,1),(2,1),(3,3),(6,1),(7,1),(8,1),(9,1),(10,1),(11,1)]⟩:=by kernel_rfl
@[simp] theorem DV : ae Tryz.prog 134=some ⟨1,(some (.slice none 0 0)),.slice 141 2 32 (some (.agg #[.slice none 0 0,.int .i64 0]))⟩:=by kernel_rfl
@[simp] theorem DW : ae Tryz.prog 139=some ⟨1,(some (.slice none 0 0)),.slice 256 6 48 (some (.agg #[.int .i64 0,.int .i64 0,.int .i64 0,.int .i64 0,.int .i64 0,.int .i64 0]))⟩:=by kernel_rfl
@[simp] theorem DX : ae Tryz.prog 140=some ⟨2,(some (.agg #[.slice none 0 0,.int .i64 0])),.struct [(0,1),(1,1)]⟩:=by kernel_rfl
@[simp] theorem DY : ae Tryz.prog 141=some ⟨2,(some (.agg #[.slice none 0 0,.int .i64 0])),.struct [(0,1),(1,1)]⟩:=by kernel_rfl
@[simp] theorem DZ : ae Tryz.prog 142=some ⟨7,(some (.agg #[.int .i64 0,.int .i64 0,.int .i64 0,.int .i64 0,.slice none 0 0,.slice none 0 0,.int .i64 0])),.struct [(0,1),(1,3),(4,1),(5,1),(6,1)]⟩:=by kernel_rfl
@[simp] theorem D0 : ae Tryz.prog 143=some ⟨7,(some (.agg #[.int .i64 0,.int .i64 0,.int .i64 0,.int .i64 0,.slice none 0 0,.slice none 0 0,.int .i64 0])),.struct [(0,1),(1,3),(4,1),(5,1),(6,1)]⟩:=by kernel_rfl
@[simp] theorem D1 : ae Tryz.prog 157=some ⟨1,(some (.slice none 0 0)),.slice 32 1 24 (some (.slice none 0 0))⟩:=by kernel_rfl
@[simp] theorem D2 : ae Tryz.prog 172=some ⟨1,(some (.slice none 0 0)),.slice 4 1 1 (some (.bool false))⟩:=by kernel_rfl
@[simp] theorem D3 : ae Tryz.prog 173=some ⟨3,(some (.agg #[.slice none 0 0,.slice none 0 0,.slice none 0 0])),.struct [(0,1),(1,1),(2,1)]⟩:=by kernel_rfl
@[simp] theorem D4 : ae Tryz.prog 174=some ⟨3,(some (.agg #[.slice none 0 0,.slice none 0 0,.slice none 0 0])),.struct [(0,1),(1,1),(2,1)]⟩:=by kernel_rfl
@[simp] theorem D5 : ae Tryz.prog 181=some ⟨3,(some (.agg #[.int .i64 0,.int .i64 0,.slice none 0 0])),.struct [(0,1),(1,1),(2,1)]⟩:=by kernel_rfl
@[simp] theorem D6 : ae Tryz.prog 182=some ⟨3,(some (.agg #[.int .i64 0,.int .i64 0,.slice none 0 0])),.struct [(0,1),(1,1),(2,1)]⟩:=by kernel_rfl
@[simp] theorem D7 : ae Tryz.prog 183=some ⟨1,(some (.slice none 0 0)),.slice 182 3 40 (some (.agg #[.int .i64 0,.int .i64 0,.slice none 0 0]))⟩:=by kernel_rfl
@[simp] theorem D8 : ae Tryz.prog 191=some ⟨1,(some (.slice none 0 0)),.slice 242 2 16 (some (.agg #[.int .i64 0,.int .i64 0]))⟩:=by kernel_rfl
@[simp] theorem D9 : ae Tryz.prog 192=some ⟨1,(some (.slice none 0 0)),.slice 139 1 24 (some (.slice none 0 0))⟩:=by kernel_rfl
@[simp] theorem Ea : ae Tryz.prog 193=some ⟨3,(some (.agg #[.slice none 0 0,.slice none 0 0,.slice none 0 0])),.struct [(0,1),(1,1),(2,1)]⟩:=by kernel_rfl
@[simp] theorem Eb : ae Tryz.prog 194=some ⟨3,(some (.agg #[.slice none 0 0,.slice none 0 0,.slice none 0 0])),.struct [(0,1),(1,1),(2,1)]⟩:=by kernel_rfl
@[simp] theorem Ec : ae Tryz.prog 197=some ⟨4,(some (.agg #[.slice none 0 0,.slice none 0 0,.int .i64 0,.int .i64 0])),.struct [(0,1),(1,1),(2,1),(3,1)]⟩:=by kernel_rfl
@[simp] theorem Ed : ae Tryz.prog 198=some ⟨4,(some (.agg #[.slice none 0 0,.slice none 0 0,.int .i64 0,.int .i64 0])),.struct [(0,1),(1,1),(2,1),(3,1)]⟩:=by kernel_rfl
@[simp] theorem Ee : ae Tryz.prog 202=some ⟨3,(some (.agg #[.int .i64 0,.slice none 0 0,.slice none 0 0])),.struct [(0,3)]⟩:=by kernel_rfl
@[simp] theorem Eg : ae Tryz.prog 203=some ⟨3,(some (.agg #[.int .i64 0,.slice none 0 0,.slice none 0 0])),.struct [(0,3)]⟩:=by kernel_rfl
@[simp] theorem Eh : ae Tryz.prog 204=some ⟨1,(some (.agg #[.slice none 0 0])),.struct [(0,1)]⟩:=by kernel_rfl
@[simp] theorem Ei : ae Tryz.prog 205=some ⟨1,(some (.agg #[.slice none 0 0])),.struct [(0,1)]⟩:=by kernel_rfl
@[simp] theorem Ej : ae Tryz.prog 218=some ⟨2,(some (.agg #[.slice none 0 0,.slice none 0 0])),.struct [(0,1),(1,1)]⟩:=by kernel_rfl
@[simp] theorem Ek : ae Tryz.prog 219=some ⟨2,(some (.agg #[.slice none 0 0,.slice none 0 0])),.struct [(0,1),(1,1)]⟩:=by kernel_rfl
@[simp] theorem El : ae Tryz.prog 224=some ⟨2,(some (.agg #[.int .i64 0,.int .i64 0])),.struct [(0,1),(1,1)]⟩:=by kernel_rfl
@[simp] theorem Em : ae Tryz.prog 225=some ⟨2,(some (.agg #[.int .i64 0,.int .i64 0])),.struct [(0,1),(1,1)]⟩:=by kernel_rfl
@[simp] theorem En : ae Tryz.prog 234=some ⟨2,(some (.agg #[.slice none 0 0,.int .i64 0])),.struct [(0,1),(1,1)]⟩:=by kernel_rfl
@[simp] theorem Eo : ae Tryz.prog 235=some ⟨2,(some (.agg #[.slice none 0 0,.int .i64 0])),.struct [(0,1),(1,1)]⟩:=by kernel_rfl
@[simp] theorem Ep : ae Tryz.prog 237=some ⟨5,(some (.agg #[.int .i64 0,.int .i64 0,.int .i64 0,.int .i64 0,.int .i64 0])),.struct [(0,1),(1,1),(2,3)]⟩:=by kernel_rfl
@[simp] theorem Er : ae Tryz.prog 238=some ⟨5,(some (.agg #[.int .i64 0,.int .i64 0,.int .i64 0,.int .i64 0,.int .i64 0])),.struct [(0,1),(1,1),(2,3)]⟩:=by kernel_rfl
@[simp] theorem Es : ae Tryz.prog 242=some ⟨2,(some (.agg #[.int .i64 0,.int .i64 0])),.struct [(0,1),(1,1)]⟩:=by kernel_rfl
@[simp] theorem Et : ae Tryz.prog 255=some ⟨6,(some (.agg #[.int .i64 0,.int .i64 0,.int .i64 0,.int .i64 0,.int .i64 0,.int .i64 0])),.array 3 2⟩:=by kernel_rfl
@[simp] theorem Eu : df Tryz.prog 255=none:=by kernel_rfl
@[simp] theorem Ev : lj Tryz.prog 255=some (3,2):=by kernel_rfl
@[simp] theorem Ew : ae Tryz.prog 256=some ⟨6,(some (.agg #[.int .i64 0,.int .i64 0,.int .i64 0,.int .i64 0,.int .i64 0,.int .i64 0])),.array 3 2⟩:=by kernel_rfl
@[simp] theorem Ex : df Tryz.prog 256=none:=by kernel_rfl
@[simp] theorem Ey : lj Tryz.prog 256=some (3,2):=by kernel_rfl
@[simp] theorem Ez : ae Tryz.prog 263=some ⟨1,(some (.nilFunc)),.one⟩:=by kernel_rfl
@[simp] theorem EA : ae Tryz.prog 274=some ⟨1,(some (.nilFunc)),.one⟩:=by kernel_rfl
@[simp] theorem EB : ae Tryz.prog 279=some ⟨3,(some (.agg #[.int .i64 0,.int .i64 0,.slice none 0 0])),.struct [(0,1),(1,1),(2,1)]⟩:=by kernel_rfl
@[simp] theorem EC : ae Tryz.prog 280=some ⟨3,(some (.agg #[.int .i64 0,.int .i64 0,.slice none 0 0])),.struct [(0,1),(1,1),(2,1)]⟩:=by kernel_rfl
@[simp] theorem ED : ae Tryz.prog 286=some ⟨1,(some (.nilFunc)),.one⟩:=by kernel_rfl
@[simp] theorem EE : ae Tryz.prog 288=some ⟨2,(some (.agg #[.slice none 0 0,.slice none 0 0])),.struct [(0,1),(1,1)]⟩:=by kernel_rfl
@[simp] theorem EF : ae Tryz.prog 289=some ⟨2,(some (.agg #[.slice none 0 0,.slice none 0 0])),.struct [(0,1),(1,1)]⟩:=by kernel_rfl
@[simp] theorem EG : ae Tryz.prog 291=some ⟨2,(some (.agg #[.slice none 0 0,.slice none 0 0])),.struct [(0,2)]⟩:=by kernel_rfl
@[simp] theorem EH : ae Tryz.prog 292=some ⟨2,(some (.agg #[.slice none 0 0,.slice none 0 0])),.struct [(0,2)]⟩:=by kernel_rfl
@[simp] theorem EI : ae Tryz.prog 293=some ⟨2,(some (.agg #[.slice none 0 0,.slice none 0 0])),.struct [(0,2)]⟩:=by kernel_rfl
@[simp] theorem EJ : ae Tryz.prog 294=some ⟨8,(some (.agg #[.slice none 0 0,.slice none 0 0,.slice none 0 0,.slice none 0 0,.int .i64 0,.int .i64 0,.int .i64 0,.int .i64 0])),.struct [(0,2),(2,2),(4,3),(7,1)]⟩:=by kernel_rfl
@[simp] theorem EK : ae Tryz.prog 295=some ⟨8,(some (.agg #[.slice none 0 0,.slice none 0 0,.slice none 0 0,.slice none 0 0,.int .i64 0,.int .i64 0,.int .i64 0,.int .i64 0])),.struct [(0,2),(2,2),(4,3),(7,1)]⟩:=by kernel_rfl
@[simp] theorem EL : ae Tryz.prog 298=some ⟨1,(some (.nilIface)),.one⟩:=by kernel_rfl
@[simp] theorem EM : ae Tryz.prog 302=some ⟨2,(some (.agg #[.slice none 0 0,.int .i64 0])),.struct [(0,1),(1,1)]⟩:=by kernel_rfl
@[simp] theorem EN : ae Tryz.prog 303=some ⟨2,(some (.agg #[.slice none 0 0,.int .i64 0])),.struct [(0,1),(1,1)]⟩:=by kernel_rfl
@[simp] theorem EO : ae Tryz.prog 304=some ⟨4,(some (.agg #[.slice none 0 0,.int .i64 0,.slice none 0 0,.int .i64 0])),.struct [(0,2),(2,2)]⟩:=by kernel_rfl
@[simp] theorem EP : ae Tryz.prog 305=some ⟨4,(some (.agg #[.slice none 0 0,.int .i64 0,.slice none 0 0,.int .i64 0])),.struct [(0,2),(2,2)]⟩:=by kernel_rfl
@[simp] theorem EQ : ae Tryz.prog 313=some ⟨8,(some (.agg #[.int .i64 0,.slice none 0 0,.int .i64 0,.int .i64 0,.slice none 0 0,.int .i64 0,.slice none 0 0,.slice none 0 0])),.struct [(0,1),(1,1),(2,3),(5,3)]⟩:=by kernel_rfl
@[simp] theorem ER : ae Tryz.prog 314=some ⟨8,(some (.agg #[.int .i64 0,.slice none 0 0,.int .i64 0,.int .i64 0,.slice none 0 0,.int .i64 0,.slice none 0 0,.slice none 0 0])),.struct [(0,1),(1,1),(2,3),(5,3)]⟩:=by kernel_rfl
@[simp] theorem ES : ae Tryz.prog 320=some ⟨1,(some (.int .u64 0)),.one⟩:=by kernel_rfl
@[simp] theorem ET : bm Tryz.prog 320=some .u64:=by kernel_rfl
@[simp] theorem EU : ae Tryz.prog 323=some ⟨1,(some (.pointer none)),.one⟩:=by kernel_rfl
@[simp] theorem EV : ae Tryz.prog 326=some ⟨1,(some (.slice none 0 0)),.slice 22 1 24 (some (.slice none 0 0))⟩:=by kernel_rfl
@[simp] theorem EW : ae Tryz.prog 327=some ⟨5,(some (.agg #[.slice none 0 0,.slice none 0 0,.slice none 0 0,.slice none 0 0,.slice none 0 0])),.struct [(0,2),(2,1),(3,1),(4,1)]⟩:=by kernel_rfl
@[simp] theorem EX : ae Tryz.prog 328=some ⟨5,(some (.agg #[.slice none 0 0,.slice none 0 0,.slice none 0 0,.slice none 0 0,.slice none 0 0])),.struct [(0,2),(2,1),(3,1),(4,1)]⟩:=by kernel_rfl
@[simp] theorem EY : ae Tryz.prog 331=some ⟨4,(some (.agg #[.pointer none,.slice none 0 0,.slice none 0 0,.nilFunc])),.struct [(0,1),(1,1),(2,1),(3,1)]⟩:=by kernel_rfl
@[simp] theorem EZ : ae Tryz.prog 332=some ⟨4,(some (.agg #[.pointer none,.slice none 0 0,.slice none 0 0,.nilFunc])),.struct [(0,1),(1,1),(2,1),(3,1)]⟩:=by kernel_rfl
@[simp] theorem E0 : ae Tryz.prog 336=some ⟨8,(some (.agg #[.int .i64 0,.int .i64 0,.int .i64 0,.int .i64 0,.int .i64 0,.int .i64 0,.int .i64 0,.int .i64 0])),.array 8 1⟩:=by kernel_rfl
@[simp] theorem E1 : df Tryz.prog 336=some (some 8):=by kernel_rfl
@[simp] theorem E2 : ae Tryz.prog 337=some ⟨1,(some (.slice none 0 0)),.slice 342 24 192 (some (.agg #[.int .i64 0,.int .i64 0,.int .i64 0,.int .i64 0,.int .i64 0,.int .i64 0,.int .i64 0,.int .i64 0,.int .i64 0,.int .i64 0,.int .i64 0,.int .i64 0,.int .i64 0,.int .i64 0,.int .i64 0,.int .i64 0,.int .i64 0,.int .i64 0,.int .i64 0,.int .i64 0,.int .i64 0,.int .i64 0,.int .i64 0,.int .i64 0]))⟩:=by kernel_rfl
@[simp] theorem E3 : ae Tryz.prog 339=some ⟨18,(some (.agg #[.int .i64 0,.int .i64 0,.int .i64 0,.int .i64 0,.int .i64 0,.int .i64 0,.int .i64 0,.int .i64 0,.int .i64 0,.int .i64 0,.int .i64 0,.int .i64 0,.int .i64 0,.int .i64 0,.int .i64 0,.int .i64 0,.int .i64 0,.int .i64 0])),.array 3 6⟩:=by kernel_rfl
@[simp] theorem E4 : df Tryz.prog 339=none:=by kernel_rfl
@[simp] theorem E5 : lj Tryz.prog 339=some (3,6):=by kernel_rfl
@[simp] theorem E6 : ae Tryz.prog 340=some ⟨18,(some (.agg #[.int .i64 0,.int .i64 0,.int .i64 0,.int .i64 0,.int .i64 0,.int .i64 0,.int .i64 0,.int .i64 0,.int .i64 0,.int .i64 0,.int .i64 0,.int .i64 0,.int .i64 0,.int .i64 0,.int .i64 0,.int .i64 0,.int .i64 0,.int .i64 0])),.array 3 6⟩:=by kernel_rfl
@[simp] theorem E7 : df Tryz.prog 340=none:=by kernel_rfl
@[simp] theorem E8 : lj Tryz.prog 340=some (3,6):=by kernel_rfl
@[simp] theorem E9 : ae Tryz.prog 341=some ⟨24,(some (.agg #[.int .i64 0,.int .i64 0,.int .i64 0,.int .i64 0,.int .i64 0,.int .i64 0,.int .i64 0,.int .i64 0,.int .i64 0,.int .i64 0,.int .i64 0,.int .i64 0,.int .i64 0,.int .i64 0,.int .i64 0,.int .i64 0,.int .i64 0,.int .i64 0,.int .i64 0,.int .i64 0,.int .i64 0,.int .i64 0,.int .i64 0,.int .i64 0])),.struct [(0,18),(18,6)]⟩:=by kernel_rfl
@[simp] theorem Fa : ae Tryz.prog 342=some ⟨24,(some (.agg #[.int .i64 0,.int .i64 0,.int .i64 0,.int .i64 0,.int .i64 0,.int .i64 0,.int .i64 0,.int .i64 0,.int .i64 0,.int .i64 0,.int .i64 0,.int .i64 0,.int .i64 0,.int .i64 0,.int .i64 0,.int .i64 0,.int .i64 0,.int .i64 0,.int .i64 0,.int .i64 0,.int .i64 0,.int .i64 0,.int .i64 0,.int .i64 0])),.struct [(0,18),(18,6)]⟩:=by kernel_rfl
@[simp] theorem Fb : ae Tryz.prog 359=some ⟨1,(some (.nilFunc)),.one⟩:=by kernel_rfl
@[simp] theorem Fc : ae Tryz.prog 371=some ⟨1,(some (.int .u64 0)),.one⟩:=by kernel_rfl
@[simp] theorem Fd : bm Tryz.prog 371=some .u64:=by kernel_rfl
@[simp] theorem Fe : ae Tryz.prog 374=some ⟨1,(some (.pointer none)),.one⟩:=by kernel_rfl
@[simp] theorem Ff : ae Tryz.prog 382=some ⟨3,(some (.agg #[.int .i64 0,.int .i64 0,.slice none 0 0])),.struct [(0,1),(1,1),(2,1)]⟩:=by kernel_rfl
@[simp] theorem Fg : ae Tryz.prog 383=some ⟨3,(some (.agg #[.int .i64 0,.int .i64 0,.slice none 0 0])),.struct [(0,1),(1,1),(2,1)]⟩:=by kernel_rfl
@[simp] theorem Fh : ae Tryz.prog 384=some ⟨1,(some (.slice none 0 0)),.slice 383 3 40 (some (.agg #[.int .i64 0,.int .i64 0,.slice none 0 0]))⟩:=by kernel_rfl
@[simp] theorem Fi : ae Tryz.prog 415=some ⟨1,(some (.nilFunc)),.one⟩:=by kernel_rfl
@[simp] theorem Fj : ae Tryz.prog 416=some ⟨2,(some (.agg #[.nilFunc,.nilFunc])),.struct [(0,1),(1,1)]⟩:=by kernel_rfl
@[simp] theorem Fk : ae Tryz.prog 417=some ⟨2,(some (.agg #[.nilFunc,.nilFunc])),.struct [(0,1),(1,1)]⟩:=by kernel_rfl
@[simp] theorem Fl : ae Tryz.prog 431=some ⟨1,(some (.nilFunc)),.one⟩:=by kernel_rfl
@[simp] theorem Fm : ae Tryz.prog 432=some ⟨1,(some (.agg #[.nilFunc])),.struct [(0,1)]⟩:=by kernel_rfl
@[simp] theorem Fo : ae Tryz.prog 433=some ⟨1,(some (.agg #[.nilFunc])),.struct [(0,1)]⟩:=by kernel_rfl
@[simp] theorem Fp : ae Tryz.prog 439=some ⟨1,(some (.int .i64 0)),.one⟩:=by kernel_rfl
@[simp] theorem Fq : bm Tryz.prog 439=some .i64:=by kernel_rfl
@[simp] theorem Fr : ae Tryz.prog 442=some ⟨4,(some (.agg #[.int .i64 0,.int .i64 0,.int .i64 0,.int .i64 0])),.array 4 1⟩:=by kernel_rfl
@[simp] theorem Fs : df Tryz.prog 442=some (some 4):=by kernel_rfl
@[simp] theorem Ft : ae Tryz.prog 445=some ⟨11,(some (.agg #[.int .i64 0,.int .i64 0,.int .i64 0,.int .i64 0,.int .i64 0,.int .i64 0,.int .i64 0,.int .i64 0,.int .i64 0,.int .i64 0,.int .i64 0])),.array 11 1⟩:=by kernel_rfl
@[simp] theorem Fu : df Tryz.prog 445=some (some 11):=by kernel_rfl
@[simp] theorem Fw : ae Tryz.prog 448=some ⟨11,(some (.agg #[.int .i64 0,.int .i64 0,.int .i64 0,.int .i64 0,.int .i64 0,.int .i64 0,.int .i64 0,.int .i64 0,.int .i64 0,.int .i64 0,.int .i64 0])),.array 11 1⟩:=by kernel_rfl
@[simp] theorem Fx : df Tryz.prog 448=some (some 11):=by kernel_rfl
@[simp] theorem Fy : ae Tryz.prog 452=some ⟨4,(some (.agg #[.pointer none,.pointer none,.pointer none,.string ByteArray.empty])),.struct [(0,1),(1,1),(2,1),(3,1)]⟩:=by kernel_rfl
@[simp] theorem Fz : ae Tryz.prog 453=some ⟨4,(some (.agg #[.pointer none,.pointer none,.pointer none,.string ByteArray.empty])),.struct [(0,1),(1,1),(2,1),(3,1)]⟩:=by kernel_rfl
@[simp] theorem FA : ae Tryz.prog 454=some ⟨0,(some (.agg #[])),.array 0 1⟩:=by kernel_rfl
@[simp] theorem FB : df Tryz.prog 454=some (some 0):=by kernel_rfl
@[simp] theorem FC : ae Tryz.prog 455=some ⟨0,(some (.agg #[])),.struct [(0,0)]⟩:=by kernel_rfl
@[simp] theorem FD : ae Tryz.prog 456=some ⟨0,(some (.agg #[])),.struct [(0,0)]⟩:=by kernel_rfl
@[simp] theorem FE : ae Tryz.prog 458=some ⟨1,(some (.int .u32 0)),.one⟩:=by kernel_rfl
@[simp] theorem FF : bm Tryz.prog 458=some .u32:=by kernel_rfl
@[simp] theorem FG : ae Tryz.prog 459=some ⟨1,(some (.int .u8 0)),.one⟩:=by kernel_rfl
@[simp] theorem FH : bm Tryz.prog 459=some .u8:=by kernel_rfl
@[simp] theorem FI : ae Tryz.prog 460=some ⟨1,(some (.int .u8 0)),.one⟩:=by kernel_rfl
@[simp] theorem FJ : bm Tryz.prog 460=some .u8:=by kernel_rfl
@[simp] theorem FK : ae Tryz.prog 461=some ⟨1,(some (.nilFunc)),.one⟩:=by kernel_rfl
@[simp] theorem FL : ae Tryz.prog 462=some ⟨1,(some (.pointer none)),.one⟩:=by kernel_rfl
@[simp] theorem FM : ae Tryz.prog 463=some ⟨1,(some (.int .i32 0)),.one⟩:=by kernel_rfl
@[simp] theorem FN : bm Tryz.prog 463=some .i32:=by kernel_rfl
@[simp] theorem FO : ae Tryz.prog 464=some ⟨1,(some (.int .i32 0)),.one⟩:=by kernel_rfl
@[simp] theorem FP : bm Tryz.prog 464=some .i32:=by kernel_rfl
@[simp] theorem FQ : ae Tryz.prog 465=some ⟨11,(some (.agg #[.int .u64 0,.int .u64 0,.int .u32 0,.int .u8 0,.int .u8 0,.int .u8 0,.int .u8 0,.nilFunc,.pointer none,.int .i32 0,.int .i32 0])),.struct [(0,1),(1,1),(2,1),(3,1),(4,1),(5,1),(6,1),(7,1),(8,1),(9,1),(10,1)]⟩:=by kernel_rfl
@[simp] theorem FR : ae Tryz.prog 466=some ⟨11,(some (.agg #[.int .u64 0,.int .u64 0,.int .u32 0,.int .u8 0,.int .u8 0,.int .u8 0,.int .u8 0,.nilFunc,.pointer none,.int .i32 0,.int .i32 0])),.struct [(0,1),(1,1),(2,1),(3,1),(4,1),(5,1),(6,1),(7,1),(8,1),(9,1),(10,1)]⟩:=by kernel_rfl
end Go.Ab
namespace Go.Ab
open Go.Proofs
abbrev I (lo hi : Int) : PV:=.val (.agg #[.int .i64 lo,.int .i64 hi])
abbrev bF (x : Int × Int) : PV:=I x.1 x.2
abbrev B (b : Bool) : PV:=.val (.bool b)
abbrev Z (n : Int) : PV:=.val (.int .i64 n)
abbrev wr (n : Int) : Int:=IntKind.i64.wrap n
def aH (lo hi : Int) : Bool:=decide (-2147483648≤lo) && decide (lo≤hi) && decide (hi≤2147483648)
theorem CD (a b c d : Int) : ai Tryz.prog (Op.equal 83 (.agg #[.int .i64 a,.int .i64 b]) (.agg #[.int .i64 c,.int .i64 d]))=some (a==c && b==d):=by
 have hf : (Tryz.prog.fieldsOf 83).toList=[(Tryz.prog.fieldsOf 83)[0]!,(Tryz.prog.fieldsOf 83)[1]!]:=by kernel_rfl
 show ai Tryz.prog (Op.equalIn (9999+1) 83 _ _)=_
 rw [qh 9999 83 _ _ (by kernel_rfl) (by kernel_rfl),hf]
 have h:=mY (P:=Tryz.prog) (d:=9999) (xs:=#[.int .i64 a,.int .i64 b]) (ys:=#[.int .i64 c,.int .i64 d]) (f:=(Tryz.prog.fieldsOf 83)[0]!) (fs:=[(Tryz.prog.fieldsOf 83)[1]!]) (a:=.int .i64 a) (b:=.int .i64 c) (by decide +kernel) (by kernel_rfl) (by kernel_rfl) (mt 9998 _ .i64 .i64 a c (by kernel_rfl))
  (mY (by decide +kernel) (a:=.int .i64 b) (b:=.int .i64 d) (by kernel_rfl) (by kernel_rfl) (mt 9998 _ .i64 .i64 b d (by kernel_rfl)) uA)
 rw [h];simp
def jq (P : Program) (o : Oper) (ρ : Operand→AV) : Option bR:=aP P o ρ
def mZ (x : AV) : Option (Int × Int):=match x with
 |.pv (.val (.agg vs))=>match vs.toList with
  |[.int .i64 a,.int .i64 b]=>some (a,b)
  |_=>none
 |_=>none
theorem jd {x : AV} {a b : Int} (h : mZ x=some (a,b)) : x=.pv (I a b):=by
 unfold mZ at h
 split at h
 ·split at h
  ·rename_i vs _ a' b' hv
   injection h with h;injection h with h1 h2;subst h1;subst h2
   rw [← Array.toArray_toList (xs:=vs),hv]
  ·cases h
 ·cases h
def vD (x y : AV) (fb : Option bR) : Option bR:=match mZ x,mZ y with
 |some (a,b),some (c,d)=>some (.pv (.val (.bool !(a==c && b==d))),[])
 |_,_=>fb
@[simp] theorem zW (a b c d : Int) (fb : Option bR) : vD (.pv (.val (.agg #[.int .i64 a,.int .i64 b]))) (.pv (.val (.agg #[.int .i64 c,.int .i64 d]))) fb=some (.pv (.val (.bool !(a==c && b==d))),[]):=rfl
@[simp] theorem FS {dst : Option Nat} {ty : TypeId} {pos : String} {aft : Array Edge} {g : Option (Nat × Bool)} {ρ : Operand→AV} (x y : Operand) :
 aP Tryz.prog ⟨dst,.binOp .neq 83 x y 83,ty,pos,aft,g⟩ ρ=vD (ρ x) (ρ y) (jq Tryz.prog ⟨dst,.binOp .neq 83 x y 83,ty,pos,aft,g⟩ ρ):=by
 unfold vD
 split
 ·rename_i a b c d hx hy
  exact oR rfl (jd hx) (jd hy) (by kernel_rfl) (CD a b c d)
 ·rfl
theorem eJ (lo hi : Int) : ab Tryz.prog 228 [.pv (I lo hi)] [] [] (.pv (B (aH lo hi))):=by
 refine Dp Tryz.func228 ?_
 intro C hP hN
 simp only [Tryz.f228] at hN ⊢
 with_reducible repeat' (first|refine Sp.h ?_|((first|refine Ss.h ?_|(refine Sb.h ?_ ?_ ?_<;>(try intro hgd)<;>try exact Xy))<;>simp -implicitDefEqProofs (maxSteps:=2000000) [hP,hN])|refine X2 ?_ ?_|(refine Xd ?_ ?_<;>intro hcd<;>try exact Xx))
 all_goals (first|(simp_all [aH];done)|((try simp_all [aH])<;>(try omega)<;>grind))
theorem ro (a b c d : Int) : ab Tryz.prog 405 [.pv (I a b),.pv (I c d)] [] [] (.pv (B (aH a b && aH c d))):=by
 refine Dp Tryz.func405 ?_
 intro C hP hN
 simp only [Tryz.f405] at hN ⊢
 with_reducible repeat' (first|refine Sp.h ?_|((first|refine Ss.h ?_|refine Sc.h (eJ _ _) ?_|(refine Sb.h ?_ ?_ ?_<;>(try intro hgd)<;>try exact Xy))<;>simp -implicitDefEqProofs (maxSteps:=2000000) [hP,hN])|refine X2 ?_ ?_|(refine Xd ?_ ?_<;>intro hcd<;>try exact Xx))
 all_goals (first|(simp_all;done)|((try simp_all)<;>(try omega)<;>grind))
def aG (n k : Int) : Int:=if n.tmod k < 0 then wr (n.tmod k+k) else n.tmod k
theorem nD (n k : Int) (hk : k≠0) : ab Tryz.prog 20 [.pv (Z n),.pv (Z k)] [] [] (.pv (Z (aG n k))):=by
 refine Dp Tryz.func20 ?_
 intro C hP hN
 simp only [Tryz.f20] at hN ⊢
 with_reducible repeat' (first|refine Sp.h ?_|((first|refine Ss.h ?_|(refine Sb.h ?_ ?_ ?_<;>(try intro hgd)<;>try exact Xy))<;>simp -implicitDefEqProofs (maxSteps:=2000000) [hP,hN,hk])|refine X2 ?_ ?_|(refine Xd ?_ ?_<;>intro hcd<;>try exact Xx))
 all_goals (first|(simp_all [aG];done)|((try simp_all [aG])<;>(try omega)<;>grind))
@[simp] theorem Cs (a b : Int) : (if b < a then b else a)=min a b:=by split<;>omega
@[simp] theorem Ct (a b : Int) : (if a < b then b else a)=max a b:=by split<;>omega
theorem aa {n : Int} (h1 : -9223372036854775808≤n) (h2 : n < 9223372036854775808) : wr n=n:=by
 rw [wr,IntKind.wrap_i64];omega
theorem zA {k : Int} (hk : k < 64) : min k.toNat 64=k.toNat:=by omega
theorem ym : IntKind.i64.bits=64:=rfl
theorem Ar (a : Int) : ab Tryz.prog 447 [.pv (Z a)] [] [] (.pv (Z (min (max a (-2147483648)) 2147483648))):=by
 refine Dp Tryz.func447 ?_
 intro C hP hN
 simp only [Tryz.f447] at hN ⊢
 with_reducible repeat' (first|refine Sp.h ?_|((first|refine Ss.h ?_|(refine Sb.h ?_ ?_ ?_<;>(try intro hgd)<;>try exact Xy))<;>simp -implicitDefEqProofs (maxSteps:=2000000) [hP,hN])|refine X2 ?_ ?_|(refine Xd ?_ ?_<;>intro hcd<;>try exact Xx))
 all_goals (first|(simp_all;done)|((try simp_all)<;>(try omega)<;>grind))
theorem yn (a b : Int) : ab Tryz.prog 440 [.pv (Z a),.pv (Z b)] [] [] (.pv (I (min (max a (-2147483648)) 2147483648) (min (max b (-2147483648)) 2147483648))):=by
 refine Dp Tryz.func440 ?_
 intro C hP hN
 simp only [Tryz.f440] at hN ⊢
 with_reducible repeat' (first|refine Sp.h ?_|((first|refine Ss.h ?_|refine Sc.h (Ar _) ?_|(refine Sb.h ?_ ?_ ?_<;>(try intro hgd)<;>try exact Xy))<;>simp -implicitDefEqProofs (maxSteps:=2000000) [hP,hN])|refine X2 ?_ ?_|(refine Xd ?_ ?_<;>intro hcd<;>try exact Xx))
 all_goals (first|(simp_all;done)|((try simp_all)<;>(try omega)<;>grind))
theorem As (a : Int) : ab Tryz.prog 421 [.pv (Z a)] [] [] (.pv (I (min (max a (-2147483648)) 2147483648) (min (max a (-2147483648)) 2147483648))):=by
 refine Dp Tryz.func421 ?_
 intro C hP hN
 simp only [Tryz.f421] at hN ⊢
 with_reducible repeat' (first|refine Sp.h ?_|((first|refine Ss.h ?_|refine Sc.h (yn _ _) ?_|(refine Sb.h ?_ ?_ ?_<;>(try intro hgd)<;>try exact Xy))<;>simp -implicitDefEqProofs (maxSteps:=2000000) [hP,hN])|refine X2 ?_ ?_|(refine Xd ?_ ?_<;>intro hcd<;>try exact Xx))
 all_goals (first|(simp_all;done)|((try simp_all)<;>(try omega)<;>grind))
theorem At (a k : Int) (h : 0≤k) (hk : k < 64) : ab Tryz.prog 294 [.pv (Z a),.pv (Z k)] [] [] (.pv (Z (a.fdiv (2 ^ k.toNat)))):=by
 refine Dp Tryz.func294 ?_
 intro C hP hN
 simp only [Tryz.f294] at hN ⊢
 with_reducible repeat' (first|refine Sp.h ?_|((first|refine Ss.h ?_|(refine Sb.h ?_ ?_ ?_<;>(try intro hgd)<;>try exact Xy))<;>simp -implicitDefEqProofs (maxSteps:=2000000) [hP,hN,h,ym,zA hk])|refine X2 ?_ ?_|(refine Xd ?_ ?_<;>intro hcd<;>try exact Xx))
 all_goals (first|(simp_all;done)|((try simp_all)<;>(try omega)<;>grind))
def je (x y : Int × Int) : Int × Int:=if aH x.1 x.2 && aH y.1 y.2 then (min x.1 y.1,max x.2 y.2) else (0,0)
theorem tx (a b c d : Int) : ab Tryz.prog 466 [.pv (I a b),.pv (I c d)] [] [] (.pv (bF (je (a,b) (c,d)))):=by
 refine Dp Tryz.func466 ?_
 intro C hP hN
 simp only [Tryz.f466] at hN ⊢
 with_reducible repeat' (first|refine Sp.h ?_|((first|refine Ss.h ?_|refine Sc.h (ro _ _ _ _) ?_|(refine Sb.h ?_ ?_ ?_<;>(try intro hgd)<;>try exact Xy))<;>simp -implicitDefEqProofs (maxSteps:=2000000) [hP,hN])|refine X2 ?_ ?_|(refine Xd ?_ ?_<;>intro hcd<;>try exact Xx))
 all_goals (first|(simp_all [je];done)|((try simp_all [je])<;>(try omega)<;>grind))
theorem rq (a b : Int) : ab Tryz.prog 193 [.pv (I a b)] [] [] (.pv (Z (if aH a b then wr (b - a) else 0))):=by
 refine Dp Tryz.func193 ?_
 intro C hP hN
 simp only [Tryz.f193] at hN ⊢
 with_reducible repeat' (first|refine Sp.h ?_|((first|refine Ss.h ?_|refine Sc.h (eJ _ _) ?_|(refine Sb.h ?_ ?_ ?_<;>(try intro hgd)<;>try exact Xy))<;>simp -implicitDefEqProofs (maxSteps:=2000000) [hP,hN])|refine X2 ?_ ?_|(refine Xd ?_ ?_<;>intro hcd<;>try exact Xx))
 all_goals (first|(simp_all;done)|((try simp_all)<;>(try omega)<;>grind))
theorem Au (a b : Int) : ab Tryz.prog 194 [.pv (I a b)] [] [] (.pv (Z (if aH a b then (wr (a+b)).fdiv 2 else 0))):=by
 refine Dp Tryz.func194 ?_
 intro C hP hN
 simp only [Tryz.f194] at hN ⊢
 with_reducible repeat' (first|refine Sp.h ?_|((first|refine Ss.h ?_|refine Sc.h (eJ _ _) ?_|refine Sc.h (At _ _ (by decide) (by decide)) ?_|(refine Sb.h ?_ ?_ ?_<;>(try intro hgd)<;>try exact Xy))<;>simp -implicitDefEqProofs (maxSteps:=2000000) [hP,hN])|refine X2 ?_ ?_|(refine Xd ?_ ?_<;>intro hcd<;>try exact Xx))
 all_goals (first|(simp_all;done)|((try simp_all)<;>(try omega)<;>grind))
theorem Av (a b x : Int) : ab Tryz.prog 296 [.pv (I a b),.pv (Z x)] [] [] (.pv (B (aH a b && decide (a≤x) && decide (x≤b)))):=by
 refine Dp Tryz.func296 ?_
 intro C hP hN
 simp only [Tryz.f296] at hN ⊢
 with_reducible repeat' (first|refine Sp.h ?_|((first|refine Ss.h ?_|refine Sc.h (eJ _ _) ?_|(refine Sb.h ?_ ?_ ?_<;>(try intro hgd)<;>try exact Xy))<;>simp -implicitDefEqProofs (maxSteps:=2000000) [hP,hN])|refine X2 ?_ ?_|(refine Xd ?_ ?_<;>intro hcd<;>try exact Xx))
 all_goals (first|(simp_all;done)|((try simp_all)<;>(try omega)<;>grind))
end Go.Ab
namespace Go.Ab
open Go.Proofs
abbrev zs (xs : List Int) : PV:=.sl (xs.map Z)
abbrev iv (xs : List (Int × Int)) : PV:=.sl (xs.map bF)
abbrev Fv (f : FuncId) : PV:=.val (.func (.func f) #[] #[])
theorem aJ {i n : Nat} (h : i < n) (hn : n≤9223372036854775807) : IntKind.i64.wrap ((i : Int)+1)=(i : Int)+1:=by rw [IntKind.wrap_i64];omega
def io {α : Type} (p : α→Bool) (xs : List α) : Int:=match xs.findIdx? p with
 |some i=>i
 |none=>-1
theorem jf {α : Type} {p : α→Bool} {xs : List α} {i : Nat} (hlt : i < xs.length) (hq : ∀ j x,j < i→xs[j]?=some x→p x=false) (hp : p xs[i]=true) : io p xs=i:=by
 have : xs.findIdx? p=some i:=by
  rw [List.findIdx?_eq_some_iff_getElem]
  refine ⟨hlt,hp,fun j hj=>?_⟩
  have hjl : j < xs.length:=by omega
  rw [hq j xs[j] hj (List.getElem?_eq_getElem hjl)];simp
 simp [io,this]
theorem mu {α : Type} {p : α→Bool} {xs : List α} (hq : ∀ (j : Nat) x,xs[j]?=some x→p x=false) : io p xs=-1:=by
 have : xs.findIdx? p=none:=by
  rw [List.findIdx?_eq_none_iff]
  intro x hx
  obtain ⟨j,hj,rfl⟩:=List.mem_iff_getElem.1 hx
  exact hq j _ (List.getElem?_eq_getElem hj)
 simp [io,this]
theorem lx {α : Type} (p : α→Bool) (xs : List α) : decide (0≤io p xs)=xs.any p:=by
 unfold io
 cases h : xs.findIdx? p with
 |none=>
  rw [List.findIdx?_eq_none_iff] at h
  have : xs.any p=false:=by
   rw [List.any_eq_false];intro x hx;rw [h x hx];simp
  simp [this]
 |some i=>
  rw [List.findIdx?_eq_some_iff_getElem] at h
  obtain ⟨hl,hp,_⟩:=h
  have : xs.any p=true:=List.any_eq_true.2 ⟨xs[i],List.getElem_mem hl,hp⟩
  simp [this]
theorem mv {α : Type} {p : α→Bool} {xs : List α} {i : Nat} (hlt : i < xs.length) (hq : ∀ j x,j < i→xs[j]?=some x→p x=false) (hp : p xs[i]=false) : ∀ j x,j < i+1→xs[j]?=some x→p x=false:=by
 intro j x hj hx
 by_cases e : j=i
 ·subst e;rw [List.getElem?_eq_getElem hlt] at hx;injection hx with hx;subst hx;exact hp
 ·exact hq j x (by omega) hx
theorem nX {α : Type} {p : α→Bool} {xs : List α} {i : Nat} (hlt : ¬ i < xs.length) (hq : ∀ j x,j < i→xs[j]?=some x→p x=false) : ∀ (j : Nat) x,xs[j]?=some x→p x=false:=by
 intro j x hx
 have:=(List.getElem?_eq_some_iff.1 hx).1
 exact hq j x (by omega) hx
theorem Aw (f : FuncId) (p : Int × Int→Bool) (xs : List (Int × Int)) (hl : xs.length≤9223372036854775807) (hf : ∀ x,ab Tryz.prog f [.pv (bF x)] [] [] (.pv (B (p x)))) : ab Tryz.prog 372 [.pv (iv xs),.pv (Fv f)] [] [] (.pv (Z (io p xs))):=by
 refine Dp Tryz.func372 ?_
 intro C hP hN
 simp only [Tryz.f372] at hN ⊢
 with_reducible repeat' (first|refine Sp.h ?_|((first|refine Ss.h ?_|(refine Sb.h ?_ ?_ ?_<;>(try intro hgd)<;>try exact Xy))<;>simp -implicitDefEqProofs (maxSteps:=2000000) [hP,hN])|refine X2 ?_ ?_|(refine Xd ?_ ?_<;>intro hcd<;>try exact Xx))
 refine WP.loopN [] xs.length (fun i st=>st.t 0=.pv (iv xs)∧st.t 1=.pv (Fv f)∧st.t 7=.pv (Z xs.length)∧st.t 8=.pv (Z i)∧∀ j x,j < i→xs[j]?=some x→p x=false) (by simp) ?_
 rintro i st hi ⟨h0,h1,h7,h8,hq⟩
 by_cases hlt : i < xs.length
 ·have hw:=aJ hlt hl
  with_reducible repeat' (first|refine Sp.h ?_|((first|refine Ss.h ?_|refine Sc.h (hf _) ?_|(refine Sb.h ?_ ?_ ?_<;>(try intro hgd)<;>try exact Xy))<;>simp -implicitDefEqProofs (maxSteps:=2000000) [hP,hN,h0,h1,h7,h8,hlt,hw])|refine X2 ?_ ?_|(refine Xd ?_ ?_<;>intro hcd<;>try exact Xx))
  ·exact (jf hlt hq hcd).symm
  ·simpa using mv hlt hq hcd
 ·skip
  with_reducible repeat' (first|refine Sp.h ?_|((first|refine Ss.h ?_|(refine Sb.h ?_ ?_ ?_<;>(try intro hgd)<;>try exact Xy))<;>simp -implicitDefEqProofs (maxSteps:=2000000) [hP,hN,h0,h1,h7,h8,hlt])|refine X2 ?_ ?_|(refine Xd ?_ ?_<;>intro hcd<;>try exact Xx))
  exact (mu (nX hlt hq)).symm
theorem Ax (f : FuncId) (p : Int × Int→Bool) (xs : List (Int × Int)) (hl : xs.length≤9223372036854775807) (hf : ∀ x,ab Tryz.prog f [.pv (bF x)] [] [] (.pv (B (p x)))) : ab Tryz.prog 292 [.pv (iv xs),.pv (Fv f)] [] [] (.pv (B (xs.any p))):=by
 refine Dp Tryz.func292 ?_
 intro C hP hN
 simp only [Tryz.f292] at hN ⊢
 with_reducible repeat' (first|refine Sp.h ?_|((first|refine Ss.h ?_|refine Sc.h (Aw _ _ _ hl hf) ?_|(refine Sb.h ?_ ?_ ?_<;>(try intro hgd)<;>try exact Xy))<;>simp -implicitDefEqProofs (maxSteps:=2000000) [hP,hN])|refine X2 ?_ ?_|(refine Xd ?_ ?_<;>intro hcd<;>try exact Xx))
 all_goals (first|(simp_all [lx];done)|((try simp_all [lx])<;>(try omega)<;>grind))
def dq {α : Type} (p : α→Bool) (xs : List α) : Bool:=xs.all p
theorem xq {α : Type} (p : α→Bool) (xs : List α) : (xs.any fun x=>!p x)=!dq p xs:=by simp [dq,List.any_eq_not_all_not]
abbrev vI (x : Int × Int) : Bool:=aH x.1 x.2
end Go.Ab
namespace Go.Ab
open Go.Proofs
end Go.Ab
namespace Go.Ab
open Go.Proofs
theorem uC {α : Type} {p : α→Bool} {xs : List α} {i : Nat} (hlt : i < xs.length) (hp : p xs[i]=false) : dq p xs=false:=by
 rw [dq,List.all_eq_false];exact ⟨xs[i],List.getElem_mem hlt,by simp [hp]⟩
theorem vE {α : Type} {p : α→Bool} {xs : List α} {i : Nat} (hlt : i < xs.length) (h : dq p (xs.take i)=true) (hp : p xs[i]=true) : dq p (xs.take (i+1))=true:=by
 unfold dq at *;rw [List.take_succ_eq_append_getElem hlt,List.all_append,h];simp [hp]
theorem vF {α : Type} {p : α→Bool} {xs : List α} {i : Nat} (hlt : ¬ i < xs.length) (h : dq p (xs.take i)=true) : dq p xs=true:=by
 rwa [List.take_of_length_le (by omega)] at h
def mw {α β : Type} (f : α→β→Bool) (xs : List α) (ys : List β) : Bool:=(List.zipWith f xs ys).all id
def m7 {α β : Type} (f : α→β→Bool) (xs : List α) (ys : List β) (i : Nat) : Bool:=((List.zipWith f xs ys).take i).all id
theorem tz {α β : Type} {f : α→β→Bool} {xs : List α} {ys : List β} {i : Nat} (hlt : i < xs.length) (hlt' : i < ys.length) (hp : f xs[i] ys[i]=false) : mw f xs ys=false:=
 uC (p:=id) (xs:=List.zipWith f xs ys) (i:=i) (by simp;omega) (by simpa using hp)
theorem uD {α β : Type} {f : α→β→Bool} {xs : List α} {ys : List β} {i : Nat} (hlt : i < xs.length) (hlt' : i < ys.length) (h : m7 f xs ys i=true) (hp : f xs[i] ys[i]=true) : m7 f xs ys (i+1)=true:=
 vE (p:=id) (xs:=List.zipWith f xs ys) (i:=i) (by simp;omega) h (by simpa using hp)
theorem uE {α β : Type} {f : α→β→Bool} {xs : List α} {ys : List β} {i : Nat} (hlt : ¬ i < xs.length) (h : m7 f xs ys i=true) : mw f xs ys=true:=
 vF (p:=id) (xs:=List.zipWith f xs ys) (i:=i) (by simp;omega) h
def Ay (x : Int × Int) (c : Int) : Bool:=aH x.1 x.2 && decide (x.1≤c) && decide (c≤x.2)
def nE {α : Type} [DecidableEq α] (x y : α) : Bool:=decide (x=y)
theorem xr {α : Type} [DecidableEq α] {xs ys : List α} (he : xs.length=ys.length) : mw nE xs ys=decide (xs=ys):=by
 unfold mw
 induction xs generalizing ys with
 |nil=>cases ys<;>simp at he ⊢
 |cons x xs ih=>cases ys with
  |nil=>simp at he
  |cons y ys=>simp only [List.zipWith_cons_cons,List.all_cons,ih (by simpa using he)];simp [nE,Bool.decide_and]
def m8 {α : Type} [DecidableEq α] (xs ys : List α) : Bool:=decide (xs.length=ys.length) && mw nE xs ys
theorem zX (xs : List (Int)) (ys : List (Int)) (hl : xs.length≤9223372036854775807) (hm : ys.length≤9223372036854775807) : ab Tryz.prog 34 [.pv (zs xs),.pv (zs ys)] [] [] (.pv (B (m8 xs ys))):=by
 refine Dp Tryz.func34 ?_
 intro C hP hN
 simp only [Tryz.f34] at hN ⊢
 by_cases he : xs.length=ys.length
 ·skip
  with_reducible repeat' (first|refine Sp.h ?_|((first|refine Wd ?_|refine Ss.h ?_|(refine Sb.h ?_ ?_ ?_<;>(try intro hgd)<;>try exact Xy))<;>simp -implicitDefEqProofs (maxSteps:=2000000) [hP,hN,he]<;>try refine Ya ?_)|refine X2 ?_ ?_|(refine Xd ?_ ?_<;>intro hcd<;>try exact Xx))
  refine WP.loopN [] xs.length (fun i st=>st.t 0=.pv (zs xs)∧st.t 1=.pv (zs ys)∧st.t 5=.pv (Z i)∧m7 nE xs ys i=true) (by simp [m7]) ?_
  rintro i st hi ⟨h0,h1,h2,hq⟩
  by_cases hlt : i < xs.length
  ·have hw:=aJ hlt hl
   have hlt' : i < ys.length:=by omega
   have hF : nE xs[i] ys[i]=false→mw nE xs ys=false:=tz hlt hlt'
   have hS : nE xs[i] ys[i]=true→m7 nE xs ys (i+1)=true:=uD hlt hlt' hq
   with_reducible repeat' (first|refine Sp.h ?_|((first|refine Wd ?_|refine Ss.h ?_|(refine Sb.h ?_ ?_ ?_<;>(try intro hgd)<;>try exact Xy))<;>simp -implicitDefEqProofs (maxSteps:=2000000) [hP,hN,h0,h1,h2,hlt,hlt',hw]<;>try refine Ya ?_)|refine X2 ?_ ?_|(refine Xd ?_ ?_<;>intro hcd<;>try exact Xx))
   all_goals first|(rw [m8,hF (by simp only [nE]<;>grind)];simp;done)|(rw [hS (by simp only [nE]<;>grind)];done)
  ·have hlt' : ¬ i < ys.length:=by omega
   with_reducible repeat' (first|refine Sp.h ?_|((first|refine Wd ?_|refine Ss.h ?_|(refine Sb.h ?_ ?_ ?_<;>(try intro hgd)<;>try exact Xy))<;>simp -implicitDefEqProofs (maxSteps:=2000000) [hP,hN,h0,h1,h2,hlt,hlt']<;>try refine Ya ?_)|refine X2 ?_ ?_|(refine Xd ?_ ?_<;>intro hcd<;>try exact Xx))
   all_goals simp [m8,he,uE hlt hq]
 ·skip
  with_reducible repeat' (first|refine Sp.h ?_|((first|refine Wd ?_|refine Ss.h ?_|(refine Sb.h ?_ ?_ ?_<;>(try intro hgd)<;>try exact Xy))<;>simp -implicitDefEqProofs (maxSteps:=2000000) [hP,hN,he]<;>try refine Ya ?_)|refine X2 ?_ ?_|(refine Xd ?_ ?_<;>intro hcd<;>try exact Xx))
  all_goals simp [m8,he]
end Go.Ab
namespace Go.Ab
open Go.Proofs
end Go.Ab
namespace Go.Ab
open Go.Proofs
def oT (x : Int × Int) : Int:=if aH x.1 x.2 then wr (x.2 - x.1) else 0
def tA (x : Int × Int) : Int:=if aH x.1 x.2 then (wr (x.1+x.2)).fdiv 2 else 0
def eS (xs : List (Int × Int)) (j : Int) : Bool:=decide (0≤j) && dq vI xs && (match xs[j.toNat]? with|some x=>decide (2≤oT x)|none=>false)
def jH (xs : List (Int × Int)) (j : Int) : List (Int × Int):=if eS xs j then (match xs[j.toNat]? with|some x=>xs.set j.toNat (x.1,tA x)|none=>[]) else []
def jI (xs : List (Int × Int)) (j : Int) : List (Int × Int):=if eS xs j then (match xs[j.toNat]? with|some x=>xs.set j.toNat (tA x,x.2)|none=>[]) else []
end Go.Ab
namespace Go.Ab
open Go.Proofs
def nx (l : List Int) (n : Nat) (k : Int) : Int:=match l[n]? with
 |some x=>aG x k
 |none=>0
def nn (l : List Int) (n : Nat) : Nat:=if n < l.length then n+1 else n
abbrev eC (l : List Int) (n : Nat) : List PV:=[zs l,Z n]
theorem yp (l : List Int) : ab Tryz.prog 65 [.pv (zs l)] [] [] (.box (eC l 0)):=by
 refine Dp Tryz.func65 ?_
 intro C hP hN
 simp only [Tryz.f65] at hN ⊢
 with_reducible repeat' (first|refine Sp.h ?_|((first|refine Ss.h ?_|(refine Sb.h ?_ ?_ ?_<;>(try intro hgd)<;>try exact Xy))<;>simp -implicitDefEqProofs (maxSteps:=2000000) [hP,hN])|refine X2 ?_ ?_|(refine Xd ?_ ?_<;>intro hcd<;>try exact Xx))
 all_goals (first|(simp_all;done)|((try simp_all)<;>(try omega)<;>grind))
theorem aC (l : List Int) (n : Nat) : nn l n≤n+1:=by unfold nn;split<;>omega
theorem bO (l : List Int) (n : Nat) (k : Int) (hk : k≠0) (hn : n < 1000000) : ab Tryz.prog 67 [.bx 0,.pv (Z k)] [eC l n] [eC l (nn l n)] (.pv (Z (nx l n k))):=by
 have hw : IntKind.i64.wrap ((n : Int)+1)=(n : Int)+1:=by rw [IntKind.wrap_i64];omega
 have hw' : IntKind.i64.wrap (n : Int)=n:=by rw [IntKind.wrap_i64];omega
 refine jn Tryz.func67 rfl (by kernel_rfl) (by simp [Tryz.f67]) rfl (by intro i j h;rcases i with _|_|_|i<;>simp_all) ?_
 intro C hP hN
 simp only [Tryz.f67] at hN ⊢
 by_cases hlt : n < l.length
 ·skip
  with_reducible repeat' (first|refine Sp.h ?_|((first|refine Wd ?_|refine Ss.h ?_|refine Sc.h (nD _ _ hk) ?_|(refine Sb.h ?_ ?_ ?_<;>(try intro hgd)<;>try exact Xy))<;>simp -implicitDefEqProofs (maxSteps:=2000000) [hP,hN,eC,hlt,hw,hw',Nat.not_le.2 hlt]<;>try refine Ya ?_)|refine X2 ?_ ?_|(refine Xd ?_ ?_<;>intro hcd<;>try exact Xx))
  simp [nn,nx,hlt]
 ·skip
  with_reducible repeat' (first|refine Sp.h ?_|((first|refine Wd ?_|refine Ss.h ?_|(refine Sb.h ?_ ?_ ?_<;>(try intro hgd)<;>try exact Xy))<;>simp -implicitDefEqProofs (maxSteps:=2000000) [hP,hN,eC,hlt,Nat.not_lt.1 hlt]<;>try refine Ya ?_)|refine X2 ?_ ?_|(refine Xd ?_ ?_<;>intro hcd<;>try exact Xx))
  simp [nn,nx,hlt]
theorem nF (l : List Int) (n : Nat) (k : Int) (h0 : 0 < k) (hk : k < 1000000) (hn : n < 1000000) : ab Tryz.prog 69 [.bx 0,.pv (Z k)] [eC l n] [eC l (nn l n)] (.pv (Z (wr (nx l n (2 * k+1) - k)))):=by
 have hw : IntKind.i64.wrap (2 * k)=2 * k:=by rw [IntKind.wrap_i64];omega
 have hw' : IntKind.i64.wrap (2 * k+1)=2 * k+1:=by rw [IntKind.wrap_i64];omega
 refine jn Tryz.func69 rfl (by kernel_rfl) (by simp [Tryz.f69]) rfl (by intro i j h;rcases i with _|_|_|i<;>simp_all) ?_
 intro C hP hN
 simp only [Tryz.f69] at hN ⊢
 with_reducible repeat' (first|refine Sp.h ?_|((first|refine Ss.h ?_|refine Sc.h (bO l n (2 * k+1) (by omega) hn) ?_|(refine Sb.h ?_ ?_ ?_<;>(try intro hgd)<;>try exact Xy))<;>simp -implicitDefEqProofs (maxSteps:=2000000) [hP,hN,eC,hw,hw'])|refine X2 ?_ ?_|(refine Xd ?_ ?_<;>intro hcd<;>try exact Xx))
theorem ba (l : List Int) (n : Nat) {k : Int} (hk : 0 < k) (hk' : k < 4611686018427387904) : 0≤nx l n k∧nx l n k < k:=by
 unfold nx
 split
 ·rename_i x _
  have h1 : -k < x.tmod k:=by have:=Int.lt_tmod_of_pos x hk;omega
  have h2 : x.tmod k < k:=Int.tmod_lt_of_pos x hk
  unfold aG
  split
  ·rw [aa (by omega) (by omega)];omega
  ·omega
 ·omega
def uF (a : Int) : Int:=if a=2 then 1 else if a=3 then 2 else if a=4 then 4 else if a=5 then 5 else if a=7 then 0 else 3
theorem xu {c : Int} (h0 : 0≤c) (h8 : c < 8) : ∀ h,([.int .i64 3,.int .i64 3,.int .i64 1,.int .i64 2,.int .i64 4,.int .i64 5,.int .i64 3,.int .i64 0] : List Value)[c.toNat]'h=.int .i64 (uF c):=by
 have : c=0∨c=1∨c=2∨c=3∨c=4∨c=5∨c=6∨c=7:=by omega
 rcases this with rfl|rfl|rfl|rfl|rfl|rfl|rfl|rfl<;>(intro h;rfl)
def pL (i : Nat) : ByteArray:=⟨#[UInt8.ofNat (97+i)]⟩
abbrev oU : Value:=.string ⟨#[97,98,99,100,101,102,103,104,105,106]⟩
def oV (i : Nat) : Operand→AV:=fun x=>match x with
 |.tmp 3=>.pv (Z i)
 |.tmp 5=>.pv (Z ((i : Int)+1))
 |_=>.pv (.val oU)
section
variable {dst : Option Nat} {ty : TypeId} {pos : String} {aft : Array Edge} {g : Option (Nat × Bool)} {ρ : Operand→AV}
theorem xv : aP Tryz.prog ⟨dst,.slice 9 (.const oU) (some (.tmp 3)) (some (.tmp 5)) none,ty,pos,aft,g⟩ (oV 0)=some (.pv (.val (.string (pL 0))),[]):=by kernel_rfl
theorem xw : aP Tryz.prog ⟨dst,.slice 9 (.const oU) (some (.tmp 3)) (some (.tmp 5)) none,ty,pos,aft,g⟩ (oV 1)=some (.pv (.val (.string (pL 1))),[]):=by kernel_rfl
theorem xx : aP Tryz.prog ⟨dst,.slice 9 (.const oU) (some (.tmp 3)) (some (.tmp 5)) none,ty,pos,aft,g⟩ (oV 2)=some (.pv (.val (.string (pL 2))),[]):=by kernel_rfl
theorem zB (i : Nat) (h3 : i < 3) (hc : ρ (.const oU)=.pv (.val oU)) (hx : ρ (.tmp 3)=.pv (Z i)) (hy : ρ (.tmp 5)=.pv (Z ((i : Int)+1))) :
 aP Tryz.prog ⟨dst,.slice 9 (.const oU) (some (.tmp 3)) (some (.tmp 5)) none,ty,pos,aft,g⟩ ρ=some (.pv (.val (.string (pL i))),[]):=by
 have h : aP Tryz.prog ⟨dst,.slice 9 (.const oU) (some (.tmp 3)) (some (.tmp 5)) none,ty,pos,aft,g⟩ ρ=aP Tryz.prog ⟨dst,.slice 9 (.const oU) (some (.tmp 3)) (some (.tmp 5)) none,ty,pos,aft,g⟩ (oV i):=by
  refine jF (by intro _ _ h;cases h) ?_
  intro x hx'
  simp [Op.operands] at hx'
  rcases hx' with rfl|rfl|rfl
  ·exact hc
  ·exact hx
  ·exact hy
 rw [h]
 have : i=0∨i=1∨i=2:=by omega
 rcases this with rfl|rfl|rfl
 ·exact xv
 ·exact xw
 ·exact xx
end
theorem Az (i : Nat) (h3 : i < 3) : ab Tryz.prog 208 [.pv (Z i)] [] [] (.pv (.val (.string (pL i)))):=by
 have hw : IntKind.i64.wrap ((i : Int)+1)=(i : Int)+1:=by rw [IntKind.wrap_i64];omega
 refine Dp Tryz.func208 ?_
 intro C hP hN
 simp only [Tryz.f208] at hN ⊢
 with_reducible repeat' (first|refine Sp.h ?_|((first|refine Ss.h ?_|(refine Sb.h ?_ ?_ ?_<;>(try intro hgd)<;>try exact Xy))<;>simp -implicitDefEqProofs (maxSteps:=2000000) [hP,hN,hw])|refine X2 ?_ ?_|(refine Xd ?_ ?_<;>intro hcd<;>try exact Xx))
 rw [zB i h3 rfl (by simp) (by simp)]
 simp [hP,hN]
 with_reducible repeat' (first|refine Sp.h ?_|((first|refine Ss.h ?_|(refine Sb.h ?_ ?_ ?_<;>(try intro hgd)<;>try exact Xy))<;>simp -implicitDefEqProofs (maxSteps:=2000000) [hP,hN,hw])|refine X2 ?_ ?_|(refine Xd ?_ ?_<;>intro hcd<;>try exact Xx))
end Go.Ab
namespace Go.Ab
open Go.Proofs
structure J where
 name : ByteArray
 kind : Int
 parent : Int
 ox : Int
 oy : Int
 oz : Int
 lo : Int
 hi : Int
 w : Int
 sp : Int
 ac : Int
 tq : Int
abbrev dy (j : J) : PV:=.val (.agg #[.string j.name,.int .i64 j.kind,.int .i64 j.parent,.int .i64 j.ox,.int .i64 j.oy,.int .i64 j.oz,.int .i64 j.lo,.int .i64 j.hi,.int .i64 j.w,.int .i64 j.sp,.int .i64 j.ac,.int .i64 j.tq])
def sK (l : List Int) (n : Nat) : Nat:=nn l (nn l (nn l (nn l n)))
def fS (l : List Int) (n i : Nat) : Nat:=if 0 < i then nn l (nn l (sK l n)) else sK l n
def gJ (l : List Int) (n : Nat) : Int:=uF (nx l (nn l (nn l n)) 8)
def uG (l : List Int) (n i : Nat) : Int:=if gJ l n=0 then 0 else if gJ l n=4∨gJ l n=5 then wr (wr (-nx l (fS l n i) 3) * 65536) else wr ((wr (wr (-nx l (fS l n i) 5) * 65536)).tdiv 8)
def uH (l : List Int) (n i : Nat) : Int:=if gJ l n=0 then 0 else if gJ l n=4∨gJ l n=5 then wr (nx l (nn l (fS l n i)) 4 * 32768) else wr (wr ((wr (wr (1+nx l (nn l (fS l n i)) 4) * 65536)).tdiv 8)+nx l (nn l (nn l (fS l n i))) 3)
def pM (l : List Int) (n i : Nat) : Nat:=if gJ l n=0 then fS l n i else if gJ l n=4∨gJ l n=5 then nn l (nn l (fS l n i)) else nn l (nn l (nn l (fS l n i)))
def iN (l : List Int) (n i : Nat) : J where
 name:=pL i
 kind:=gJ l n
 parent:=if nx l (nn l (nn l (nn l n))) 4=1 then -1 else wr ((i : Int) - 1)
 ox:=if 0 < i then 131072 else 0
 oy:=if 0 < i then wr (wr (nx l (sK l n) 5 - 2) * 32768) else 0
 oz:=if 0 < i then wr (wr (nx l (nn l (sK l n)) 3 - 1) * 32768) else 0
 lo:=uG l n i
 hi:=uH l n i
 w:=wr (1+nx l n 4)
 sp:=65536
 ac:=wr (65536+nx l (nn l n) 3)
 tq:=327680
theorem yq (l : List Int) (n i : Nat) (h3 : i < 3) (hn : n < 900000) : ab Tryz.prog 169 [.bx 0,.pv (Z i)] [eC l n] [eC l (pM l n i)] (.pv (dy (iN l n i))):=by
 have hx:=ba l (nn l (nn l n)) (k:=8) (by decide) (by decide)
 have l1:=aC l n
 have l2:=aC l (nn l n)
 have l3:=aC l (nn l (nn l n))
 have l4:=aC l (nn l (nn l (nn l n)))
 have l5:=aC l (nn l (nn l (nn l (nn l n))))
 have l6:=aC l (nn l (nn l (nn l (nn l (nn l n)))))
 have l7:=aC l (nn l (nn l (nn l (nn l (nn l (nn l n))))))
 have l8:=aC l (nn l (nn l (nn l (nn l (nn l (nn l (nn l n)))))))
 have l9:=aC l (nn l (nn l (nn l (nn l (nn l (nn l (nn l (nn l n))))))))
 have hix:=xu hx.1 hx.2
 refine jn Tryz.func169 rfl (by kernel_rfl) (by simp [Tryz.f169]) rfl (by intro i j h;rcases i with _|_|_|i<;>simp_all) ?_
 intro C hP hN
 simp only [Tryz.f169] at hN ⊢
 with_reducible repeat' (first|refine Sp.h ?_|((first|refine Ss.h ?_|refine Sc.h (Az i h3) ?_|refine Sc.h (bO l _ _ (by decide) (by omega)) ?_|refine Sc.h (nF l _ _ (by decide) (by decide) (by omega)) ?_|(refine Sb.h ?_ ?_ ?_<;>(try intro hgd)<;>try exact Xy))<;>simp -implicitDefEqProofs (maxSteps:=2000000) [hP,hN,eC,hix,hx.1,hx.2])|refine X2 ?_ ?_|(refine Xd ?_ ?_<;>intro hcd<;>try exact Xx))
 all_goals (clear hix hP hN l1 l2 l3 l4 l5 l6 l7 l8 l9 hx h3 hn;simp_all [iN,pM,uG,uH,gJ,fS,sK])
end Go.Ab
namespace Go.Ab
open Go.Proofs
structure Ms where
 link : Int
 mass : Int
 px : Int
 py : Int
 pz : Int
abbrev di (m : Ms) : PV:=.val (.agg #[.int .i64 m.link,.int .i64 m.mass,.int .i64 m.px,.int .i64 m.py,.int .i64 m.pz])
def kf (l : List Int) (m : Nat) : Nat→Nat
 |0=>m
 |i+1=>pM l (kf l m i) i
theorem yr (l : List Int) (n i : Nat) : fS l n i≤n+6:=by
 have l1:=aC l n
 have l2:=aC l (nn l n)
 have l3:=aC l (nn l (nn l n))
 have l4:=aC l (nn l (nn l (nn l n)))
 have l5:=aC l (nn l (nn l (nn l (nn l n))))
 have l6:=aC l (nn l (nn l (nn l (nn l (nn l n)))))
 unfold fS sK;split<;>omega
theorem xy (l : List Int) (n i : Nat) : pM l n i≤n+9:=by
 have h:=yr l n i
 have l1:=aC l (fS l n i)
 have l2:=aC l (nn l (fS l n i))
 have l3:=aC l (nn l (nn l (fS l n i)))
 unfold pM;split
 ·omega
 ·split<;>omega
theorem rt (l : List Int) (m i : Nat) : kf l m i≤m+9 * i:=by
 induction i with
 |zero=>simp [kf]
 |succ i ih=>have:=xy l (kf l m i) i;simp only [kf];omega
def oW (l : List Int) (m k : Nat) : List J:=(List.range k).map fun i=>iN l (kf l m i) i
theorem vG (l : List Int) (m k : Nat) : (oW l m (k+1)).map dy=(oW l m k).map dy++[dy (iN l (kf l m k) k)]:=by simp [oW,List.range_succ]
theorem kU (l : List Int) (m k : Nat) : (oW l m k).length=k:=by simp [oW]
def gM (l : List Int) (m : Nat) : Nat→Nat
 |0=>m
 |i+1=>nn l (nn l (nn l (nn l (gM l m i))))
theorem uI (l : List Int) (m i : Nat) : gM l m i≤m+4 * i:=by
 induction i with
 |zero=>simp [gM]
 |succ i ih=>
  have l1:=aC l (gM l m i)
  have l2:=aC l (nn l (gM l m i))
  have l3:=aC l (nn l (nn l (gM l m i)))
  have l4:=aC l (nn l (nn l (nn l (gM l m i))))
  simp only [gM];omega
def qH (l : List Int) (m : Nat) (n : Int) : Ms where
 link:=nx l m n
 mass:=wr (1+nx l (nn l m) 9000)
 px:=wr (wr (nx l (nn l (nn l m)) 7 - 3) * 32768)
 py:=0
 pz:=wr (wr (nx l (nn l (nn l (nn l m))) 5 - 2) * 32768)
def oX (l : List Int) (m : Nat) (n : Int) (k : Nat) : List Ms:=(List.range k).map fun i=>qH l (gM l m i) n
theorem vH (l : List Int) (m : Nat) (n : Int) (k : Nat) : (oX l m n (k+1)).map di=(oX l m n k).map di++[di (qH l (gM l m k) n)]:=by simp [oX,List.range_succ]
theorem pN (l : List Int) (m : Nat) (n : Int) (k : Nat) : (oX l m n k).length=k:=by simp [oX]
abbrev dz : AV:=.pv (.val (.slice none 0 0))
def rN (l : List Int) (n : Nat) : Nat:=(1+nx l n 3).toNat
def rM (l : List Int) (n : Nat) : Nat:=kf l (nn l n) (rN l n)
def rK (l : List Int) (n : Nat) : Nat:=(nx l (rM l n) 3).toNat
def gc (l : List Int) (n : Nat) : List J:=oW l (nn l n) (rN l n)
def kV (l : List Int) (n : Nat) : List Ms:=oX l (nn l (rM l n)) (rN l n) (rK l n)
def ly (l : List Int) (n : Nat) : Nat:=gM l (nn l (rM l n)) (rK l n)
theorem CE (l : List Int) (n : Nat) (hn : n < 100000) : ab Tryz.prog 66 [.bx 0] [eC l n] [eC l (ly l n)] (.pv (.agg [.sl ((gc l n).map dy),.sl ((kV l n).map di)])):=by
 have hx:=ba l n (k:=3) (by decide) (by decide)
 have hw1 : IntKind.i64.wrap (1+nx l n 3)=((rN l n : Nat) : Int):=by rw [IntKind.wrap_i64,rN];omega
 have hrN : rN l n≤3∧0 < rN l n:=by unfold rN;omega
 have hl1:=aC l n
 refine jn Tryz.func66 rfl (by kernel_rfl) (by simp [Tryz.f66]) rfl (by intro i j h;rcases i with _|_|_|i<;>simp_all) ?_
 intro C hP hN
 simp only [Tryz.f66] at hN ⊢
 with_reducible repeat' (first|refine Sp.h ?_|((first|refine Wd ?_|refine Ss.h ?_|refine Sc.h (bO l n 3 (by decide) (by omega)) ?_|(refine Sb.h ?_ ?_ ?_<;>(try intro hgd)<;>try exact Xy))<;>simp -implicitDefEqProofs (maxSteps:=2000000) [hP,hN,eC,hw1]<;>try refine Ya ?_)|refine X2 ?_ ?_|(refine Xd ?_ ?_<;>intro hcd<;>try exact Xx))
 refine WP.loopN [20] (rN l n) (fun i st=>st.t 0=.ptr (pk 0) 0∧st.t 2=.ptr 2 0∧st.t 3=.ptr 3 0∧st.t 4=.pv (Z (rN l n))∧st.t 5=.pv (Z i)∧
  st.h (pk 0)=some (.box [.pv (zs l),.pv (Z (kf l (nn l n) i))] false false)∧st.h 2=some (.box [dz,dz] true false)∧st.h 20=none∧st.h 45=none∧st.h 46=none∧
  ((i=0∧st.h 3=some (.box [dz,dz] true false)∧st.h 21=none)∨(0 < i∧st.h 3=some (.box [.arr 21 i,dz] true false)∧st.h 21=some (.row 131 12 ((oW l (nn l n) i).map dy) 0)))) (by simp [kf]) ?_
 rintro i st hi ⟨h0,h2,h3,h4,h5,hp,hb2,hb20,hb45,hb46,hor⟩
 by_cases hlt : i < rN l n
 ·have hw : IntKind.i64.wrap ((i : Int)+1)=(i : Int)+1:=by rw [IntKind.wrap_i64];omega
  have hm:=rt l (nn l n) i
  have hJ:=vG l (nn l n) i
  have hS : kf l (nn l n) (i+1)=pM l (kf l (nn l n) i) i:=rfl
  rcases hor with ⟨hi0,hb3,hb21⟩|⟨hi0,hb3,hb21⟩
  ·subst hi0
   with_reducible repeat' (first|refine Sp.h ?_|((first|refine Wd ?_|refine Ss.h ?_|refine Sc.h (yq l _ 0 (by omega) (by omega)) ?_|(refine Sb.h ?_ ?_ ?_<;>(try intro hgd)<;>try exact Xy))<;>simp -implicitDefEqProofs (maxSteps:=2000000) [hP,hN,h0,h2,h3,h4,h5,hp,hb2,hb20,hb45,hb46,hb3,hb21,hlt,hw,hS]<;>try refine Ya ?_)|refine X2 ?_ ?_|(refine Xd ?_ ?_<;>intro hcd<;>try exact Xx))
   exact ⟨by decide,by simp [oW]⟩
  ·have hz:=kU l (nn l n) i
   with_reducible repeat' (first|refine Sp.h ?_|((first|refine Wd ?_|refine Ss.h ?_|refine Sc.h (yq l _ i (by omega) (by omega)) ?_|(refine Sb.h ?_ ?_ ?_<;>(try intro hgd)<;>try exact Xy))<;>simp -implicitDefEqProofs (maxSteps:=2000000) [hP,hN,h0,h2,h3,h4,h5,hp,hb2,hb20,hb45,hb46,hb3,hb21,hlt,hw,hS,hz,show (i+1) * 104≤140737488355328 by omega,show i≤9223372036854775806 by omega]<;>try refine Ya ?_)|refine X2 ?_ ?_|(refine Xd ?_ ?_<;>intro hcd<;>try exact Xx))
   simp [hJ]
 ·have hir : i=rN l n:=by omega
  rcases hor with ⟨hi0,_⟩|⟨hi0,hb3,hb21⟩
  ·omega
  subst hir
  have hm:=rt l (nn l n) (rN l n)
  have hx3:=ba l (rM l n) (k:=3) (by decide) (by decide)
  have hk : nx l (kf l (nn l n) (rN l n)) 3=((rK l n : Nat) : Int):=by show nx l (rM l n) 3=_;unfold rK;omega
  have hk3 : rK l n < 3:=by unfold rK;omega
  have hz:=kU l (nn l n) (rN l n)
  have hl2:=aC l (rM l n)
  have hmr : rM l n≤nn l n+9 * rN l n:=hm
  with_reducible repeat' (first|refine Sp.h ?_|((first|refine Wd ?_|refine Ss.h ?_|refine Sc.h (bO l _ 3 (by decide) (by omega)) ?_|(refine Sb.h ?_ ?_ ?_<;>(try intro hgd)<;>try exact Xy))<;>simp -implicitDefEqProofs (maxSteps:=2000000) [hP,hN,h0,h2,h3,h4,h5,hp,hb2,hb20,hb45,hb46,hb3,hb21,hlt,hk]<;>try refine Ya ?_)|refine X2 ?_ ?_|(refine Xd ?_ ?_<;>intro hcd<;>try exact Xx))
  refine WP.loopN [] (rK l n) (fun i st=>st.t 0=.ptr (pk 0) 0∧st.t 2=.ptr 2 0∧st.t 3=.ptr 3 0∧st.t 4=.pv (Z (rN l n))∧st.t 6=.pv (Z ((rK l n : Int) - i))∧
   st.h (pk 0)=some (.box [.pv (zs l),.pv (Z (gM l (nn l (rM l n)) i))] false false)∧st.h 2=some (.box [dz,dz] true false)∧st.h 45=none∧st.h 21=some (.row 131 12 ((gc l n).map dy) 0)∧
   ((i=0∧st.h 3=some (.box [.arr 21 (rN l n),dz] true false)∧st.h 46=none)∨(0 < i∧st.h 3=some (.box [.arr 21 (rN l n),.arr 46 i] true false)∧st.h 46=some (.row 238 5 ((oX l (nn l (rM l n)) (rN l n) i).map di) 0)))) (by simp [h0,h2,h3,h4,hb2,hb45,hb46,hb3,hb21,gM,rM,gc]) ?_
  clear hb2 hb20 hb45 hb46 hb3 hb21 hp h0 h2 h3 h4 h5
  rintro i st hi ⟨h0,h2,h3,h4,h6,hp,hb2,hb45,hb21,hor⟩
  by_cases hlt : i < rK l n
  ·have hw : IntKind.i64.wrap ((rK l n : Int) - i - 1)=(rK l n : Int) - ((i : Int)+1):=by rw [IntKind.wrap_i64];omega
   have hgt : (0 : Int) < (rK l n : Int) - i:=by omega
   have hm2:=uI l (nn l (rM l n)) i
   have l1:=aC l (gM l (nn l (rM l n)) i)
   have l2:=aC l (nn l (gM l (nn l (rM l n)) i))
   have l3:=aC l (nn l (nn l (gM l (nn l (rM l n)) i)))
   have hJ:=vH l (nn l (rM l n)) (rN l n) i
   have hS : gM l (nn l (rM l n)) (i+1)=nn l (nn l (nn l (nn l (gM l (nn l (rM l n)) i)))):=rfl
   have hne : ((rN l n : Nat) : Int)≠0:=by omega
   rcases hor with ⟨hi0,hb3,hb46⟩|⟨hi0,hb3,hb46⟩
   ·subst hi0
    with_reducible repeat' (first|refine Sp.h ?_|((first|refine Wd ?_|refine Ss.h ?_|refine Sc.h (bO l _ _ hne (by omega)) ?_|refine Sc.h (bO l _ _ (by decide) (by omega)) ?_|refine Sc.h (nF l _ _ (by decide) (by decide) (by omega)) ?_|(refine Sb.h ?_ ?_ ?_<;>(try intro hgd)<;>try exact Xy))<;>simp -implicitDefEqProofs (maxSteps:=2000000) [hP,hN,h0,h2,h3,h4,h6,hp,hb2,hb45,hb46,hb3,hb21,hlt,hw,hgt,hS]<;>try refine Ya ?_)|refine X2 ?_ ?_|(refine Xd ?_ ?_<;>intro hcd<;>try exact Xx))
    exact ⟨by rw [IntKind.wrap_i64];omega,by simp [oX,qH,gM]⟩
   ·have hz:=pN l (nn l (rM l n)) (rN l n) i
    with_reducible repeat' (first|refine Sp.h ?_|((first|refine Wd ?_|refine Ss.h ?_|refine Sc.h (bO l _ _ hne (by omega)) ?_|refine Sc.h (bO l _ _ (by decide) (by omega)) ?_|refine Sc.h (nF l _ _ (by decide) (by decide) (by omega)) ?_|(refine Sb.h ?_ ?_ ?_<;>(try intro hgd)<;>try exact Xy))<;>simp -implicitDefEqProofs (maxSteps:=2000000) [hP,hN,h0,h2,h3,h4,h6,hp,hb2,hb45,hb46,hb3,hb21,hlt,hw,hgt,hS,hz,show (i+1) * 40≤140737488355328 by omega,show i≤9223372036854775806 by omega]<;>try refine Ya ?_)|refine X2 ?_ ?_|(refine Xd ?_ ?_<;>intro hcd<;>try exact Xx))
    simp [hJ,qH]
  ·have hir : i=rK l n:=by omega
   subst hir
   have hzJ : (gc l n).length=rN l n:=kU l (nn l n) (rN l n)
   have hzM:=pN l (nn l (rM l n)) (rN l n) (rK l n)
   rcases hor with ⟨hi0,hb3,hb46⟩|⟨hi0,hb3,hb46⟩
   ·skip
    with_reducible repeat' (first|refine Sp.h ?_|((first|refine Wd ?_|refine Ss.h ?_|(refine Sb.h ?_ ?_ ?_<;>(try intro hgd)<;>try exact Xy))<;>simp -implicitDefEqProofs (maxSteps:=2000000) [hP,hN,h0,h2,h3,h4,h6,hp,hb2,hb45,hb46,hb3,hb21,hi0,hzJ]<;>try refine Ya ?_)|refine X2 ?_ ?_|(refine Xd ?_ ?_<;>intro hcd<;>try exact Xx))
    all_goals simp [ly,kV,hi0,oX]
   ·skip
    with_reducible repeat' (first|refine Sp.h ?_|((first|refine Wd ?_|refine Ss.h ?_|(refine Sb.h ?_ ?_ ?_<;>(try intro hgd)<;>try exact Xy))<;>simp -implicitDefEqProofs (maxSteps:=2000000) [hP,hN,h0,h2,h3,h4,h6,hp,hb2,hb45,hb46,hb3,hb21,hzJ,hzM]<;>try refine Ya ?_)|refine X2 ?_ ?_|(refine Xd ?_ ?_<;>intro hcd<;>try exact Xx))
    all_goals simp [ly,kV]
abbrev kC (js : List J) (ms : List Ms) : PV:=.agg [.sl (js.map dy),.sl (ms.map di)]
end Go.Ab
namespace Go.Ab
open Go.Proofs
def nG (j : J) : Prop:=-1000000≤j.lo∧j.lo≤j.hi∧j.hi≤1000000
theorem vJ (l : List Int) (n i : Nat) : nG (iN l n i)∧(iN l n i).lo≤0∧0≤(iN l n i).hi:=by
 have h1:=ba l (fS l n i) (k:=3) (by decide) (by decide)
 have h2:=ba l (fS l n i) (k:=5) (by decide) (by decide)
 have h3:=ba l (nn l (fS l n i)) (k:=4) (by decide) (by decide)
 have h4:=ba l (nn l (nn l (fS l n i))) (k:=3) (by decide) (by decide)
 have hlo : -1000000≤uG l n i∧uG l n i≤0:=by
  unfold uG
  generalize nx l (fS l n i) 3=a at *
  generalize nx l (fS l n i) 5=b at *
  split
  ·omega
  ·split
   ·simp only [wr,IntKind.wrap_i64];omega
   ·have : b=0∨b=1∨b=2∨b=3∨b=4:=by omega
    rcases this with rfl|rfl|rfl|rfl|rfl<;>decide
 have hhi : 0≤uH l n i∧uH l n i≤1000000:=by
  unfold uH
  generalize nx l (nn l (fS l n i)) 4=a at *
  generalize nx l (nn l (nn l (fS l n i))) 3=b at *
  split
  ·omega
  ·split
   ·simp only [wr,IntKind.wrap_i64];omega
   ·have ha : ∀ c : Int,0≤c→c < 4→0≤wr ((wr (wr (1+c) * 65536)).tdiv 8)∧wr ((wr (wr (1+c) * 65536)).tdiv 8)≤32768:=by
     intro c h0 h4
     have : c=0∨c=1∨c=2∨c=3:=by omega
     rcases this with rfl|rfl|rfl|rfl<;>decide
    have:=ha a h3.1 h3.2
    rw [aa (n:=wr ((wr (wr (1+a) * 65536)).tdiv 8)+b) (by omega) (by omega)];omega
 simp only [nG,iN];omega
theorem yt (l : List Int) (n : Nat) : ∀ j ∈ gc l n,nG j:=by
 intro j hj
 simp only [gc,oW,List.mem_map] at hj
 obtain ⟨i,_,rfl⟩:=hj
 exact (vJ l _ i).1
theorem sL (l : List Int) (n : Nat) : (gc l n).length≤3∧0 < (gc l n).length:=by
 have hx:=ba l n (k:=3) (by decide) (by decide)
 rw [gc,kU,rN];omega
end Go.Ab
namespace Go.Ab
open Go.Proofs
theorem xz {P : Program} (d : Nat) (t : TypeId) (a b : Bool) (h : P.underlying t=some .bool) : ai P (Op.equalIn (d+1) t (.bool a) (.bool b))=some (a==b):=by
 simp only [Op.equalIn,ag,ei h,Option.bind_some];rfl
def wO (x y : AV) : Option (Bool × Bool):=match x,y with
 |.pv (.val (.bool a)),.pv (.val (.bool b))=>some (a,b)
 |_,_=>none
def vK (x y : AV) (fb : Option bR) : Option bR:=match wO x y with
 |some (a,b)=>some (.pv (.val (.bool (a==b))),[])
 |none=>fb
@[simp] theorem zY (a b : Bool) (fb : Option bR) : vK (.pv (.val (.bool a))) (.pv (.val (.bool b))) fb=some (.pv (.val (.bool (a==b))),[]):=rfl
@[simp] theorem CF {dst : Option Nat} {ty : TypeId} {pos : String} {aft : Array Edge} {g : Option (Nat × Bool)} {ρ : Operand→AV} (x y : Operand) :
 aP Tryz.prog ⟨dst,.binOp .eql 4 x y 4,ty,pos,aft,g⟩ ρ=vK (ρ x) (ρ y) (jq Tryz.prog ⟨dst,.binOp .eql 4 x y 4,ty,pos,aft,g⟩ ρ):=by
 unfold vK
 split
 ·rename_i a b h
  unfold wO at h
  split at h
  ·rename_i a' b' hx hy
   injection h with h;injection h with h1 h2;subst h1;subst h2
   refine cB (by simp [Op.operands,hx,hy,cU]) ?_
   unfold execOp
   simp only [(aW hx).2,(aW hy).2]
   have h1 : ai Tryz.prog (eqGuard .eql 4 x y (.bool a') (.bool b'))=some ():=by kernel_rfl
   have h2 : ai Tryz.prog (binOp .eql 4 (.bool a') (.bool b'))=some (.bool (a'==b')):=by
    simp only [binOp,ag]
    rw [show ai Tryz.prog (Op.equal 4 (.bool a') (.bool b'))=some (a'==b') from xz 9999 4 a' b' Tryz.underlying4]
    rfl
   simp only [ag,h1,h2,Option.bind_some];rfl
  ·cases h
 ·rfl
def yu (xs : List (Int × Int)) (ys : List Int) : Bool:=decide (xs.length=ys.length) && mw Ay xs ys
def yv (x y : Int × Int) : Bool:=aH x.1 x.2 && aH y.1 y.2 && decide (max x.1 y.1≤min x.2 y.2)
def oY (xs ys : List (Int × Int)) : Bool:=decide (xs.length=ys.length) && mw yv xs ys
end Go.Ab
