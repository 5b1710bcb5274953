/- The contracts and facts that the laws of this seat need, in one text (Ty, CfA). -/
import Derived.Test.YtpbakcmohoahgaaGreatV3
import Derived.Test.YtpbakcmohoahgaaGreatProg
set_option linter.all false
set_option maxHeartbeats 16000000
namespace Go.Ab
open Go.Proofs
@[simp] theorem Pg : ae Tryz.prog 2=some ⟨1,(some (.int .i64 0)),.one⟩:=by kernel_rfl
@[simp] theorem Ph : cE Tryz.prog 2=some .i64:=by kernel_rfl
@[simp] theorem Pi : ae Tryz.prog 3=some ⟨1,(some (.int .i64 0)),.one⟩:=by kernel_rfl
@[simp] theorem Pj : cE Tryz.prog 3=some .i64:=by kernel_rfl
@[simp] theorem Pk : ae Tryz.prog 4=some ⟨1,(some (.bool false)),.one⟩:=by kernel_rfl
@[simp] theorem Pl : ae Tryz.prog 5=some ⟨1,(some (.int .u8 0)),.one⟩:=by kernel_rfl
@[simp] theorem Pm : cE Tryz.prog 5=some .u8:=by kernel_rfl
@[simp] theorem Pn : ae Tryz.prog 6=some ⟨1,(some (.int .u8 0)),.one⟩:=by kernel_rfl
@[simp] theorem Po : cE Tryz.prog 6=some .u8:=by kernel_rfl
@[simp] theorem Pp : ae Tryz.prog 7=some ⟨4,(some (.agg #[.int .i64 0,.int .i64 0,.bool false,.int .u8 0])),.struct [(0,1),(1,1),(2,1),(3,1)]⟩:=by kernel_rfl
@[simp] theorem Pq : ae Tryz.prog 8=some ⟨4,(some (.agg #[.int .i64 0,.int .i64 0,.bool false,.int .u8 0])),.struct [(0,1),(1,1),(2,1),(3,1)]⟩:=by kernel_rfl
@[simp] theorem Pr : ae Tryz.prog 9=some ⟨1,(some (.string ByteArray.empty)),.one⟩:=by kernel_rfl
@[simp] theorem Ps : eR Tryz.prog 9=some none:=by kernel_rfl
@[simp] theorem Oq : ae Tryz.prog 10=some ⟨1,(some (.string ByteArray.empty)),.one⟩:=by kernel_rfl
@[simp] theorem Ot : eR Tryz.prog 10=some none:=by kernel_rfl
@[simp] theorem Ou : ae Tryz.prog 11=some ⟨1,(some (.string ByteArray.empty)),.one⟩:=by kernel_rfl
@[simp] theorem Ov : eR Tryz.prog 11=some none:=by kernel_rfl
@[simp] theorem Ow : ae Tryz.prog 12=some ⟨1,(some (.int .u64 0)),.one⟩:=by kernel_rfl
@[simp] theorem Ox : cE Tryz.prog 12=some .u64:=by kernel_rfl
@[simp] theorem Oy : ae Tryz.prog 13=some ⟨2,(some (.agg #[.string ByteArray.empty,.int .u64 0])),.struct [(0,1),(1,1)]⟩:=by kernel_rfl
@[simp] theorem Oz : ae Tryz.prog 14=some ⟨2,(some (.agg #[.string ByteArray.empty,.int .u64 0])),.struct [(0,1),(1,1)]⟩:=by kernel_rfl
@[simp] theorem OA : ae Tryz.prog 15=some ⟨1,(some (.pointer none)),.one⟩:=by kernel_rfl
@[simp] theorem OB : ae Tryz.prog 16=some ⟨1,(some (.pointer none)),.one⟩:=by kernel_rfl
@[simp] theorem OC : ae Tryz.prog 17=some ⟨1,(some (.pointer none)),.one⟩:=by kernel_rfl
@[simp] theorem OD : ae Tryz.prog 18=some ⟨1,(some (.agg #[.pointer none])),.struct [(0,1)]⟩:=by kernel_rfl
@[simp] theorem OE : ae Tryz.prog 19=some ⟨1,(some (.agg #[.pointer none])),.struct [(0,1)]⟩:=by kernel_rfl
@[simp] theorem OF : ae Tryz.prog 21=some ⟨1,(some (.int .i32 0)),.one⟩:=by kernel_rfl
@[simp] theorem OG : cE Tryz.prog 21=some .i32:=by kernel_rfl
@[simp] theorem OH : ae Tryz.prog 22=some ⟨1,(some (.slice none 0 0)),.slice 3 1 8 (some (.int .i64 0))⟩:=by kernel_rfl
@[simp] theorem OI : ae Tryz.prog 23=some ⟨1,(some (.slice none 0 0)),.slice 131 12 104 (some (.agg #[.string ByteArray.empty,.int .i64 0,.int .i64 0,.int .i64 0,.int .i64 0,.int .i64 0,.int .i64 0,.int .i64 0,.int .i64 0,.int .i64 0,.int .i64 0,.int .i64 0]))⟩:=by kernel_rfl
@[simp] theorem OJ : ae Tryz.prog 24=some ⟨1,(some (.slice none 0 0)),.slice 238 5 40 (some (.agg #[.int .i64 0,.int .i64 0,.int .i64 0,.int .i64 0,.int .i64 0]))⟩:=by kernel_rfl
@[simp] theorem OK : ae Tryz.prog 25=some ⟨2,(some (.agg #[.slice none 0 0,.slice none 0 0])),.struct [(0,1),(1,1)]⟩:=by kernel_rfl
@[simp] theorem OM : ae Tryz.prog 26=some ⟨2,(some (.agg #[.slice none 0 0,.slice none 0 0])),.struct [(0,1),(1,1)]⟩:=by kernel_rfl
@[simp] theorem ON : ae Tryz.prog 27=some ⟨1,(some (.slice none 0 0)),.slice 85 3 40 (some (.agg #[.int .i64 0,.int .i64 0,.slice none 0 0]))⟩:=by kernel_rfl
@[simp] theorem OO : ae Tryz.prog 28=some ⟨1,(some (.slice none 0 0)),.slice 129 2 16 (some (.agg #[.int .i64 0,.int .i64 0]))⟩:=by kernel_rfl
@[simp] theorem OP : ae Tryz.prog 29=some ⟨4,(some (.agg #[.slice none 0 0,.slice none 0 0,.slice none 0 0,.slice none 0 0])),.struct [(0,2),(2,1),(3,1)]⟩:=by kernel_rfl
@[simp] theorem OQ : ae Tryz.prog 30=some ⟨4,(some (.agg #[.slice none 0 0,.slice none 0 0,.slice none 0 0,.slice none 0 0])),.struct [(0,2),(2,1),(3,1)]⟩:=by kernel_rfl
@[simp] theorem OR : ae Tryz.prog 32=some ⟨1,(some (.slice none 0 0)),.slice 83 2 16 (some (.agg #[.int .i64 0,.int .i64 0]))⟩:=by kernel_rfl
@[simp] theorem OS : ae Tryz.prog 34=some ⟨1,(some (.slice none 0 0)),.slice 54 8 112 (some (.agg #[.int .i64 0,.int .i64 0,.int .i64 0,.int .i64 0,.slice none 0 0,.int .i64 0,.slice none 0 0,.slice none 0 0]))⟩:=by kernel_rfl
@[simp] theorem OT : ae Tryz.prog 35=some ⟨2,(some (.agg #[.slice none 0 0,.slice none 0 0])),.struct [(0,1),(1,1)]⟩:=by kernel_rfl
@[simp] theorem OU : ae Tryz.prog 36=some ⟨2,(some (.agg #[.slice none 0 0,.slice none 0 0])),.struct [(0,1),(1,1)]⟩:=by kernel_rfl
@[simp] theorem OV : ae Tryz.prog 39=some ⟨1,(some (.slice none 0 0)),.slice 126 3 24 (some (.agg #[.int .i64 0,.int .i64 0,.int .i64 0]))⟩:=by kernel_rfl
@[simp] theorem OW : ae Tryz.prog 40=some ⟨1,(some (.slice none 0 0)),.slice 2 1 8 (some (.int .i64 0))⟩:=by kernel_rfl
@[simp] theorem OX : ae Tryz.prog 41=some ⟨3,(some (.agg #[.int .i64 0,.slice none 0 0,.slice none 0 0])),.struct [(0,1),(1,1),(2,1)]⟩:=by kernel_rfl
@[simp] theorem OY : ae Tryz.prog 42=some ⟨3,(some (.agg #[.int .i64 0,.slice none 0 0,.slice none 0 0])),.struct [(0,1),(1,1),(2,1)]⟩:=by kernel_rfl
@[simp] theorem OZ : ae Tryz.prog 43=some ⟨5,(some (.agg #[.int .i64 0,.slice none 0 0,.int .i64 0,.slice none 0 0,.slice none 0 0])),.struct [(0,1),(1,1),(2,3)]⟩:=by kernel_rfl
@[simp] theorem O0 : ae Tryz.prog 44=some ⟨5,(some (.agg #[.int .i64 0,.slice none 0 0,.int .i64 0,.slice none 0 0,.slice none 0 0])),.struct [(0,1),(1,1),(2,3)]⟩:=by kernel_rfl
@[simp] theorem O1 : ae Tryz.prog 53=some ⟨8,(some (.agg #[.int .i64 0,.int .i64 0,.int .i64 0,.int .i64 0,.slice none 0 0,.int .i64 0,.slice none 0 0,.slice none 0 0])),.struct [(0,1),(1,1),(2,1),(3,5)]⟩:=by kernel_rfl
@[simp] theorem O2 : ae Tryz.prog 54=some ⟨8,(some (.agg #[.int .i64 0,.int .i64 0,.int .i64 0,.int .i64 0,.slice none 0 0,.int .i64 0,.slice none 0 0,.slice none 0 0])),.struct [(0,1),(1,1),(2,1),(3,5)]⟩:=by kernel_rfl
@[simp] theorem O3 : ae Tryz.prog 65=some ⟨1,(some (.slice none 0 0)),.slice 40 1 24 (some (.slice none 0 0))⟩:=by kernel_rfl
@[simp] theorem O4 : ae Tryz.prog 66=some ⟨1,(some (.slice none 0 0)),.slice 76 2 48 (some (.agg #[.slice none 0 0,.slice none 0 0]))⟩:=by kernel_rfl
@[simp] theorem O5 : ae Tryz.prog 67=some ⟨2,(some (.agg #[.slice none 0 0,.slice none 0 0])),.struct [(0,1),(1,1)]⟩:=by kernel_rfl
@[simp] theorem O6 : ae Tryz.prog 68=some ⟨2,(some (.agg #[.slice none 0 0,.slice none 0 0])),.struct [(0,1),(1,1)]⟩:=by kernel_rfl
@[simp] theorem O7 : ae Tryz.prog 71=some ⟨1,(some (.int .i64 0)),.one⟩:=by kernel_rfl
@[simp] theorem O8 : cE Tryz.prog 71=some .i64:=by kernel_rfl
@[simp] theorem O9 : ae Tryz.prog 74=some ⟨1,(some (.slice none 0 0)),.slice 280 3 40 (some (.agg #[.int .i64 0,.int .i64 0,.slice none 0 0]))⟩:=by kernel_rfl
@[simp] theorem Pa : ae Tryz.prog 75=some ⟨2,(some (.agg #[.slice none 0 0,.slice none 0 0])),.struct [(0,1),(1,1)]⟩:=by kernel_rfl
@[simp] theorem Pb : ae Tryz.prog 76=some ⟨2,(some (.agg #[.slice none 0 0,.slice none 0 0])),.struct [(0,1),(1,1)]⟩:=by kernel_rfl
@[simp] theorem Pc : ae Tryz.prog 82=some ⟨2,(some (.agg #[.int .i64 0,.int .i64 0])),.struct [(0,1),(1,1)]⟩:=by kernel_rfl
@[simp] theorem Pd : ae Tryz.prog 83=some ⟨2,(some (.agg #[.int .i64 0,.int .i64 0])),.struct [(0,1),(1,1)]⟩:=by kernel_rfl
@[simp] theorem Pe : ae Tryz.prog 84=some ⟨3,(some (.agg #[.int .i64 0,.int .i64 0,.slice none 0 0])),.struct [(0,1),(1,1),(2,1)]⟩:=by kernel_rfl
@[simp] theorem Pf : ae Tryz.prog 85=some ⟨3,(some (.agg #[.int .i64 0,.int .i64 0,.slice none 0 0])),.struct [(0,1),(1,1),(2,1)]⟩:=by kernel_rfl
@[simp] theorem L8 : ae Tryz.prog 101=some ⟨4,(some (.agg #[.int .i64 0,.int .i64 0,.int .i64 0,.int .i64 0])),.struct [(0,1),(1,1),(2,1),(3,1)]⟩:=by kernel_rfl
@[simp] theorem L9 : ae Tryz.prog 102=some ⟨4,(some (.agg #[.int .i64 0,.int .i64 0,.int .i64 0,.int .i64 0])),.struct [(0,1),(1,1),(2,1),(3,1)]⟩:=by kernel_rfl
@[simp] theorem Ma : ae Tryz.prog 120=some ⟨1,(some (.pointer none)),.one⟩:=by kernel_rfl
@[simp] theorem Mb : ae Tryz.prog 125=some ⟨3,(some (.agg #[.int .i64 0,.int .i64 0,.int .i64 0])),.array 3 1⟩:=by kernel_rfl
@[simp] theorem Mc : eR Tryz.prog 125=some (some 3):=by kernel_rfl
@[simp] theorem Md : ae Tryz.prog 126=some ⟨3,(some (.agg #[.int .i64 0,.int .i64 0,.int .i64 0])),.array 3 1⟩:=by kernel_rfl
@[simp] theorem Me : eR Tryz.prog 126=some (some 3):=by kernel_rfl
@[simp] theorem Mf : ae Tryz.prog 128=some ⟨2,(some (.agg #[.int .i64 0,.int .i64 0])),.struct [(0,1),(1,1)]⟩:=by kernel_rfl
@[simp] theorem Mg : ae Tryz.prog 129=some ⟨2,(some (.agg #[.int .i64 0,.int .i64 0])),.struct [(0,1),(1,1)]⟩:=by kernel_rfl
@[simp] theorem Mh : ae Tryz.prog 130=some ⟨12,(some (.agg #[.string ByteArray.empty,.int .i64 0,.int .i64 0,.int .i64 0,.int .i64 0,.int .i64 0,.int .i64 0,.int .i64 0,.int .i64 0,.int .i64 0,.int .i64 0,.int .i64 0])),.struct [(0,1),(1,1),(2,1),(3,3),(6,1),(7,1),(8,1),(9,1),(10,1),(11,1)]⟩:=by kernel_rfl
@[simp] theorem Mi : ae Tryz.prog 131=some ⟨12,(some (.agg #[.string ByteArray.empty,.int .i64 0,.int .i64 0,.int .i64 0,.int .i64 0,.int .i64 0,.int .i64 0,.int .i64 0,.int .i64 0,.int .i64 0,.int .i64 0,.int .i64 0])),.struct [(0,1),(1,1),(2,1),(3,3),(6,1),(7,1),(8,1),(9,1),(10,1),(11,1)]⟩:=by kernel_rfl
@[simp] theorem Mj : ae Tryz.prog 134=some ⟨1,(some (.slice none 0 0)),.slice 141 2 32 (some (.agg #[.slice none 0 0,.int .i64 0]))⟩:=by kernel_rfl
@[simp] theorem Mk : ae Tryz.prog 139=some ⟨1,(some (.slice none 0 0)),.slice 256 6 48 (some (.agg #[.int .i64 0,.int .i64 0,.int .i64 0,.int .i64 0,.int .i64 0,.int .i64 0]))⟩:=by kernel_rfl
@[simp] theorem Ml : ae Tryz.prog 140=some ⟨2,(some (.agg #[.slice none 0 0,.int .i64 0])),.struct [(0,1),(1,1)]⟩:=by kernel_rfl
@[simp] theorem Mm : ae Tryz.prog 141=some ⟨2,(some (.agg #[.slice none 0 0,.int .i64 0])),.struct [(0,1),(1,1)]⟩:=by kernel_rfl
@[simp] theorem Mn : ae Tryz.prog 142=some ⟨7,(some (.agg #[.int .i64 0,.int .i64 0,.int .i64 0,.int .i64 0,.slice none 0 0,.slice none 0 0,.int .i64 0])),.struct [(0,1),(1,3),(4,1),(5,1),(6,1)]⟩:=by kernel_rfl
@[simp] theorem Mo : ae Tryz.prog 143=some ⟨7,(some (.agg #[.int .i64 0,.int .i64 0,.int .i64 0,.int .i64 0,.slice none 0 0,.slice none 0 0,.int .i64 0])),.struct [(0,1),(1,3),(4,1),(5,1),(6,1)]⟩:=by kernel_rfl
@[simp] theorem Mp : ae Tryz.prog 157=some ⟨1,(some (.slice none 0 0)),.slice 32 1 24 (some (.slice none 0 0))⟩:=by kernel_rfl
@[simp] theorem Mq : ae Tryz.prog 172=some ⟨1,(some (.slice none 0 0)),.slice 4 1 1 (some (.bool false))⟩:=by kernel_rfl
@[simp] theorem Mr : ae Tryz.prog 173=some ⟨3,(some (.agg #[.slice none 0 0,.slice none 0 0,.slice none 0 0])),.struct [(0,1),(1,1),(2,1)]⟩:=by kernel_rfl
@[simp] theorem Mt : ae Tryz.prog 174=some ⟨3,(some (.agg #[.slice none 0 0,.slice none 0 0,.slice none 0 0])),.struct [(0,1),(1,1),(2,1)]⟩:=by kernel_rfl
@[simp] theorem Mu : ae Tryz.prog 181=some ⟨3,(some (.agg #[.int .i64 0,.int .i64 0,.slice none 0 0])),.struct [(0,1),(1,1),(2,1)]⟩:=by kernel_rfl
@[simp] theorem Mv : ae Tryz.prog 182=some ⟨3,(some (.agg #[.int .i64 0,.int .i64 0,.slice none 0 0])),.struct [(0,1),(1,1),(2,1)]⟩:=by kernel_rfl
@[simp] theorem Mw : ae Tryz.prog 183=some ⟨1,(some (.slice none 0 0)),.slice 182 3 40 (some (.agg #[.int .i64 0,.int .i64 0,.slice none 0 0]))⟩:=by kernel_rfl
@[simp] theorem Mx : ae Tryz.prog 191=some ⟨1,(some (.slice none 0 0)),.slice 242 2 16 (some (.agg #[.int .i64 0,.int .i64 0]))⟩:=by kernel_rfl
@[simp] theorem My : ae Tryz.prog 192=some ⟨1,(some (.slice none 0 0)),.slice 139 1 24 (some (.slice none 0 0))⟩:=by kernel_rfl
@[simp] theorem Mz : ae Tryz.prog 193=some ⟨3,(some (.agg #[.slice none 0 0,.slice none 0 0,.slice none 0 0])),.struct [(0,1),(1,1),(2,1)]⟩:=by kernel_rfl
@[simp] theorem MA : ae Tryz.prog 194=some ⟨3,(some (.agg #[.slice none 0 0,.slice none 0 0,.slice none 0 0])),.struct [(0,1),(1,1),(2,1)]⟩:=by kernel_rfl
@[simp] theorem MB : ae Tryz.prog 197=some ⟨4,(some (.agg #[.slice none 0 0,.slice none 0 0,.int .i64 0,.int .i64 0])),.struct [(0,1),(1,1),(2,1),(3,1)]⟩:=by kernel_rfl
@[simp] theorem MC : ae Tryz.prog 198=some ⟨4,(some (.agg #[.slice none 0 0,.slice none 0 0,.int .i64 0,.int .i64 0])),.struct [(0,1),(1,1),(2,1),(3,1)]⟩:=by kernel_rfl
@[simp] theorem MD : ae Tryz.prog 202=some ⟨3,(some (.agg #[.int .i64 0,.slice none 0 0,.slice none 0 0])),.struct [(0,3)]⟩:=by kernel_rfl
@[simp] theorem ME : ae Tryz.prog 203=some ⟨3,(some (.agg #[.int .i64 0,.slice none 0 0,.slice none 0 0])),.struct [(0,3)]⟩:=by kernel_rfl
@[simp] theorem MF : ae Tryz.prog 204=some ⟨1,(some (.agg #[.slice none 0 0])),.struct [(0,1)]⟩:=by kernel_rfl
@[simp] theorem MG : ae Tryz.prog 205=some ⟨1,(some (.agg #[.slice none 0 0])),.struct [(0,1)]⟩:=by kernel_rfl
@[simp] theorem MH : ae Tryz.prog 218=some ⟨2,(some (.agg #[.slice none 0 0,.slice none 0 0])),.struct [(0,1),(1,1)]⟩:=by kernel_rfl
@[simp] theorem MI : ae Tryz.prog 219=some ⟨2,(some (.agg #[.slice none 0 0,.slice none 0 0])),.struct [(0,1),(1,1)]⟩:=by kernel_rfl
@[simp] theorem MJ : ae Tryz.prog 224=some ⟨2,(some (.agg #[.int .i64 0,.int .i64 0])),.struct [(0,1),(1,1)]⟩:=by kernel_rfl
@[simp] theorem MK : ae Tryz.prog 225=some ⟨2,(some (.agg #[.int .i64 0,.int .i64 0])),.struct [(0,1),(1,1)]⟩:=by kernel_rfl
@[simp] theorem ML : ae Tryz.prog 234=some ⟨2,(some (.agg #[.slice none 0 0,.int .i64 0])),.struct [(0,1),(1,1)]⟩:=by kernel_rfl
@[simp] theorem MM : ae Tryz.prog 235=some ⟨2,(some (.agg #[.slice none 0 0,.int .i64 0])),.struct [(0,1),(1,1)]⟩:=by kernel_rfl
@[simp] theorem MN : ae Tryz.prog 237=some ⟨5,(some (.agg #[.int .i64 0,.int .i64 0,.int .i64 0,.int .i64 0,.int .i64 0])),.struct [(0,1),(1,1),(2,3)]⟩:=by kernel_rfl
@[simp] theorem MO : ae Tryz.prog 238=some ⟨5,(some (.agg #[.int .i64 0,.int .i64 0,.int .i64 0,.int .i64 0,.int .i64 0])),.struct [(0,1),(1,1),(2,3)]⟩:=by kernel_rfl
@[simp] theorem MP : ae Tryz.prog 242=some ⟨2,(some (.agg #[.int .i64 0,.int .i64 0])),.struct [(0,1),(1,1)]⟩:=by kernel_rfl
@[simp] theorem MQ : ae Tryz.prog 255=some ⟨6,(some (.agg #[.int .i64 0,.int .i64 0,.int .i64 0,.int .i64 0,.int .i64 0,.int .i64 0])),.array 3 2⟩:=by kernel_rfl
@[simp] theorem MR : eR Tryz.prog 255=none:=by kernel_rfl
@[simp] theorem MS : oM Tryz.prog 255=some (3,2):=by kernel_rfl
@[simp] theorem MT : ae Tryz.prog 256=some ⟨6,(some (.agg #[.int .i64 0,.int .i64 0,.int .i64 0,.int .i64 0,.int .i64 0,.int .i64 0])),.array 3 2⟩:=by kernel_rfl
@[simp] theorem MU : eR Tryz.prog 256=none:=by kernel_rfl
@[simp] theorem MV : oM Tryz.prog 256=some (3,2):=by kernel_rfl
@[simp] theorem MW : ae Tryz.prog 263=some ⟨1,(some (.nilFunc)),.one⟩:=by kernel_rfl
@[simp] theorem MX : ae Tryz.prog 274=some ⟨1,(some (.nilFunc)),.one⟩:=by kernel_rfl
@[simp] theorem MY : ae Tryz.prog 279=some ⟨3,(some (.agg #[.int .i64 0,.int .i64 0,.slice none 0 0])),.struct [(0,1),(1,1),(2,1)]⟩:=by kernel_rfl
@[simp] theorem MZ : ae Tryz.prog 280=some ⟨3,(some (.agg #[.int .i64 0,.int .i64 0,.slice none 0 0])),.struct [(0,1),(1,1),(2,1)]⟩:=by kernel_rfl
@[simp] theorem M5 : ae Tryz.prog 286=some ⟨1,(some (.nilFunc)),.one⟩:=by kernel_rfl
@[simp] theorem M6 : ae Tryz.prog 288=some ⟨2,(some (.agg #[.slice none 0 0,.slice none 0 0])),.struct [(0,1),(1,1)]⟩:=by kernel_rfl
@[simp] theorem M7 : ae Tryz.prog 289=some ⟨2,(some (.agg #[.slice none 0 0,.slice none 0 0])),.struct [(0,1),(1,1)]⟩:=by kernel_rfl
@[simp] theorem M8 : ae Tryz.prog 291=some ⟨2,(some (.agg #[.slice none 0 0,.slice none 0 0])),.struct [(0,2)]⟩:=by kernel_rfl
@[simp] theorem M9 : ae Tryz.prog 292=some ⟨2,(some (.agg #[.slice none 0 0,.slice none 0 0])),.struct [(0,2)]⟩:=by kernel_rfl
@[simp] theorem Na : ae Tryz.prog 293=some ⟨2,(some (.agg #[.slice none 0 0,.slice none 0 0])),.struct [(0,2)]⟩:=by kernel_rfl
@[simp] theorem Nb : ae Tryz.prog 294=some ⟨8,(some (.agg #[.slice none 0 0,.slice none 0 0,.slice none 0 0,.slice none 0 0,.int .i64 0,.int .i64 0,.int .i64 0,.int .i64 0])),.struct [(0,2),(2,2),(4,3),(7,1)]⟩:=by kernel_rfl
@[simp] theorem Nc : ae Tryz.prog 295=some ⟨8,(some (.agg #[.slice none 0 0,.slice none 0 0,.slice none 0 0,.slice none 0 0,.int .i64 0,.int .i64 0,.int .i64 0,.int .i64 0])),.struct [(0,2),(2,2),(4,3),(7,1)]⟩:=by kernel_rfl
@[simp] theorem Nd : ae Tryz.prog 298=some ⟨1,(some (.nilIface)),.one⟩:=by kernel_rfl
@[simp] theorem Nf : ae Tryz.prog 302=some ⟨2,(some (.agg #[.slice none 0 0,.int .i64 0])),.struct [(0,1),(1,1)]⟩:=by kernel_rfl
@[simp] theorem Ng : ae Tryz.prog 303=some ⟨2,(some (.agg #[.slice none 0 0,.int .i64 0])),.struct [(0,1),(1,1)]⟩:=by kernel_rfl
@[simp] theorem Nh : ae Tryz.prog 304=some ⟨4,(some (.agg #[.slice none 0 0,.int .i64 0,.slice none 0 0,.int .i64 0])),.struct [(0,2),(2,2)]⟩:=by kernel_rfl
@[simp] theorem Ni : ae Tryz.prog 305=some ⟨4,(some (.agg #[.slice none 0 0,.int .i64 0,.slice none 0 0,.int .i64 0])),.struct [(0,2),(2,2)]⟩:=by kernel_rfl
@[simp] theorem Nj : ae Tryz.prog 313=some ⟨8,(some (.agg #[.int .i64 0,.slice none 0 0,.int .i64 0,.int .i64 0,.slice none 0 0,.int .i64 0,.slice none 0 0,.slice none 0 0])),.struct [(0,1),(1,1),(2,3),(5,3)]⟩:=by kernel_rfl
@[simp] theorem Nk : ae Tryz.prog 314=some ⟨8,(some (.agg #[.int .i64 0,.slice none 0 0,.int .i64 0,.int .i64 0,.slice none 0 0,.int .i64 0,.slice none 0 0,.slice none 0 0])),.struct [(0,1),(1,1),(2,3),(5,3)]⟩:=by kernel_rfl
@[simp] theorem Nl : ae Tryz.prog 320=some ⟨1,(some (.int .u64 0)),.one⟩:=by kernel_rfl
@[simp] theorem Nm : cE Tryz.prog 320=some .u64:=by kernel_rfl
@[simp] theorem Nn : ae Tryz.prog 323=some ⟨1,(some (.pointer none)),.one⟩:=by kernel_rfl
@[simp] theorem Np : ae Tryz.prog 326=some ⟨1,(some (.slice none 0 0)),.slice 22 1 24 (some (.slice none 0 0))⟩:=by kernel_rfl
@[simp] theorem Nq : ae Tryz.prog 327=some ⟨5,(some (.agg #[.slice none 0 0,.slice none 0 0,.slice none 0 0,.slice none 0 0,.slice none 0 0])),.struct [(0,2),(2,1),(3,1),(4,1)]⟩:=by kernel_rfl
@[simp] theorem Nr : ae Tryz.prog 328=some ⟨5,(some (.agg #[.slice none 0 0,.slice none 0 0,.slice none 0 0,.slice none 0 0,.slice none 0 0])),.struct [(0,2),(2,1),(3,1),(4,1)]⟩:=by kernel_rfl
@[simp] theorem Ns : ae Tryz.prog 331=some ⟨4,(some (.agg #[.pointer none,.slice none 0 0,.slice none 0 0,.nilFunc])),.struct [(0,1),(1,1),(2,1),(3,1)]⟩:=by kernel_rfl
@[simp] theorem Nt : ae Tryz.prog 332=some ⟨4,(some (.agg #[.pointer none,.slice none 0 0,.slice none 0 0,.nilFunc])),.struct [(0,1),(1,1),(2,1),(3,1)]⟩:=by kernel_rfl
@[simp] theorem Nu : ae Tryz.prog 336=some ⟨8,(some (.agg #[.int .i64 0,.int .i64 0,.int .i64 0,.int .i64 0,.int .i64 0,.int .i64 0,.int .i64 0,.int .i64 0])),.array 8 1⟩:=by kernel_rfl
@[simp] theorem Nv : eR Tryz.prog 336=some (some 8):=by kernel_rfl
@[simp] theorem Nw : ae Tryz.prog 337=some ⟨1,(some (.slice none 0 0)),.slice 342 24 192 (some (.agg #[.int .i64 0,.int .i64 0,.int .i64 0,.int .i64 0,.int .i64 0,.int .i64 0,.int .i64 0,.int .i64 0,.int .i64 0,.int .i64 0,.int .i64 0,.int .i64 0,.int .i64 0,.int .i64 0,.int .i64 0,.int .i64 0,.int .i64 0,.int .i64 0,.int .i64 0,.int .i64 0,.int .i64 0,.int .i64 0,.int .i64 0,.int .i64 0]))⟩:=by kernel_rfl
@[simp] theorem Nx : ae Tryz.prog 339=some ⟨18,(some (.agg #[.int .i64 0,.int .i64 0,.int .i64 0,.int .i64 0,.int .i64 0,.int .i64 0,.int .i64 0,.int .i64 0,.int .i64 0,.int .i64 0,.int .i64 0,.int .i64 0,.int .i64 0,.int .i64 0,.int .i64 0,.int .i64 0,.int .i64 0,.int .i64 0])),.array 3 6⟩:=by kernel_rfl
@[simp] theorem Ny : eR Tryz.prog 339=none:=by kernel_rfl
@[simp] theorem Nz : oM Tryz.prog 339=some (3,6):=by kernel_rfl
@[simp] theorem NA : ae Tryz.prog 340=some ⟨18,(some (.agg #[.int .i64 0,.int .i64 0,.int .i64 0,.int .i64 0,.int .i64 0,.int .i64 0,.int .i64 0,.int .i64 0,.int .i64 0,.int .i64 0,.int .i64 0,.int .i64 0,.int .i64 0,.int .i64 0,.int .i64 0,.int .i64 0,.int .i64 0,.int .i64 0])),.array 3 6⟩:=by kernel_rfl
@[simp] theorem NB : eR Tryz.prog 340=none:=by kernel_rfl
@[simp] theorem NC : oM Tryz.prog 340=some (3,6):=by kernel_rfl
@[simp] theorem ND : ae Tryz.prog 341=some ⟨24,(some (.agg #[.int .i64 0,.int .i64 0,.int .i64 0,.int .i64 0,.int .i64 0,.int .i64 0,.int .i64 0,.int .i64 0,.int .i64 0,.int .i64 0,.int .i64 0,.int .i64 0,.int .i64 0,.int .i64 0,.int .i64 0,.int .i64 0,.int .i64 0,.int .i64 0,.int .i64 0,.int .i64 0,.int .i64 0,.int .i64 0,.int .i64 0,.int .i64 0])),.struct [(0,18),(18,6)]⟩:=by kernel_rfl
@[simp] theorem NE : ae Tryz.prog 342=some ⟨24,(some (.agg #[.int .i64 0,.int .i64 0,.int .i64 0,.int .i64 0,.int .i64 0,.int .i64 0,.int .i64 0,.int .i64 0,.int .i64 0,.int .i64 0,.int .i64 0,.int .i64 0,.int .i64 0,.int .i64 0,.int .i64 0,.int .i64 0,.int .i64 0,.int .i64 0,.int .i64 0,.int .i64 0,.int .i64 0,.int .i64 0,.int .i64 0,.int .i64 0])),.struct [(0,18),(18,6)]⟩:=by kernel_rfl
@[simp] theorem NF : ae Tryz.prog 359=some ⟨1,(some (.nilFunc)),.one⟩:=by kernel_rfl
@[simp] theorem NG : ae Tryz.prog 371=some ⟨1,(some (.int .u64 0)),.one⟩:=by kernel_rfl
@[simp] theorem NH : cE Tryz.prog 371=some .u64:=by kernel_rfl
@[simp] theorem NI : ae Tryz.prog 374=some ⟨1,(some (.pointer none)),.one⟩:=by kernel_rfl
@[simp] theorem NJ : ae Tryz.prog 382=some ⟨3,(some (.agg #[.int .i64 0,.int .i64 0,.slice none 0 0])),.struct [(0,1),(1,1),(2,1)]⟩:=by kernel_rfl
@[simp] theorem NK : ae Tryz.prog 383=some ⟨3,(some (.agg #[.int .i64 0,.int .i64 0,.slice none 0 0])),.struct [(0,1),(1,1),(2,1)]⟩:=by kernel_rfl
@[simp] theorem NL : ae Tryz.prog 384=some ⟨1,(some (.slice none 0 0)),.slice 383 3 40 (some (.agg #[.int .i64 0,.int .i64 0,.slice none 0 0]))⟩:=by kernel_rfl
@[simp] theorem NM : ae Tryz.prog 415=some ⟨1,(some (.nilFunc)),.one⟩:=by kernel_rfl
@[simp] theorem NO : ae Tryz.prog 416=some ⟨2,(some (.agg #[.nilFunc,.nilFunc])),.struct [(0,1),(1,1)]⟩:=by kernel_rfl
@[simp] theorem NP : ae Tryz.prog 417=some ⟨2,(some (.agg #[.nilFunc,.nilFunc])),.struct [(0,1),(1,1)]⟩:=by kernel_rfl
@[simp] theorem NQ : ae Tryz.prog 431=some ⟨1,(some (.nilFunc)),.one⟩:=by kernel_rfl
@[simp] theorem NR : ae Tryz.prog 432=some ⟨1,(some (.agg #[.nilFunc])),.struct [(0,1)]⟩:=by kernel_rfl
@[simp] theorem NS : ae Tryz.prog 433=some ⟨1,(some (.agg #[.nilFunc])),.struct [(0,1)]⟩:=by kernel_rfl
@[simp] theorem NT : ae Tryz.prog 439=some ⟨1,(some (.int .i64 0)),.one⟩:=by kernel_rfl
@[simp] theorem NU : cE Tryz.prog 439=some .i64:=by kernel_rfl
@[simp] theorem NV : ae Tryz.prog 442=some ⟨4,(some (.agg #[.int .i64 0,.int .i64 0,.int .i64 0,.int .i64 0])),.array 4 1⟩:=by kernel_rfl
@[simp] theorem NW : eR Tryz.prog 442=some (some 4):=by kernel_rfl
@[simp] theorem NX : ae Tryz.prog 445=some ⟨11,(some (.agg #[.int .i64 0,.int .i64 0,.int .i64 0,.int .i64 0,.int .i64 0,.int .i64 0,.int .i64 0,.int .i64 0,.int .i64 0,.int .i64 0,.int .i64 0])),.array 11 1⟩:=by kernel_rfl
@[simp] theorem NY : eR Tryz.prog 445=some (some 11):=by kernel_rfl
@[simp] theorem NZ : ae Tryz.prog 448=some ⟨11,(some (.agg #[.int .i64 0,.int .i64 0,.int .i64 0,.int .i64 0,.int .i64 0,.int .i64 0,.int .i64 0,.int .i64 0,.int .i64 0,.int .i64 0,.int .i64 0])),.array 11 1⟩:=by kernel_rfl
@[simp] theorem N0 : eR Tryz.prog 448=some (some 11):=by kernel_rfl
@[simp] theorem N1 : ae Tryz.prog 452=some ⟨4,(some (.agg #[.pointer none,.pointer none,.pointer none,.string ByteArray.empty])),.struct [(0,1),(1,1),(2,1),(3,1)]⟩:=by kernel_rfl
@[simp] theorem N2 : ae Tryz.prog 453=some ⟨4,(some (.agg #[.pointer none,.pointer none,.pointer none,.string ByteArray.empty])),.struct [(0,1),(1,1),(2,1),(3,1)]⟩:=by kernel_rfl
@[simp] theorem N3 : ae Tryz.prog 454=some ⟨0,(some (.agg #[])),.array 0 1⟩:=by kernel_rfl
@[simp] theorem N4 : eR Tryz.prog 454=some (some 0):=by kernel_rfl
@[simp] theorem N5 : ae Tryz.prog 455=some ⟨0,(some (.agg #[])),.struct [(0,0)]⟩:=by kernel_rfl
@[simp] theorem N6 : ae Tryz.prog 456=some ⟨0,(some (.agg #[])),.struct [(0,0)]⟩:=by kernel_rfl
@[simp] theorem N7 : ae Tryz.prog 458=some ⟨1,(some (.int .u32 0)),.one⟩:=by kernel_rfl
@[simp] theorem N8 : cE Tryz.prog 458=some .u32:=by kernel_rfl
@[simp] theorem N9 : ae Tryz.prog 459=some ⟨1,(some (.int .u8 0)),.one⟩:=by kernel_rfl
@[simp] theorem Oa : cE Tryz.prog 459=some .u8:=by kernel_rfl
@[simp] theorem Ob : ae Tryz.prog 460=some ⟨1,(some (.int .u8 0)),.one⟩:=by kernel_rfl
@[simp] theorem Oc : cE Tryz.prog 460=some .u8:=by kernel_rfl
@[simp] theorem Od : ae Tryz.prog 461=some ⟨1,(some (.nilFunc)),.one⟩:=by kernel_rfl
@[simp] theorem Oe : ae Tryz.prog 462=some ⟨1,(some (.pointer none)),.one⟩:=by kernel_rfl
@[simp] theorem Of : ae Tryz.prog 463=some ⟨1,(some (.int .i32 0)),.one⟩:=by kernel_rfl
@[simp] theorem Og : cE Tryz.prog 463=some .i32:=by kernel_rfl
@[simp] theorem Oh : ae Tryz.prog 464=some ⟨1,(some (.int .i32 0)),.one⟩:=by kernel_rfl
@[simp] theorem Oi : cE Tryz.prog 464=some .i32:=by kernel_rfl
@[simp] theorem Oj : ae Tryz.prog 465=some ⟨11,(some (.agg #[.int .u64 0,.int .u64 0,.int .u32 0,.int .u8 0,.int .u8 0,.int .u8 0,.int .u8 0,.nilFunc,.pointer none,.int .i32 0,.int .i32 0])),.struct [(0,1),(1,1),(2,1),(3,1),(4,1),(5,1),(6,1),(7,1),(8,1),(9,1),(10,1)]⟩:=by kernel_rfl
@[simp] theorem Ok : ae Tryz.prog 466=some ⟨11,(some (.agg #[.int .u64 0,.int .u64 0,.int .u32 0,.int .u8 0,.int .u8 0,.int .u8 0,.int .u8 0,.nilFunc,.pointer none,.int .i32 0,.int .i32 0])),.struct [(0,1),(1,1),(2,1),(3,1),(4,1),(5,1),(6,1),(7,1),(8,1),(9,1),(10,1)]⟩:=by kernel_rfl
end Go.Ab
namespace Go.Ab
open Go.Proofs
abbrev I (lo hi : Int) : PV:=.val (.agg #[.int .i64 lo,.int .i64 hi])
abbrev aO (x : Int × Int) : PV:=I x.1 x.2
abbrev B (b : Bool) : PV:=.val (.bool b)
abbrev Z (n : Int) : PV:=.val (.int .i64 n)
abbrev wr (n : Int) : Int:=IntKind.i64.wrap n
def am (lo hi : Int) : Bool:=decide (-2147483648≤lo) && decide (lo≤hi) && decide (hi≤2147483648)
theorem KK (a b c d : Int) : ag Tryz.prog (Op.equal 83 (.agg #[.int .i64 a,.int .i64 b]) (.agg #[.int .i64 c,.int .i64 d]))=some (a==c && b==d):=by
 have hf : (Tryz.prog.fieldsOf 83).toList=[(Tryz.prog.fieldsOf 83)[0]!,(Tryz.prog.fieldsOf 83)[1]!]:=by kernel_rfl
 show ag Tryz.prog (Op.equalIn (9999+1) 83 _ _)=_
 rw [u9 9999 83 _ _ (by kernel_rfl) (by kernel_rfl),hf]
 have h:=qY (P:=Tryz.prog) (d:=9999) (xs:=#[.int .i64 a,.int .i64 b]) (ys:=#[.int .i64 c,.int .i64 d]) (f:=(Tryz.prog.fieldsOf 83)[0]!) (fs:=[(Tryz.prog.fieldsOf 83)[1]!]) (a:=.int .i64 a) (b:=.int .i64 c) (by decide +kernel) (by kernel_rfl) (by kernel_rfl) (qa 9998 _ .i64 .i64 a c (by kernel_rfl))
  (qY (by decide +kernel) (a:=.int .i64 b) (b:=.int .i64 d) (by kernel_rfl) (by kernel_rfl) (qa 9998 _ .i64 .i64 b d (by kernel_rfl)) Bf)
 rw [h];simp
def ga (P : Program) (o : Oper) (ρ : Operand→AV) : Option bI:=aR P o ρ
def rd (x : AV) : Option (Int × Int):=match x with
 |.pv (.val (.agg vs))=>match vs.toList with
  |[.int .i64 a,.int .i64 b]=>some (a,b)
  |_=>none
 |_=>none
theorem mb {x : AV} {a b : Int} (h : rd x=some (a,b)) : x=.pv (I a b):=by
 unfold rd at h
 split at h
 ·split at h
  ·rename_i vs _ a' b' hv
   injection h with h;injection h with h1 h2;subst h1;subst h2
   rw [← Array.toArray_toList (xs:=vs),hv]
  ·cases h
 ·cases h
def Cr (x y : AV) (fb : Option bI) : Option bI:=match rd x,rd y with
 |some (a,b),some (c,d)=>some (.pv (.val (.bool !(a==c && b==d))),[])
 |_,_=>fb
@[simp] theorem Hh (a b c d : Int) (fb : Option bI) : Cr (.pv (.val (.agg #[.int .i64 a,.int .i64 b]))) (.pv (.val (.agg #[.int .i64 c,.int .i64 d]))) fb=some (.pv (.val (.bool !(a==c && b==d))),[]):=rfl
@[simp] theorem Ol {dst : Option Nat} {ty : TypeId} {pos : String} {aft : Array Edge} {g : Option (Nat × Bool)} {ρ : Operand→AV} (x y : Operand) :
 aR Tryz.prog ⟨dst,.binOp .neq 83 x y 83,ty,pos,aft,g⟩ ρ=Cr (ρ x) (ρ y) (ga Tryz.prog ⟨dst,.binOp .neq 83 x y 83,ty,pos,aft,g⟩ ρ):=by
 unfold Cr
 split
 ·rename_i a b c d hx hy
  exact tr rfl (mb hx) (mb hy) (by kernel_rfl) (KK a b c d)
 ·rfl
theorem gt (lo hi : Int) : ab Tryz.prog 228 [.pv (I lo hi)] [] [] (.pv (B (am lo hi))):=by
 refine Dp Tryz.func228 ?_
 intro C hP hN
 simp only [Tryz.f228] at hN ⊢
 with_reducible repeat' (first|refine Sp.h ?_|((first|refine Ss.h ?_|(refine Sb.h ?_ ?_ ?_<;>(try intro hgd)<;>try exact Xy))<;>simp -implicitDefEqProofs (maxSteps:=2000000) [hP,hN])|refine X2 ?_ ?_|(refine Xd ?_ ?_<;>intro hcd<;>try exact Xx))
 all_goals (first|(simp_all [am];done)|((try simp_all [am])<;>(try omega)<;>grind))
theorem mL (lo hi : Int) : ab Tryz.prog 259 [.pv (I lo hi)] [] [] (.pv (B (am lo hi))):=by
 refine Dp Tryz.func259 ?_
 intro C hP hN
 simp only [Tryz.f259] at hN ⊢
 with_reducible repeat' (first|refine Sp.h ?_|((first|refine Ss.h ?_|(refine Sb.h ?_ ?_ ?_<;>(try intro hgd)<;>try exact Xy))<;>simp -implicitDefEqProofs (maxSteps:=2000000) [hP,hN])|refine X2 ?_ ?_|(refine Xd ?_ ?_<;>intro hcd<;>try exact Xx))
 all_goals (first|(simp_all [am];done)|((try simp_all [am])<;>(try omega)<;>grind))
theorem wR (a b c d : Int) : ab Tryz.prog 405 [.pv (I a b),.pv (I c d)] [] [] (.pv (B (am a b && am c d))):=by
 refine Dp Tryz.func405 ?_
 intro C hP hN
 simp only [Tryz.f405] at hN ⊢
 with_reducible repeat' (first|refine Sp.h ?_|((first|refine Ss.h ?_|refine Sc.h (gt _ _) ?_|(refine Sb.h ?_ ?_ ?_<;>(try intro hgd)<;>try exact Xy))<;>simp -implicitDefEqProofs (maxSteps:=2000000) [hP,hN])|refine X2 ?_ ?_|(refine Xd ?_ ?_<;>intro hcd<;>try exact Xx))
 all_goals (first|(simp_all;done)|((try simp_all)<;>(try omega)<;>grind))
def lj (n k : Int) : Int:=if n.tmod k < 0 then wr (n.tmod k+k) else n.tmod k
theorem Hi (n k : Int) (hk : k≠0) : ab Tryz.prog 20 [.pv (Z n),.pv (Z k)] [] [] (.pv (Z (lj n k))):=by
 refine Dp Tryz.func20 ?_
 intro C hP hN
 simp only [Tryz.f20] at hN ⊢
 with_reducible repeat' (first|refine Sp.h ?_|((first|refine Ss.h ?_|(refine Sb.h ?_ ?_ ?_<;>(try intro hgd)<;>try exact Xy))<;>simp -implicitDefEqProofs (maxSteps:=2000000) [hP,hN,hk])|refine X2 ?_ ?_|(refine Xd ?_ ?_<;>intro hcd<;>try exact Xx))
 all_goals (first|(simp_all [lj];done)|((try simp_all [lj])<;>(try omega)<;>grind))
@[simp] theorem Kx (a b : Int) : (if b < a then b else a)=min a b:=by split<;>omega
@[simp] theorem Ky (a b : Int) : (if a < b then b else a)=max a b:=by split<;>omega
theorem aa {n : Int} (h1 : -9223372036854775808≤n) (h2 : n < 9223372036854775808) : wr n=n:=by
 rw [wr,IntKind.wrap_i64];omega
theorem GP {k : Int} (hk : k < 64) : min k.toNat 64=k.toNat:=by omega
theorem Fc : IntKind.i64.bits=64:=rfl
theorem HU (a : Int) : ab Tryz.prog 447 [.pv (Z a)] [] [] (.pv (Z (min (max a (-2147483648)) 2147483648))):=by
 refine Dp Tryz.func447 ?_
 intro C hP hN
 simp only [Tryz.f447] at hN ⊢
 with_reducible repeat' (first|refine Sp.h ?_|((first|refine Ss.h ?_|(refine Sb.h ?_ ?_ ?_<;>(try intro hgd)<;>try exact Xy))<;>simp -implicitDefEqProofs (maxSteps:=2000000) [hP,hN])|refine X2 ?_ ?_|(refine Xd ?_ ?_<;>intro hcd<;>try exact Xx))
 all_goals (first|(simp_all;done)|((try simp_all)<;>(try omega)<;>grind))
theorem Fd (a b : Int) : ab Tryz.prog 440 [.pv (Z a),.pv (Z b)] [] [] (.pv (I (min (max a (-2147483648)) 2147483648) (min (max b (-2147483648)) 2147483648))):=by
 refine Dp Tryz.func440 ?_
 intro C hP hN
 simp only [Tryz.f440] at hN ⊢
 with_reducible repeat' (first|refine Sp.h ?_|((first|refine Ss.h ?_|refine Sc.h (HU _) ?_|(refine Sb.h ?_ ?_ ?_<;>(try intro hgd)<;>try exact Xy))<;>simp -implicitDefEqProofs (maxSteps:=2000000) [hP,hN])|refine X2 ?_ ?_|(refine Xd ?_ ?_<;>intro hcd<;>try exact Xx))
 all_goals (first|(simp_all;done)|((try simp_all)<;>(try omega)<;>grind))
theorem HV (a : Int) : ab Tryz.prog 421 [.pv (Z a)] [] [] (.pv (I (min (max a (-2147483648)) 2147483648) (min (max a (-2147483648)) 2147483648))):=by
 refine Dp Tryz.func421 ?_
 intro C hP hN
 simp only [Tryz.f421] at hN ⊢
 with_reducible repeat' (first|refine Sp.h ?_|((first|refine Ss.h ?_|refine Sc.h (Fd _ _) ?_|(refine Sb.h ?_ ?_ ?_<;>(try intro hgd)<;>try exact Xy))<;>simp -implicitDefEqProofs (maxSteps:=2000000) [hP,hN])|refine X2 ?_ ?_|(refine Xd ?_ ?_<;>intro hcd<;>try exact Xx))
 all_goals (first|(simp_all;done)|((try simp_all)<;>(try omega)<;>grind))
theorem HW (a k : Int) (h : 0≤k) (hk : k < 64) : ab Tryz.prog 294 [.pv (Z a),.pv (Z k)] [] [] (.pv (Z (a.fdiv (2 ^ k.toNat)))):=by
 refine Dp Tryz.func294 ?_
 intro C hP hN
 simp only [Tryz.f294] at hN ⊢
 with_reducible repeat' (first|refine Sp.h ?_|((first|refine Ss.h ?_|(refine Sb.h ?_ ?_ ?_<;>(try intro hgd)<;>try exact Xy))<;>simp -implicitDefEqProofs (maxSteps:=2000000) [hP,hN,h,Fc,GP hk])|refine X2 ?_ ?_|(refine Xd ?_ ?_<;>intro hcd<;>try exact Xx))
 all_goals (first|(simp_all;done)|((try simp_all)<;>(try omega)<;>grind))
def br (x y : Int × Int) : Int × Int:=if am x.1 x.2 && am y.1 y.2 then (min x.1 y.1,max x.2 y.2) else (0,0)
theorem Ac (a b c d : Int) : ab Tryz.prog 466 [.pv (I a b),.pv (I c d)] [] [] (.pv (aO (br (a,b) (c,d)))):=by
 refine Dp Tryz.func466 ?_
 intro C hP hN
 simp only [Tryz.f466] at hN ⊢
 with_reducible repeat' (first|refine Sp.h ?_|((first|refine Ss.h ?_|refine Sc.h (wR _ _ _ _) ?_|(refine Sb.h ?_ ?_ ?_<;>(try intro hgd)<;>try exact Xy))<;>simp -implicitDefEqProofs (maxSteps:=2000000) [hP,hN])|refine X2 ?_ ?_|(refine Xd ?_ ?_<;>intro hcd<;>try exact Xx))
 all_goals (first|(simp_all [br];done)|((try simp_all [br])<;>(try omega)<;>grind))
theorem Ad (a b c d : Int) : ab Tryz.prog 452 [.pv (I a b),.pv (I c d)] [] [] (.pv (aO (br (a,b) (c,d)))):=by
 refine Dp Tryz.func452 ?_
 intro C hP hN
 simp only [Tryz.f452] at hN ⊢
 with_reducible repeat' (first|refine Sp.h ?_|((first|refine Ss.h ?_|refine Sc.h (mL _ _) ?_|(refine Sb.h ?_ ?_ ?_<;>(try intro hgd)<;>try exact Xy))<;>simp -implicitDefEqProofs (maxSteps:=2000000) [hP,hN])|refine X2 ?_ ?_|(refine Xd ?_ ?_<;>intro hcd<;>try exact Xx))
 all_goals (first|(simp_all [br];done)|((try simp_all [br])<;>(try omega)<;>grind))
theorem sg (a b : Int) : ab Tryz.prog 193 [.pv (I a b)] [] [] (.pv (Z (if am a b then wr (b - a) else 0))):=by
 refine Dp Tryz.func193 ?_
 intro C hP hN
 simp only [Tryz.f193] at hN ⊢
 with_reducible repeat' (first|refine Sp.h ?_|((first|refine Ss.h ?_|refine Sc.h (gt _ _) ?_|(refine Sb.h ?_ ?_ ?_<;>(try intro hgd)<;>try exact Xy))<;>simp -implicitDefEqProofs (maxSteps:=2000000) [hP,hN])|refine X2 ?_ ?_|(refine Xd ?_ ?_<;>intro hcd<;>try exact Xx))
 all_goals (first|(simp_all;done)|((try simp_all)<;>(try omega)<;>grind))
theorem HX (a b : Int) : ab Tryz.prog 194 [.pv (I a b)] [] [] (.pv (Z (if am a b then (wr (a+b)).fdiv 2 else 0))):=by
 refine Dp Tryz.func194 ?_
 intro C hP hN
 simp only [Tryz.f194] at hN ⊢
 with_reducible repeat' (first|refine Sp.h ?_|((first|refine Ss.h ?_|refine Sc.h (gt _ _) ?_|refine Sc.h (HW _ _ (by decide) (by decide)) ?_|(refine Sb.h ?_ ?_ ?_<;>(try intro hgd)<;>try exact Xy))<;>simp -implicitDefEqProofs (maxSteps:=2000000) [hP,hN])|refine X2 ?_ ?_|(refine Xd ?_ ?_<;>intro hcd<;>try exact Xx))
 all_goals (first|(simp_all;done)|((try simp_all)<;>(try omega)<;>grind))
theorem Fe (a b x : Int) : ab Tryz.prog 296 [.pv (I a b),.pv (Z x)] [] [] (.pv (B (am a b && decide (a≤x) && decide (x≤b)))):=by
 refine Dp Tryz.func296 ?_
 intro C hP hN
 simp only [Tryz.f296] at hN ⊢
 with_reducible repeat' (first|refine Sp.h ?_|((first|refine Ss.h ?_|refine Sc.h (gt _ _) ?_|(refine Sb.h ?_ ?_ ?_<;>(try intro hgd)<;>try exact Xy))<;>simp -implicitDefEqProofs (maxSteps:=2000000) [hP,hN])|refine X2 ?_ ?_|(refine Xd ?_ ?_<;>intro hcd<;>try exact Xx))
 all_goals (first|(simp_all;done)|((try simp_all)<;>(try omega)<;>grind))
end Go.Ab
namespace Go.Ab
open Go.Proofs
abbrev zs (xs : List Int) : PV:=.sl (xs.map Z)
abbrev iv (xs : List (Int × Int)) : PV:=.sl (xs.map aO)
abbrev Fv (f : FuncId) : PV:=.val (.func (.func f) #[] #[])
theorem Bi {n : Nat} (h : n≤16777216) : n≤9223372036854775807:=by omega
theorem aw {i n : Nat} (h : i < n) (hn : n≤9223372036854775807) : IntKind.i64.wrap ((i : Int)+1)=(i : Int)+1:=by rw [IntKind.wrap_i64];omega
def kx {α : Type} (p : α→Bool) (xs : List α) : Int:=match xs.findIdx? p with
 |some i=>i
 |none=>-1
theorem mc {α : Type} {p : α→Bool} {xs : List α} {i : Nat} (hlt : i < xs.length) (hq : ∀ j x,j < i→xs[j]?=some x→p x=false) (hp : p xs[i]=true) : kx p xs=i:=by
 have : xs.findIdx? p=some i:=by
  rw [List.findIdx?_eq_some_iff_getElem]
  refine ⟨hlt,hp,fun j hj=>?_⟩
  have hjl : j < xs.length:=by omega
  rw [hq j xs[j] hj (List.getElem?_eq_getElem hjl)];simp
 simp [kx,this]
theorem qd {α : Type} {p : α→Bool} {xs : List α} (hq : ∀ (j : Nat) x,xs[j]?=some x→p x=false) : kx p xs=-1:=by
 have : xs.findIdx? p=none:=by
  rw [List.findIdx?_eq_none_iff]
  intro x hx
  obtain ⟨j,hj,rfl⟩:=List.mem_iff_getElem.1 hx
  exact hq j _ (List.getElem?_eq_getElem hj)
 simp [kx,this]
theorem oU {α : Type} (p : α→Bool) (xs : List α) : decide (0≤kx p xs)=xs.any p:=by
 unfold kx
 cases h : xs.findIdx? p with
 |none=>
  rw [List.findIdx?_eq_none_iff] at h
  have : xs.any p=false:=by
   rw [List.any_eq_false];intro x hx;rw [h x hx];simp
  simp [this]
 |some i=>
  rw [List.findIdx?_eq_some_iff_getElem] at h
  obtain ⟨hl,hp,_⟩:=h
  have : xs.any p=true:=List.any_eq_true.2 ⟨xs[i],List.getElem_mem hl,hp⟩
  simp [this]
theorem lk {α : Type} {p : α→Bool} {xs : List α} {i : Nat} (hlt : i < xs.length) (hq : ∀ j x,j < i→xs[j]?=some x→p x=false) (hp : p xs[i]=false) : ∀ j x,j < i+1→xs[j]?=some x→p x=false:=by
 intro j x hj hx
 by_cases e : j=i
 ·subst e;rw [List.getElem?_eq_getElem hlt] at hx;injection hx with hx;subst hx;exact hp
 ·exact hq j x (by omega) hx
theorem sh {α : Type} {p : α→Bool} {xs : List α} {i : Nat} (hlt : ¬ i < xs.length) (hq : ∀ j x,j < i→xs[j]?=some x→p x=false) : ∀ (j : Nat) x,xs[j]?=some x→p x=false:=by
 intro j x hx
 have:=(List.getElem?_eq_some_iff.1 hx).1
 exact hq j x (by omega) hx
theorem HY (f : FuncId) (p : Int × Int→Bool) (xs : List (Int × Int)) (hl : xs.length≤9223372036854775807) (hf : ∀ x,ab Tryz.prog f [.pv (aO x)] [] [] (.pv (B (p x)))) : ab Tryz.prog 372 [.pv (iv xs),.pv (Fv f)] [] [] (.pv (Z (kx p xs))):=by
 refine Dp Tryz.func372 ?_
 intro C hP hN
 simp only [Tryz.f372] at hN ⊢
 with_reducible repeat' (first|refine Sp.h ?_|((first|refine Ss.h ?_|(refine Sb.h ?_ ?_ ?_<;>(try intro hgd)<;>try exact Xy))<;>simp -implicitDefEqProofs (maxSteps:=2000000) [hP,hN])|refine X2 ?_ ?_|(refine Xd ?_ ?_<;>intro hcd<;>try exact Xx))
 refine WP.loopN [] xs.length (fun i st=>st.t 0=.pv (iv xs)∧st.t 1=.pv (Fv f)∧st.t 7=.pv (Z xs.length)∧st.t 8=.pv (Z i)∧∀ j x,j < i→xs[j]?=some x→p x=false) (by simp) ?_
 rintro i st hi ⟨h0,h1,h7,h8,hq⟩
 by_cases hlt : i < xs.length
 ·have hw:=aw hlt hl
  with_reducible repeat' (first|refine Sp.h ?_|((first|refine Ss.h ?_|refine Sc.h (hf _) ?_|(refine Sb.h ?_ ?_ ?_<;>(try intro hgd)<;>try exact Xy))<;>simp -implicitDefEqProofs (maxSteps:=2000000) [hP,hN,h0,h1,h7,h8,hlt,hw])|refine X2 ?_ ?_|(refine Xd ?_ ?_<;>intro hcd<;>try exact Xx))
  ·exact (mc hlt hq hcd).symm
  ·simpa using lk hlt hq hcd
 ·skip
  with_reducible repeat' (first|refine Sp.h ?_|((first|refine Ss.h ?_|(refine Sb.h ?_ ?_ ?_<;>(try intro hgd)<;>try exact Xy))<;>simp -implicitDefEqProofs (maxSteps:=2000000) [hP,hN,h0,h1,h7,h8,hlt])|refine X2 ?_ ?_|(refine Xd ?_ ?_<;>intro hcd<;>try exact Xx))
  exact (qd (sh hlt hq)).symm
theorem Ff (f : FuncId) (p : Int × Int→Bool) (xs : List (Int × Int)) (hl : xs.length≤9223372036854775807) (hf : ∀ x,ab Tryz.prog f [.pv (aO x)] [] [] (.pv (B (p x)))) : ab Tryz.prog 292 [.pv (iv xs),.pv (Fv f)] [] [] (.pv (B (xs.any p))):=by
 refine Dp Tryz.func292 ?_
 intro C hP hN
 simp only [Tryz.f292] at hN ⊢
 with_reducible repeat' (first|refine Sp.h ?_|((first|refine Ss.h ?_|refine Sc.h (HY _ _ _ hl hf) ?_|(refine Sb.h ?_ ?_ ?_<;>(try intro hgd)<;>try exact Xy))<;>simp -implicitDefEqProofs (maxSteps:=2000000) [hP,hN])|refine X2 ?_ ?_|(refine Xd ?_ ?_<;>intro hcd<;>try exact Xx))
 all_goals (first|(simp_all [oU];done)|((try simp_all [oU])<;>(try omega)<;>grind))
def de {α : Type} (p : α→Bool) (xs : List α) : Bool:=xs.all p
theorem za {α : Type} (p : α→Bool) (xs : List α) : (xs.any fun x=>!p x)=!de p xs:=by simp [de,List.any_eq_not_all_not]
abbrev vI (x : Int × Int) : Bool:=am x.1 x.2
theorem HZ (x : Int × Int) : ab Tryz.prog 293 [.pv (aO x)] [] [] (.pv (B (!am x.1 x.2))):=by
 refine Dp Tryz.func293 ?_
 intro C hP hN
 simp only [Tryz.f293] at hN ⊢
 with_reducible repeat' (first|refine Sp.h ?_|((first|refine Ss.h ?_|refine Sc.h (gt _ _) ?_|(refine Sb.h ?_ ?_ ?_<;>(try intro hgd)<;>try exact Xy))<;>simp -implicitDefEqProofs (maxSteps:=2000000) [hP,hN])|refine X2 ?_ ?_|(refine Xd ?_ ?_<;>intro hcd<;>try exact Xx))
 all_goals (first|(simp_all;done)|((try simp_all)<;>(try omega)<;>grind))
theorem wU (xs : List (Int × Int)) (hl : xs.length≤9223372036854775807) : ab Tryz.prog 192 [.pv (iv xs)] [] [] (.pv (B (de vI xs))):=by
 refine Dp Tryz.func192 ?_
 intro C hP hN
 simp only [Tryz.f192] at hN ⊢
 with_reducible repeat' (first|refine Sp.h ?_|((first|refine Ss.h ?_|refine Sc.h (Ff _ _ _ hl HZ) ?_|(refine Sb.h ?_ ?_ ?_<;>(try intro hgd)<;>try exact Xy))<;>simp -implicitDefEqProofs (maxSteps:=2000000) [hP,hN,za vI xs])|refine X2 ?_ ?_|(refine Xd ?_ ?_<;>intro hcd<;>try exact Xx))
 all_goals (first|(simp_all;done)|((try simp_all)<;>(try omega)<;>grind))
def Bj (x : Int) : Bool:=decide (-2147483648≤x) && decide (x≤2147483648)
end Go.Ab
namespace Go.Ab
open Go.Proofs
end Go.Ab
namespace Go.Ab
open Go.Proofs
theorem qe {α : Type} {p : α→Bool} {xs : List α} {i : Nat} (hlt : i < xs.length) (hp : p xs[i]=false) : de p xs=false:=by
 rw [de,List.all_eq_false];exact ⟨xs[i],List.getElem_mem hlt,by simp [hp]⟩
theorem si {α : Type} {p : α→Bool} {xs : List α} {i : Nat} (hlt : i < xs.length) (h : de p (xs.take i)=true) (hp : p xs[i]=true) : de p (xs.take (i+1))=true:=by
 unfold de at *;rw [List.take_succ_eq_append_getElem hlt,List.all_append,h];simp [hp]
theorem sj {α : Type} {p : α→Bool} {xs : List α} {i : Nat} (hlt : ¬ i < xs.length) (h : de p (xs.take i)=true) : de p xs=true:=by
 rwa [List.take_of_length_le (by omega)] at h
def lH {α β : Type} (f : α→β→Bool) (xs : List α) (ys : List β) : Bool:=(List.zipWith f xs ys).all id
def me {α β : Type} (f : α→β→Bool) (xs : List α) (ys : List β) (i : Nat) : Bool:=((List.zipWith f xs ys).take i).all id
theorem tw {α β : Type} {f : α→β→Bool} {xs : List α} {ys : List β} {i : Nat} (hlt : i < xs.length) (hlt' : i < ys.length) (hp : f xs[i] ys[i]=false) : lH f xs ys=false:=
 qe (p:=id) (xs:=List.zipWith f xs ys) (i:=i) (by simp;omega) (by simpa using hp)
theorem vd {α β : Type} {f : α→β→Bool} {xs : List α} {ys : List β} {i : Nat} (hlt : i < xs.length) (hlt' : i < ys.length) (h : me f xs ys i=true) (hp : f xs[i] ys[i]=true) : me f xs ys (i+1)=true:=
 si (p:=id) (xs:=List.zipWith f xs ys) (i:=i) (by simp;omega) h (by simpa using hp)
theorem ve {α β : Type} {f : α→β→Bool} {xs : List α} {ys : List β} {i : Nat} (hlt : ¬ i < xs.length) (h : me f xs ys i=true) : lH f xs ys=true:=
 sj (p:=id) (xs:=List.zipWith f xs ys) (i:=i) (by simp;omega) h
theorem H7 (xs : List (Int × Int)) (hl : xs.length≤9223372036854775807) : ab Tryz.prog 214 [.pv (iv xs)] [] [] (.pv (B (de vI xs))):=by
 refine Dp Tryz.func214 ?_
 intro C hP hN
 simp only [Tryz.f214] at hN ⊢
 with_reducible repeat' (first|refine Sp.h ?_|((first|refine Ss.h ?_|(refine Sb.h ?_ ?_ ?_<;>(try intro hgd)<;>try exact Xy))<;>simp -implicitDefEqProofs (maxSteps:=2000000) [hP,hN])|refine X2 ?_ ?_|(refine Xd ?_ ?_<;>intro hcd<;>try exact Xx))
 refine WP.loopN [] xs.length (fun i st=>st.t 0=.pv (iv xs)∧st.t 3=.pv (Z i)∧de vI (xs.take i)=true) (by simp [de]) ?_
 rintro i st hi ⟨h0,h1,hq⟩
 by_cases hlt : i < xs.length
 ·have hw:=aw hlt hl
  have hF : vI xs[i]=false→de vI xs=false:=qe hlt
  have hS : vI xs[i]=true→de vI (xs.take (i+1))=true:=si hlt hq
  with_reducible repeat' (first|refine Sp.h ?_|((first|refine Ss.h ?_|refine Sc.h (mL _ _) ?_|(refine Sb.h ?_ ?_ ?_<;>(try intro hgd)<;>try exact Xy))<;>simp -implicitDefEqProofs (maxSteps:=2000000) [hP,hN,h0,h1,hlt,hw])|refine X2 ?_ ?_|(refine Xd ?_ ?_<;>intro hcd<;>try exact Xx))
  all_goals first|(rw [hF];simp_all [Bj];try omega)|(rw [hS];simp_all [Bj];try omega)
 ·skip
  with_reducible repeat' (first|refine Sp.h ?_|((first|refine Ss.h ?_|(refine Sb.h ?_ ?_ ?_<;>(try intro hgd)<;>try exact Xy))<;>simp -implicitDefEqProofs (maxSteps:=2000000) [hP,hN,h0,h1,hlt])|refine X2 ?_ ?_|(refine Xd ?_ ?_<;>intro hcd<;>try exact Xx))
  simp [sj hlt hq]
def wV (x : Int × Int) (c : Int) : Bool:=am x.1 x.2 && decide (x.1≤c) && decide (c≤x.2)
def rQ {α : Type} [DecidableEq α] (x y : α) : Bool:=decide (x=y)
theorem Ek {α : Type} [DecidableEq α] {xs ys : List α} (he : xs.length=ys.length) : lH rQ xs ys=decide (xs=ys):=by
 unfold lH
 induction xs generalizing ys with
 |nil=>cases ys<;>simp at he ⊢
 |cons x xs ih=>cases ys with
  |nil=>simp at he
  |cons y ys=>simp only [List.zipWith_cons_cons,List.all_cons,ih (by simpa using he)];simp [rQ,Bool.decide_and]
def rf {α : Type} [DecidableEq α] (xs ys : List α) : Bool:=decide (xs.length=ys.length) && lH rQ xs ys
end Go.Ab
namespace Go.Ab
open Go.Proofs
end Go.Ab
namespace Go.Ab
open Go.Proofs
def mM (x : Int × Int) : Int:=if am x.1 x.2 then wr (x.2 - x.1) else 0
def lI (x : Int × Int) : Int:=if am x.1 x.2 then (wr (x.1+x.2)).fdiv 2 else 0
def bB (xs : List (Int × Int)) (j : Int) : Bool:=decide (0≤j) && de vI xs && (match xs[j.toNat]? with|some x=>decide (2≤mM x)|none=>false)
def bu (xs : List (Int × Int)) (j : Int) : List (Int × Int):=if bB xs j then (match xs[j.toNat]? with|some x=>xs.set j.toNat (x.1,lI x)|none=>[]) else []
def bF (xs : List (Int × Int)) (j : Int) : List (Int × Int):=if bB xs j then (match xs[j.toNat]? with|some x=>xs.set j.toNat (lI x,x.2)|none=>[]) else []
theorem Hj (xs : List (Int × Int)) (j : Int) (hl : xs.length≤16777216) : ab Tryz.prog 85 [.pv (iv xs),.pv (Z j)] [] [] (.pv (.tup [iv (bu xs j),iv (bF xs j),B (bB xs j)])):=by
 refine Dp Tryz.func85 ?_
 intro C hP hN
 simp only [Tryz.f85] at hN ⊢
 by_cases hj : 0≤j
 ·obtain ⟨n,rfl⟩:=Int.eq_ofNat_of_zero_le hj
  by_cases hlt : n < xs.length
  ·cases hv : de vI xs with
   |false=>
    with_reducible repeat' (first|refine Sp.h ?_|((first|refine Wd ?_|refine Ss.h ?_|refine Sc.h (wU _ (Bi hl)) ?_|(refine Sb.h ?_ ?_ ?_<;>(try intro hgd)<;>try exact Xy))<;>simp -implicitDefEqProofs (maxSteps:=2000000) [hP,hN,hlt,hv]<;>try refine Ya ?_)|refine X2 ?_ ?_|(refine Xd ?_ ?_<;>intro hcd<;>try exact Xx))
    all_goals simp [bu,bF,bB,hv]
   |true=>
    have hx:=List.getElem?_eq_getElem hlt
    generalize hxx : xs[n]=x at hx
    by_cases hwd : mM x < 2
    ·have hwd':=hwd
     simp only [mM] at hwd'
     with_reducible repeat' (first|refine Sp.h ?_|((first|refine Wd ?_|refine Ss.h ?_|refine Sc.h (wU _ (Bi hl)) ?_|refine Sc.h (sg _ _) ?_|(refine Sb.h ?_ ?_ ?_<;>(try intro hgd)<;>try exact Xy))<;>simp -implicitDefEqProofs (maxSteps:=2000000) [hP,hN,hlt,hv,hx,hxx,hwd']<;>try refine Ya ?_)|refine X2 ?_ ?_|(refine Xd ?_ ?_<;>intro hcd<;>try exact Xx))
     all_goals simp [bu,bF,bB,hv,hx,Int.not_le.2 hwd]
    ·have hwd':=hwd
     simp only [mM] at hwd'
     with_reducible repeat' (first|refine Sp.h ?_|((first|refine Wd ?_|refine Ss.h ?_|refine Sc.h (wU _ (Bi hl)) ?_|refine Sc.h (sg _ _) ?_|refine Sc.h (HX _ _) ?_|(refine Sb.h ?_ ?_ ?_<;>(try intro hgd)<;>try exact Xy))<;>simp -implicitDefEqProofs (maxSteps:=2000000) [hP,hN,hlt,hv,hx,hxx,hwd',show (16 : Int) * xs.length≤281474976710656 by omega,show (xs.length : Int)≤9223372036854775807 by omega]<;>try refine Ya ?_)|refine X2 ?_ ?_|(refine Xd ?_ ?_<;>intro hcd<;>try exact Xx))
     have hok : bB xs (n : Int)=true:=by simp [bB,hv,hx,Int.not_lt.1 hwd]
     have ht : List.take xs.length (List.map aO xs)=List.map aO xs:=List.take_of_length_le (by simp)
     simp [bu,bF,hok,hx,ht,List.map_set,lI]
  ·skip
   with_reducible repeat' (first|refine Sp.h ?_|((first|refine Wd ?_|refine Ss.h ?_|refine Sc.h (wU _ (Bi hl)) ?_|(refine Sb.h ?_ ?_ ?_<;>(try intro hgd)<;>try exact Xy))<;>simp -implicitDefEqProofs (maxSteps:=2000000) [hP,hN,hlt]<;>try refine Ya ?_)|refine X2 ?_ ?_|(refine Xd ?_ ?_<;>intro hcd<;>try exact Xx))
   all_goals (have hx : xs[n]?=none:=List.getElem?_eq_none (by omega));simp [bu,bF,bB,hx]
 ·skip
  with_reducible repeat' (first|refine Sp.h ?_|((first|refine Wd ?_|refine Ss.h ?_|refine Sc.h (wU _ (Bi hl)) ?_|(refine Sb.h ?_ ?_ ?_<;>(try intro hgd)<;>try exact Xy))<;>simp -implicitDefEqProofs (maxSteps:=2000000) [hP,hN,hj,show j < 0 by omega]<;>try refine Ya ?_)|refine X2 ?_ ?_|(refine Xd ?_ ?_<;>intro hcd<;>try exact Xx))
  all_goals simp [bu,bF,bB,hj]
end Go.Ab
namespace Go.Ab
open Go.Proofs
def nx (l : List Int) (n : Nat) (k : Int) : Int:=match l[n]? with
 |some x=>lj x k
 |none=>0
def nn (l : List Int) (n : Nat) : Nat:=if n < l.length then n+1 else n
abbrev gX (l : List Int) (n : Nat) : List PV:=[zs l,Z n]
theorem Hk (l : List Int) : ab Tryz.prog 65 [.pv (zs l)] [] [] (.box (gX l 0)):=by
 refine Dp Tryz.func65 ?_
 intro C hP hN
 simp only [Tryz.f65] at hN ⊢
 with_reducible repeat' (first|refine Sp.h ?_|((first|refine Ss.h ?_|(refine Sb.h ?_ ?_ ?_<;>(try intro hgd)<;>try exact Xy))<;>simp -implicitDefEqProofs (maxSteps:=2000000) [hP,hN])|refine X2 ?_ ?_|(refine Xd ?_ ?_<;>intro hcd<;>try exact Xx))
 all_goals (first|(simp_all;done)|((try simp_all)<;>(try omega)<;>grind))
theorem aU (l : List Int) (n : Nat) : nn l n≤n+1:=by unfold nn;split<;>omega
theorem dK (l : List Int) (n : Nat) (k : Int) (hk : k≠0) (hn : n < 1000000) : ab Tryz.prog 67 [.bx 0,.pv (Z k)] [gX l n] [gX l (nn l n)] (.pv (Z (nx l n k))):=by
 have hw : IntKind.i64.wrap ((n : Int)+1)=(n : Int)+1:=by rw [IntKind.wrap_i64];omega
 have hw' : IntKind.i64.wrap (n : Int)=n:=by rw [IntKind.wrap_i64];omega
 refine mr Tryz.func67 rfl (by kernel_rfl) (by simp [Tryz.f67]) rfl (by intro i j h;rcases i with _|_|_|i<;>simp_all) ?_
 intro C hP hN
 simp only [Tryz.f67] at hN ⊢
 by_cases hlt : n < l.length
 ·skip
  with_reducible repeat' (first|refine Sp.h ?_|((first|refine Wd ?_|refine Ss.h ?_|refine Sc.h (Hi _ _ hk) ?_|(refine Sb.h ?_ ?_ ?_<;>(try intro hgd)<;>try exact Xy))<;>simp -implicitDefEqProofs (maxSteps:=2000000) [hP,hN,gX,hlt,hw,hw',Nat.not_le.2 hlt]<;>try refine Ya ?_)|refine X2 ?_ ?_|(refine Xd ?_ ?_<;>intro hcd<;>try exact Xx))
  simp [nn,nx,hlt]
 ·skip
  with_reducible repeat' (first|refine Sp.h ?_|((first|refine Wd ?_|refine Ss.h ?_|(refine Sb.h ?_ ?_ ?_<;>(try intro hgd)<;>try exact Xy))<;>simp -implicitDefEqProofs (maxSteps:=2000000) [hP,hN,gX,hlt,Nat.not_lt.1 hlt]<;>try refine Ya ?_)|refine X2 ?_ ?_|(refine Xd ?_ ?_<;>intro hcd<;>try exact Xx))
  simp [nn,nx,hlt]
theorem rR (l : List Int) (n : Nat) (k : Int) (h0 : 0 < k) (hk : k < 1000000) (hn : n < 1000000) : ab Tryz.prog 69 [.bx 0,.pv (Z k)] [gX l n] [gX l (nn l n)] (.pv (Z (wr (nx l n (2 * k+1) - k)))):=by
 have hw : IntKind.i64.wrap (2 * k)=2 * k:=by rw [IntKind.wrap_i64];omega
 have hw' : IntKind.i64.wrap (2 * k+1)=2 * k+1:=by rw [IntKind.wrap_i64];omega
 refine mr Tryz.func69 rfl (by kernel_rfl) (by simp [Tryz.f69]) rfl (by intro i j h;rcases i with _|_|_|i<;>simp_all) ?_
 intro C hP hN
 simp only [Tryz.f69] at hN ⊢
 with_reducible repeat' (first|refine Sp.h ?_|((first|refine Ss.h ?_|refine Sc.h (dK l n (2 * k+1) (by omega) hn) ?_|(refine Sb.h ?_ ?_ ?_<;>(try intro hgd)<;>try exact Xy))<;>simp -implicitDefEqProofs (maxSteps:=2000000) [hP,hN,gX,hw,hw'])|refine X2 ?_ ?_|(refine Xd ?_ ?_<;>intro hcd<;>try exact Xx))
theorem bt (l : List Int) (n : Nat) {k : Int} (hk : 0 < k) (hk' : k < 4611686018427387904) : 0≤nx l n k∧nx l n k < k:=by
 unfold nx
 split
 ·rename_i x _
  have h1 : -k < x.tmod k:=by have:=Int.lt_tmod_of_pos x hk;omega
  have h2 : x.tmod k < k:=Int.tmod_lt_of_pos x hk
  unfold lj
  split
  ·rw [aa (by omega) (by omega)];omega
  ·omega
 ·omega
def Bk (a : Int) : Int:=if a=2 then 1 else if a=3 then 2 else if a=4 then 4 else if a=5 then 5 else if a=7 then 0 else 3
theorem El {c : Int} (h0 : 0≤c) (h8 : c < 8) : ∀ h,([.int .i64 3,.int .i64 3,.int .i64 1,.int .i64 2,.int .i64 4,.int .i64 5,.int .i64 3,.int .i64 0] : List Value)[c.toNat]'h=.int .i64 (Bk c):=by
 have : c=0∨c=1∨c=2∨c=3∨c=4∨c=5∨c=6∨c=7:=by omega
 rcases this with rfl|rfl|rfl|rfl|rfl|rfl|rfl|rfl<;>(intro h;rfl)
def un (i : Nat) : ByteArray:=⟨#[UInt8.ofNat (97+i)]⟩
abbrev tx : Value:=.string ⟨#[97,98,99,100,101,102,103,104,105,106]⟩
def tz (i : Nat) : Operand→AV:=fun x=>match x with
 |.tmp 3=>.pv (Z i)
 |.tmp 5=>.pv (Z ((i : Int)+1))
 |_=>.pv (.val tx)
section
variable {dst : Option Nat} {ty : TypeId} {pos : String} {aft : Array Edge} {g : Option (Nat × Bool)} {ρ : Operand→AV}
theorem Em : aR Tryz.prog ⟨dst,.slice 9 (.const tx) (some (.tmp 3)) (some (.tmp 5)) none,ty,pos,aft,g⟩ (tz 0)=some (.pv (.val (.string (un 0))),[]):=by kernel_rfl
theorem En : aR Tryz.prog ⟨dst,.slice 9 (.const tx) (some (.tmp 3)) (some (.tmp 5)) none,ty,pos,aft,g⟩ (tz 1)=some (.pv (.val (.string (un 1))),[]):=by kernel_rfl
theorem Eo : aR Tryz.prog ⟨dst,.slice 9 (.const tx) (some (.tmp 3)) (some (.tmp 5)) none,ty,pos,aft,g⟩ (tz 2)=some (.pv (.val (.string (un 2))),[]):=by kernel_rfl
theorem GQ (i : Nat) (h3 : i < 3) (hc : ρ (.const tx)=.pv (.val tx)) (hx : ρ (.tmp 3)=.pv (Z i)) (hy : ρ (.tmp 5)=.pv (Z ((i : Int)+1))) :
 aR Tryz.prog ⟨dst,.slice 9 (.const tx) (some (.tmp 3)) (some (.tmp 5)) none,ty,pos,aft,g⟩ ρ=some (.pv (.val (.string (un i))),[]):=by
 have h : aR Tryz.prog ⟨dst,.slice 9 (.const tx) (some (.tmp 3)) (some (.tmp 5)) none,ty,pos,aft,g⟩ ρ=aR Tryz.prog ⟨dst,.slice 9 (.const tx) (some (.tmp 3)) (some (.tmp 5)) none,ty,pos,aft,g⟩ (tz i):=by
  refine jQ (by intro _ _ h;cases h) ?_
  intro x hx'
  simp [Op.operands] at hx'
  rcases hx' with rfl|rfl|rfl
  ·exact hc
  ·exact hx
  ·exact hy
 rw [h]
 have : i=0∨i=1∨i=2:=by omega
 rcases this with rfl|rfl|rfl
 ·exact Em
 ·exact En
 ·exact Eo
end
theorem H8 (i : Nat) (h3 : i < 3) : ab Tryz.prog 208 [.pv (Z i)] [] [] (.pv (.val (.string (un i)))):=by
 have hw : IntKind.i64.wrap ((i : Int)+1)=(i : Int)+1:=by rw [IntKind.wrap_i64];omega
 refine Dp Tryz.func208 ?_
 intro C hP hN
 simp only [Tryz.f208] at hN ⊢
 with_reducible repeat' (first|refine Sp.h ?_|((first|refine Ss.h ?_|(refine Sb.h ?_ ?_ ?_<;>(try intro hgd)<;>try exact Xy))<;>simp -implicitDefEqProofs (maxSteps:=2000000) [hP,hN,hw])|refine X2 ?_ ?_|(refine Xd ?_ ?_<;>intro hcd<;>try exact Xx))
 rw [GQ i h3 rfl (by simp) (by simp)]
 simp [hP,hN]
 with_reducible repeat' (first|refine Sp.h ?_|((first|refine Ss.h ?_|(refine Sb.h ?_ ?_ ?_<;>(try intro hgd)<;>try exact Xy))<;>simp -implicitDefEqProofs (maxSteps:=2000000) [hP,hN,hw])|refine X2 ?_ ?_|(refine Xd ?_ ?_<;>intro hcd<;>try exact Xx))
end Go.Ab
namespace Go.Ab
open Go.Proofs
structure J where
 name : ByteArray
 kind : Int
 parent : Int
 ox : Int
 oy : Int
 oz : Int
 lo : Int
 hi : Int
 w : Int
 sp : Int
 ac : Int
 tq : Int
abbrev cJ (j : J) : PV:=.val (.agg #[.string j.name,.int .i64 j.kind,.int .i64 j.parent,.int .i64 j.ox,.int .i64 j.oy,.int .i64 j.oz,.int .i64 j.lo,.int .i64 j.hi,.int .i64 j.w,.int .i64 j.sp,.int .i64 j.ac,.int .i64 j.tq])
def zb (l : List Int) (n : Nat) : Nat:=nn l (nn l (nn l (nn l n)))
def i8 (l : List Int) (n i : Nat) : Nat:=if 0 < i then nn l (nn l (zb l n)) else zb l n
def jU (l : List Int) (n : Nat) : Int:=Bk (nx l (nn l (nn l n)) 8)
def Bl (l : List Int) (n i : Nat) : Int:=if jU l n=0 then 0 else if jU l n=4∨jU l n=5 then wr (wr (-nx l (i8 l n i) 3) * 65536) else wr ((wr (wr (-nx l (i8 l n i) 5) * 65536)).tdiv 8)
def Bm (l : List Int) (n i : Nat) : Int:=if jU l n=0 then 0 else if jU l n=4∨jU l n=5 then wr (nx l (nn l (i8 l n i)) 4 * 32768) else wr (wr ((wr (wr (1+nx l (nn l (i8 l n i)) 4) * 65536)).tdiv 8)+nx l (nn l (nn l (i8 l n i))) 3)
def uo (l : List Int) (n i : Nat) : Nat:=if jU l n=0 then i8 l n i else if jU l n=4∨jU l n=5 then nn l (nn l (i8 l n i)) else nn l (nn l (nn l (i8 l n i)))
def ll (l : List Int) (n i : Nat) : J where
 name:=un i
 kind:=jU l n
 parent:=if nx l (nn l (nn l (nn l n))) 4=1 then -1 else wr ((i : Int) - 1)
 ox:=if 0 < i then 131072 else 0
 oy:=if 0 < i then wr (wr (nx l (zb l n) 5 - 2) * 32768) else 0
 oz:=if 0 < i then wr (wr (nx l (nn l (zb l n)) 3 - 1) * 32768) else 0
 lo:=Bl l n i
 hi:=Bm l n i
 w:=wr (1+nx l n 4)
 sp:=65536
 ac:=wr (65536+nx l (nn l n) 3)
 tq:=327680
theorem Fg (l : List Int) (n i : Nat) (h3 : i < 3) (hn : n < 900000) : ab Tryz.prog 169 [.bx 0,.pv (Z i)] [gX l n] [gX l (uo l n i)] (.pv (cJ (ll l n i))):=by
 have hx:=bt l (nn l (nn l n)) (k:=8) (by decide) (by decide)
 have l1:=aU l n
 have l2:=aU l (nn l n)
 have l3:=aU l (nn l (nn l n))
 have l4:=aU l (nn l (nn l (nn l n)))
 have l5:=aU l (nn l (nn l (nn l (nn l n))))
 have l6:=aU l (nn l (nn l (nn l (nn l (nn l n)))))
 have l7:=aU l (nn l (nn l (nn l (nn l (nn l (nn l n))))))
 have l8:=aU l (nn l (nn l (nn l (nn l (nn l (nn l (nn l n)))))))
 have l9:=aU l (nn l (nn l (nn l (nn l (nn l (nn l (nn l (nn l n))))))))
 have hix:=El hx.1 hx.2
 refine mr Tryz.func169 rfl (by kernel_rfl) (by simp [Tryz.f169]) rfl (by intro i j h;rcases i with _|_|_|i<;>simp_all) ?_
 intro C hP hN
 simp only [Tryz.f169] at hN ⊢
 with_reducible repeat' (first|refine Sp.h ?_|((first|refine Ss.h ?_|refine Sc.h (H8 i h3) ?_|refine Sc.h (dK l _ _ (by decide) (by omega)) ?_|refine Sc.h (rR l _ _ (by decide) (by decide) (by omega)) ?_|(refine Sb.h ?_ ?_ ?_<;>(try intro hgd)<;>try exact Xy))<;>simp -implicitDefEqProofs (maxSteps:=2000000) [hP,hN,gX,hix,hx.1,hx.2])|refine X2 ?_ ?_|(refine Xd ?_ ?_<;>intro hcd<;>try exact Xx))
 all_goals (clear hix hP hN l1 l2 l3 l4 l5 l6 l7 l8 l9 hx h3 hn;simp_all [ll,uo,Bl,Bm,jU,i8,zb])
end Go.Ab
namespace Go.Ab
open Go.Proofs
structure Ms where
 link : Int
 mass : Int
 px : Int
 py : Int
 pz : Int
abbrev cT (m : Ms) : PV:=.val (.agg #[.int .i64 m.link,.int .i64 m.mass,.int .i64 m.px,.int .i64 m.py,.int .i64 m.pz])
def nm (l : List Int) (m : Nat) : Nat→Nat
 |0=>m
 |i+1=>uo l (nm l m i) i
theorem Fh (l : List Int) (n i : Nat) : i8 l n i≤n+6:=by
 have l1:=aU l n
 have l2:=aU l (nn l n)
 have l3:=aU l (nn l (nn l n))
 have l4:=aU l (nn l (nn l (nn l n)))
 have l5:=aU l (nn l (nn l (nn l (nn l n))))
 have l6:=aU l (nn l (nn l (nn l (nn l (nn l n)))))
 unfold i8 zb;split<;>omega
theorem Ep (l : List Int) (n i : Nat) : uo l n i≤n+9:=by
 have h:=Fh l n i
 have l1:=aU l (i8 l n i)
 have l2:=aU l (nn l (i8 l n i))
 have l3:=aU l (nn l (nn l (i8 l n i)))
 unfold uo;split
 ·omega
 ·split<;>omega
theorem wW (l : List Int) (m i : Nat) : nm l m i≤m+9 * i:=by
 induction i with
 |zero=>simp [nm]
 |succ i ih=>have:=Ep l (nm l m i) i;simp only [nm];omega
def tA (l : List Int) (m k : Nat) : List J:=(List.range k).map fun i=>ll l (nm l m i) i
theorem Cs (l : List Int) (m k : Nat) : (tA l m (k+1)).map cJ=(tA l m k).map cJ++[cJ (ll l (nm l m k) k)]:=by simp [tA,List.range_succ]
theorem oo (l : List Int) (m k : Nat) : (tA l m k).length=k:=by simp [tA]
def jV (l : List Int) (m : Nat) : Nat→Nat
 |0=>m
 |i+1=>nn l (nn l (nn l (nn l (jV l m i))))
theorem Bn (l : List Int) (m i : Nat) : jV l m i≤m+4 * i:=by
 induction i with
 |zero=>simp [jV]
 |succ i ih=>
  have l1:=aU l (jV l m i)
  have l2:=aU l (nn l (jV l m i))
  have l3:=aU l (nn l (nn l (jV l m i)))
  have l4:=aU l (nn l (nn l (nn l (jV l m i))))
  simp only [jV];omega
def we (l : List Int) (m : Nat) (n : Int) : Ms where
 link:=nx l m n
 mass:=wr (1+nx l (nn l m) 9000)
 px:=wr (wr (nx l (nn l (nn l m)) 7 - 3) * 32768)
 py:=0
 pz:=wr (wr (nx l (nn l (nn l (nn l m))) 5 - 2) * 32768)
def tB (l : List Int) (m : Nat) (n : Int) (k : Nat) : List Ms:=(List.range k).map fun i=>we l (jV l m i) n
theorem Ct (l : List Int) (m : Nat) (n : Int) (k : Nat) : (tB l m n (k+1)).map cT=(tB l m n k).map cT++[cT (we l (jV l m k) n)]:=by simp [tB,List.range_succ]
theorem uq (l : List Int) (m : Nat) (n : Int) (k : Nat) : (tB l m n k).length=k:=by simp [tB]
abbrev fC : AV:=.pv (.val (.slice none 0 0))
def rN (l : List Int) (n : Nat) : Nat:=(1+nx l n 3).toNat
def rM (l : List Int) (n : Nat) : Nat:=nm l (nn l n) (rN l n)
def rK (l : List Int) (n : Nat) : Nat:=(nx l (rM l n) 3).toNat
def jo (l : List Int) (n : Nat) : List J:=tA l (nn l n) (rN l n)
def oq (l : List Int) (n : Nat) : List Ms:=tB l (nn l (rM l n)) (rN l n) (rK l n)
def qf (l : List Int) (n : Nat) : Nat:=jV l (nn l (rM l n)) (rK l n)
theorem KL (l : List Int) (n : Nat) (hn : n < 100000) : ab Tryz.prog 66 [.bx 0] [gX l n] [gX l (qf l n)] (.pv (.agg [.sl ((jo l n).map cJ),.sl ((oq l n).map cT)])):=by
 have hx:=bt l n (k:=3) (by decide) (by decide)
 have hw1 : IntKind.i64.wrap (1+nx l n 3)=((rN l n : Nat) : Int):=by rw [IntKind.wrap_i64,rN];omega
 have hrN : rN l n≤3∧0 < rN l n:=by unfold rN;omega
 have hl1:=aU l n
 refine mr Tryz.func66 rfl (by kernel_rfl) (by simp [Tryz.f66]) rfl (by intro i j h;rcases i with _|_|_|i<;>simp_all) ?_
 intro C hP hN
 simp only [Tryz.f66] at hN ⊢
 with_reducible repeat' (first|refine Sp.h ?_|((first|refine Wd ?_|refine Ss.h ?_|refine Sc.h (dK l n 3 (by decide) (by omega)) ?_|(refine Sb.h ?_ ?_ ?_<;>(try intro hgd)<;>try exact Xy))<;>simp -implicitDefEqProofs (maxSteps:=2000000) [hP,hN,gX,hw1]<;>try refine Ya ?_)|refine X2 ?_ ?_|(refine Xd ?_ ?_<;>intro hcd<;>try exact Xx))
 refine WP.loopN [20] (rN l n) (fun i st=>st.t 0=.ptr (pk 0) 0∧st.t 2=.ptr 2 0∧st.t 3=.ptr 3 0∧st.t 4=.pv (Z (rN l n))∧st.t 5=.pv (Z i)∧
  st.h (pk 0)=some (.box [.pv (zs l),.pv (Z (nm l (nn l n) i))] false false)∧st.h 2=some (.box [fC,fC] true false)∧st.h 20=none∧st.h 45=none∧st.h 46=none∧
  ((i=0∧st.h 3=some (.box [fC,fC] true false)∧st.h 21=none)∨(0 < i∧st.h 3=some (.box [.arr 21 i,fC] true false)∧st.h 21=some (.row 131 12 ((tA l (nn l n) i).map cJ) 0)))) (by simp [nm]) ?_
 rintro i st hi ⟨h0,h2,h3,h4,h5,hp,hb2,hb20,hb45,hb46,hor⟩
 by_cases hlt : i < rN l n
 ·have hw : IntKind.i64.wrap ((i : Int)+1)=(i : Int)+1:=by rw [IntKind.wrap_i64];omega
  have hm:=wW l (nn l n) i
  have hJ:=Cs l (nn l n) i
  have hS : nm l (nn l n) (i+1)=uo l (nm l (nn l n) i) i:=rfl
  rcases hor with ⟨hi0,hb3,hb21⟩|⟨hi0,hb3,hb21⟩
  ·subst hi0
   with_reducible repeat' (first|refine Sp.h ?_|((first|refine Wd ?_|refine Ss.h ?_|refine Sc.h (Fg l _ 0 (by omega) (by omega)) ?_|(refine Sb.h ?_ ?_ ?_<;>(try intro hgd)<;>try exact Xy))<;>simp -implicitDefEqProofs (maxSteps:=2000000) [hP,hN,h0,h2,h3,h4,h5,hp,hb2,hb20,hb45,hb46,hb3,hb21,hlt,hw,hS]<;>try refine Ya ?_)|refine X2 ?_ ?_|(refine Xd ?_ ?_<;>intro hcd<;>try exact Xx))
   exact ⟨by decide,by simp [tA]⟩
  ·have hz:=oo l (nn l n) i
   with_reducible repeat' (first|refine Sp.h ?_|((first|refine Wd ?_|refine Ss.h ?_|refine Sc.h (Fg l _ i (by omega) (by omega)) ?_|(refine Sb.h ?_ ?_ ?_<;>(try intro hgd)<;>try exact Xy))<;>simp -implicitDefEqProofs (maxSteps:=2000000) [hP,hN,h0,h2,h3,h4,h5,hp,hb2,hb20,hb45,hb46,hb3,hb21,hlt,hw,hS,hz,show (i+1) * 104≤140737488355328 by omega,show i≤9223372036854775806 by omega]<;>try refine Ya ?_)|refine X2 ?_ ?_|(refine Xd ?_ ?_<;>intro hcd<;>try exact Xx))
   simp [hJ]
 ·have hir : i=rN l n:=by omega
  rcases hor with ⟨hi0,_⟩|⟨hi0,hb3,hb21⟩
  ·omega
  subst hir
  have hm:=wW l (nn l n) (rN l n)
  have hx3:=bt l (rM l n) (k:=3) (by decide) (by decide)
  have hk : nx l (nm l (nn l n) (rN l n)) 3=((rK l n : Nat) : Int):=by show nx l (rM l n) 3=_;unfold rK;omega
  have hk3 : rK l n < 3:=by unfold rK;omega
  have hz:=oo l (nn l n) (rN l n)
  have hl2:=aU l (rM l n)
  have hmr : rM l n≤nn l n+9 * rN l n:=hm
  with_reducible repeat' (first|refine Sp.h ?_|((first|refine Wd ?_|refine Ss.h ?_|refine Sc.h (dK l _ 3 (by decide) (by omega)) ?_|(refine Sb.h ?_ ?_ ?_<;>(try intro hgd)<;>try exact Xy))<;>simp -implicitDefEqProofs (maxSteps:=2000000) [hP,hN,h0,h2,h3,h4,h5,hp,hb2,hb20,hb45,hb46,hb3,hb21,hlt,hk]<;>try refine Ya ?_)|refine X2 ?_ ?_|(refine Xd ?_ ?_<;>intro hcd<;>try exact Xx))
  refine WP.loopN [] (rK l n) (fun i st=>st.t 0=.ptr (pk 0) 0∧st.t 2=.ptr 2 0∧st.t 3=.ptr 3 0∧st.t 4=.pv (Z (rN l n))∧st.t 6=.pv (Z ((rK l n : Int) - i))∧
   st.h (pk 0)=some (.box [.pv (zs l),.pv (Z (jV l (nn l (rM l n)) i))] false false)∧st.h 2=some (.box [fC,fC] true false)∧st.h 45=none∧st.h 21=some (.row 131 12 ((jo l n).map cJ) 0)∧
   ((i=0∧st.h 3=some (.box [.arr 21 (rN l n),fC] true false)∧st.h 46=none)∨(0 < i∧st.h 3=some (.box [.arr 21 (rN l n),.arr 46 i] true false)∧st.h 46=some (.row 238 5 ((tB l (nn l (rM l n)) (rN l n) i).map cT) 0)))) (by simp [h0,h2,h3,h4,hb2,hb45,hb46,hb3,hb21,jV,rM,jo]) ?_
  clear hb2 hb20 hb45 hb46 hb3 hb21 hp h0 h2 h3 h4 h5
  rintro i st hi ⟨h0,h2,h3,h4,h6,hp,hb2,hb45,hb21,hor⟩
  by_cases hlt : i < rK l n
  ·have hw : IntKind.i64.wrap ((rK l n : Int) - i - 1)=(rK l n : Int) - ((i : Int)+1):=by rw [IntKind.wrap_i64];omega
   have hgt : (0 : Int) < (rK l n : Int) - i:=by omega
   have hm2:=Bn l (nn l (rM l n)) i
   have l1:=aU l (jV l (nn l (rM l n)) i)
   have l2:=aU l (nn l (jV l (nn l (rM l n)) i))
   have l3:=aU l (nn l (nn l (jV l (nn l (rM l n)) i)))
   have hJ:=Ct l (nn l (rM l n)) (rN l n) i
   have hS : jV l (nn l (rM l n)) (i+1)=nn l (nn l (nn l (nn l (jV l (nn l (rM l n)) i)))):=rfl
   have hne : ((rN l n : Nat) : Int)≠0:=by omega
   rcases hor with ⟨hi0,hb3,hb46⟩|⟨hi0,hb3,hb46⟩
   ·subst hi0
    with_reducible repeat' (first|refine Sp.h ?_|((first|refine Wd ?_|refine Ss.h ?_|refine Sc.h (dK l _ _ hne (by omega)) ?_|refine Sc.h (dK l _ _ (by decide) (by omega)) ?_|refine Sc.h (rR l _ _ (by decide) (by decide) (by omega)) ?_|(refine Sb.h ?_ ?_ ?_<;>(try intro hgd)<;>try exact Xy))<;>simp -implicitDefEqProofs (maxSteps:=2000000) [hP,hN,h0,h2,h3,h4,h6,hp,hb2,hb45,hb46,hb3,hb21,hlt,hw,hgt,hS]<;>try refine Ya ?_)|refine X2 ?_ ?_|(refine Xd ?_ ?_<;>intro hcd<;>try exact Xx))
    exact ⟨by rw [IntKind.wrap_i64];omega,by simp [tB,we,jV]⟩
   ·have hz:=uq l (nn l (rM l n)) (rN l n) i
    with_reducible repeat' (first|refine Sp.h ?_|((first|refine Wd ?_|refine Ss.h ?_|refine Sc.h (dK l _ _ hne (by omega)) ?_|refine Sc.h (dK l _ _ (by decide) (by omega)) ?_|refine Sc.h (rR l _ _ (by decide) (by decide) (by omega)) ?_|(refine Sb.h ?_ ?_ ?_<;>(try intro hgd)<;>try exact Xy))<;>simp -implicitDefEqProofs (maxSteps:=2000000) [hP,hN,h0,h2,h3,h4,h6,hp,hb2,hb45,hb46,hb3,hb21,hlt,hw,hgt,hS,hz,show (i+1) * 40≤140737488355328 by omega,show i≤9223372036854775806 by omega]<;>try refine Ya ?_)|refine X2 ?_ ?_|(refine Xd ?_ ?_<;>intro hcd<;>try exact Xx))
    simp [hJ,we]
  ·have hir : i=rK l n:=by omega
   subst hir
   have hzJ : (jo l n).length=rN l n:=oo l (nn l n) (rN l n)
   have hzM:=uq l (nn l (rM l n)) (rN l n) (rK l n)
   rcases hor with ⟨hi0,hb3,hb46⟩|⟨hi0,hb3,hb46⟩
   ·skip
    with_reducible repeat' (first|refine Sp.h ?_|((first|refine Wd ?_|refine Ss.h ?_|(refine Sb.h ?_ ?_ ?_<;>(try intro hgd)<;>try exact Xy))<;>simp -implicitDefEqProofs (maxSteps:=2000000) [hP,hN,h0,h2,h3,h4,h6,hp,hb2,hb45,hb46,hb3,hb21,hi0,hzJ]<;>try refine Ya ?_)|refine X2 ?_ ?_|(refine Xd ?_ ?_<;>intro hcd<;>try exact Xx))
    all_goals simp [qf,oq,hi0,tB]
   ·skip
    with_reducible repeat' (first|refine Sp.h ?_|((first|refine Wd ?_|refine Ss.h ?_|(refine Sb.h ?_ ?_ ?_<;>(try intro hgd)<;>try exact Xy))<;>simp -implicitDefEqProofs (maxSteps:=2000000) [hP,hN,h0,h2,h3,h4,h6,hp,hb2,hb45,hb46,hb3,hb21,hzJ,hzM]<;>try refine Ya ?_)|refine X2 ?_ ?_|(refine Xd ?_ ?_<;>intro hcd<;>try exact Xx))
    all_goals simp [qf,oq]
abbrev im (js : List J) (ms : List Ms) : PV:=.agg [.sl (js.map cJ),.sl (ms.map cT)]
end Go.Ab
namespace Go.Ab
open Go.Proofs
def ot (j : J) : Prop:=-1000000≤j.lo∧j.lo≤j.hi∧j.hi≤1000000
theorem Cu (l : List Int) (n i : Nat) : ot (ll l n i)∧(ll l n i).lo≤0∧0≤(ll l n i).hi:=by
 have h1:=bt l (i8 l n i) (k:=3) (by decide) (by decide)
 have h2:=bt l (i8 l n i) (k:=5) (by decide) (by decide)
 have h3:=bt l (nn l (i8 l n i)) (k:=4) (by decide) (by decide)
 have h4:=bt l (nn l (nn l (i8 l n i))) (k:=3) (by decide) (by decide)
 have hlo : -1000000≤Bl l n i∧Bl l n i≤0:=by
  unfold Bl
  generalize nx l (i8 l n i) 3=a at *
  generalize nx l (i8 l n i) 5=b at *
  split
  ·omega
  ·split
   ·simp only [wr,IntKind.wrap_i64];omega
   ·have : b=0∨b=1∨b=2∨b=3∨b=4:=by omega
    rcases this with rfl|rfl|rfl|rfl|rfl<;>decide
 have hhi : 0≤Bm l n i∧Bm l n i≤1000000:=by
  unfold Bm
  generalize nx l (nn l (i8 l n i)) 4=a at *
  generalize nx l (nn l (nn l (i8 l n i))) 3=b at *
  split
  ·omega
  ·split
   ·simp only [wr,IntKind.wrap_i64];omega
   ·have ha : ∀ c : Int,0≤c→c < 4→0≤wr ((wr (wr (1+c) * 65536)).tdiv 8)∧wr ((wr (wr (1+c) * 65536)).tdiv 8)≤32768:=by
     intro c h0 h4
     have : c=0∨c=1∨c=2∨c=3:=by omega
     rcases this with rfl|rfl|rfl|rfl<;>decide
    have:=ha a h3.1 h3.2
    rw [aa (n:=wr ((wr (wr (1+a) * 65536)).tdiv 8)+b) (by omega) (by omega)];omega
 simp only [ot,ll];omega
theorem Bo (l : List Int) (n : Nat) : ∀ j ∈ jo l n,ot j:=by
 intro j hj
 simp only [jo,tA,List.mem_map] at hj
 obtain ⟨i,_,rfl⟩:=hj
 exact (Cu l _ i).1
theorem zd (l : List Int) (n : Nat) : (jo l n).length≤3∧0 < (jo l n).length:=by
 have hx:=bt l n (k:=3) (by decide) (by decide)
 rw [jo,oo,rN];omega
theorem yz (x : Int) {k : Int} (hk : 0 < k) (hk' : k < 4611686018427387904) : 0≤lj x k∧lj x k < k:=by
 have:=bt [x] 0 hk hk'
 simpa [nx] using this
end Go.Ab
namespace Go.Ab
open Go.Proofs
theorem ze {P : Program} (d : Nat) (t : TypeId) (a b : Bool) (h : P.underlying t=some .bool) : ag P (Op.equalIn (d+1) t (.bool a) (.bool b))=some (a==b):=by
 simp only [Op.equalIn,af,gh h,Option.bind_some];rfl
def wg (x y : AV) : Option (Bool × Bool):=match x,y with
 |.pv (.val (.bool a)),.pv (.val (.bool b))=>some (a,b)
 |_,_=>none
def Cv (x y : AV) (fb : Option bI) : Option bI:=match wg x y with
 |some (a,b)=>some (.pv (.val (.bool (a==b))),[])
 |none=>fb
@[simp] theorem Hl (a b : Bool) (fb : Option bI) : Cv (.pv (.val (.bool a))) (.pv (.val (.bool b))) fb=some (.pv (.val (.bool (a==b))),[]):=rfl
@[simp] theorem KM {dst : Option Nat} {ty : TypeId} {pos : String} {aft : Array Edge} {g : Option (Nat × Bool)} {ρ : Operand→AV} (x y : Operand) :
 aR Tryz.prog ⟨dst,.binOp .eql 4 x y 4,ty,pos,aft,g⟩ ρ=Cv (ρ x) (ρ y) (ga Tryz.prog ⟨dst,.binOp .eql 4 x y 4,ty,pos,aft,g⟩ ρ):=by
 unfold Cv
 split
 ·rename_i a b h
  unfold wg at h
  split at h
  ·rename_i a' b' hx hy
   injection h with h;injection h with h1 h2;subst h1;subst h2
   refine cW (by simp [Op.operands,hx,hy,dC]) ?_
   unfold execOp
   simp only [(aY hx).2,(aY hy).2]
   have h1 : ag Tryz.prog (eqGuard .eql 4 x y (.bool a') (.bool b'))=some ():=by kernel_rfl
   have h2 : ag Tryz.prog (binOp .eql 4 (.bool a') (.bool b'))=some (.bool (a'==b')):=by
    simp only [binOp,af]
    rw [show ag Tryz.prog (Op.equal 4 (.bool a') (.bool b'))=some (a'==b') from ze 9999 4 a' b' Tryz.underlying4]
    rfl
   simp only [af,h1,h2,Option.bind_some];rfl
  ·cases h
 ·rfl
theorem H9 (f : FuncId) (p : Int × Int→Int→Bool) (xs : List (Int × Int)) (ys : List (Int)) (hl : xs.length≤9223372036854775807) (hf : ∀ a b,ab Tryz.prog f [.pv (aO a),.pv (Z b)] [] [] (.pv (B (p a b)))) : ab Tryz.prog 295 [.pv (.sl (xs.map aO)),.pv (.sl (ys.map Z)),.pv (Fv f)] [] [] (.pv (B (decide (xs.length=ys.length) && lH p xs ys))):=by
 refine Dp Tryz.func295 ?_
 intro C hP hN
 simp only [Tryz.f295] at hN ⊢
 by_cases he : xs.length=ys.length
 ·skip
  with_reducible repeat' (first|refine Sp.h ?_|((first|refine Wd ?_|refine Ss.h ?_|(refine Sb.h ?_ ?_ ?_<;>(try intro hgd)<;>try exact Xy))<;>simp -implicitDefEqProofs (maxSteps:=2000000) [hP,hN,he]<;>try refine Ya ?_)|refine X2 ?_ ?_|(refine Xd ?_ ?_<;>intro hcd<;>try exact Xx))
  refine WP.loopN [8] xs.length (fun i st=>st.t 0=.pv (.sl (xs.map aO))∧st.t 1=.pv (.sl (ys.map Z))∧st.t 2=.pv (Fv f)∧st.t 14=.pv (.sl (xs.map aO))∧st.t 15=.pv (Z xs.length)∧st.t 16=.pv (Z i)∧st.h 8=none∧me p xs ys i=true) (by simp [me,he]) ?_
  rintro i st hi ⟨h0,h1,h2,h14,h15,h16,hb,hq⟩
  by_cases hlt : i < xs.length
  ·have hw:=aw hlt hl
   have hlt' : i < ys.length:=by omega
   have hF : p xs[i] ys[i]=false→lH p xs ys=false:=tw hlt hlt'
   have hS : p xs[i] ys[i]=true→me p xs ys (i+1)=true:=vd hlt hlt' hq
   with_reducible repeat' (first|refine Sp.h ?_|((first|refine Wd ?_|refine Ss.h ?_|refine Sc.h (hf _ _) ?_|(refine Sb.h ?_ ?_ ?_<;>(try intro hgd)<;>try exact Xy))<;>simp -implicitDefEqProofs (maxSteps:=2000000) [hP,hN,h0,h1,h2,h14,h15,h16,hb,hlt,hlt',hw]<;>try refine Ya ?_)|refine X2 ?_ ?_|(refine Xd ?_ ?_<;>intro hcd<;>try exact Xx))
   all_goals first|exact hF (by simpa using hcd)|simpa using hS (by simpa using hcd)
  ·skip
   with_reducible repeat' (first|refine Sp.h ?_|((first|refine Wd ?_|refine Ss.h ?_|(refine Sb.h ?_ ?_ ?_<;>(try intro hgd)<;>try exact Xy))<;>simp -implicitDefEqProofs (maxSteps:=2000000) [hP,hN,h0,h1,h2,h14,h15,h16,hb,hlt]<;>try refine Ya ?_)|refine X2 ?_ ?_|(refine Xd ?_ ?_<;>intro hcd<;>try exact Xx))
   all_goals simp [he,ve hlt hq]
 ·skip
  with_reducible repeat' (first|refine Sp.h ?_|((first|refine Wd ?_|refine Ss.h ?_|(refine Sb.h ?_ ?_ ?_<;>(try intro hgd)<;>try exact Xy))<;>simp -implicitDefEqProofs (maxSteps:=2000000) [hP,hN,he]<;>try refine Ya ?_)|refine X2 ?_ ?_|(refine Xd ?_ ?_<;>intro hcd<;>try exact Xx))
  all_goals simp [he]
theorem Ia (a : Int × Int) (b : Int) : ab Tryz.prog 296 [.pv (aO a),.pv (Z b)] [] [] (.pv (B (wV a b))):=Fe a.1 a.2 b
def gY (xs : List (Int × Int)) (ys : List Int) : Bool:=decide (xs.length=ys.length) && lH wV xs ys
def Fi (x y : Int × Int) : Bool:=am x.1 x.2 && am y.1 y.2 && decide (max x.1 y.1≤min x.2 y.2)
def tC (xs ys : List (Int × Int)) : Bool:=decide (xs.length=ys.length) && lH Fi xs ys
theorem Fj (xs : List (Int × Int)) (ys : List Int) (hl : xs.length≤9223372036854775807) : ab Tryz.prog 196 [.pv (iv xs),.pv (zs ys)] [] [] (.pv (B (gY xs ys))):=by
 refine Dp Tryz.func196 ?_
 intro C hP hN
 simp only [Tryz.f196] at hN ⊢
 with_reducible repeat' (first|refine Sp.h ?_|((first|refine Ss.h ?_|refine Sc.h (H9 _ wV _ _ hl Ia) ?_|(refine Sb.h ?_ ?_ ?_<;>(try intro hgd)<;>try exact Xy))<;>simp -implicitDefEqProofs (maxSteps:=2000000) [hP,hN])|refine X2 ?_ ?_|(refine Xd ?_ ?_<;>intro hcd<;>try exact Xx))
 all_goals (first|(simp_all [gY];done)|((try simp_all [gY])<;>(try omega)<;>grind))
end Go.Ab
