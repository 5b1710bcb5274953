/- The contracts and facts that the laws of this seat need, in one text (Ty, CfA). -/
import Derived.Test.YtmcbekbdnddmdaaGreatW3
import Derived.Test.YtmcbekbdnddmdaaGreatProg
set_option linter.all false
set_option maxHeartbeats 16000000
namespace Go.Ab
open Go.Proofs
@[simp] theorem O8 : ai Tryz.prog 2=some ⟨1,(some (.int .i64 0)),.one⟩:=by kernel_rfl
@[simp] theorem O9 : cD Tryz.prog 2=some .i64:=by kernel_rfl
@[simp] theorem Pa : ai Tryz.prog 3=some ⟨1,(some (.int .i64 0)),.one⟩:=by kernel_rfl
@[simp] theorem Pb : cD Tryz.prog 3=some .i64:=by kernel_rfl
@[simp] theorem Pc : ai Tryz.prog 4=some ⟨1,(some (.bool false)),.one⟩:=by kernel_rfl
@[simp] theorem Pd : ai Tryz.prog 5=some ⟨1,(some (.int .u8 0)),.one⟩:=by kernel_rfl
@[simp] theorem Pe : cD Tryz.prog 5=some .u8:=by kernel_rfl
@[simp] theorem Pf : ai Tryz.prog 6=some ⟨1,(some (.int .u8 0)),.one⟩:=by kernel_rfl
@[simp] theorem Pg : cD Tryz.prog 6=some .u8:=by kernel_rfl
@[simp] theorem Ph : ai Tryz.prog 7=some ⟨4,(some (.agg #[.int .i64 0,.int .i64 0,.bool false,.int .u8 0])),.struct [(0,1),(1,1),(2,1),(3,1)]⟩:=by kernel_rfl
@[simp] theorem Pi : ai Tryz.prog 8=some ⟨4,(some (.agg #[.int .i64 0,.int .i64 0,.bool false,.int .u8 0])),.struct [(0,1),(1,1),(2,1),(3,1)]⟩:=by kernel_rfl
@[simp] theorem Pj : ai Tryz.prog 9=some ⟨1,(some (.string ByteArray.empty)),.one⟩:=by kernel_rfl
@[simp] theorem Pk : eT Tryz.prog 9=some none:=by kernel_rfl
@[simp] theorem Oc : ai Tryz.prog 10=some ⟨1,(some (.string ByteArray.empty)),.one⟩:=by kernel_rfl
@[simp] theorem Od : eT Tryz.prog 10=some none:=by kernel_rfl
@[simp] theorem Oe : ai Tryz.prog 11=some ⟨1,(some (.string ByteArray.empty)),.one⟩:=by kernel_rfl
@[simp] theorem Of : eT Tryz.prog 11=some none:=by kernel_rfl
@[simp] theorem Og : ai Tryz.prog 12=some ⟨1,(some (.int .u64 0)),.one⟩:=by kernel_rfl
@[simp] theorem Oh : cD Tryz.prog 12=some .u64:=by kernel_rfl
@[simp] theorem Oi : ai Tryz.prog 13=some ⟨2,(some (.agg #[.string ByteArray.empty,.int .u64 0])),.struct [(0,1),(1,1)]⟩:=by kernel_rfl
@[simp] theorem Oj : ai Tryz.prog 14=some ⟨2,(some (.agg #[.string ByteArray.empty,.int .u64 0])),.struct [(0,1),(1,1)]⟩:=by kernel_rfl
@[simp] theorem Ok : ai Tryz.prog 15=some ⟨1,(some (.pointer none)),.one⟩:=by kernel_rfl
@[simp] theorem Ol : ai Tryz.prog 16=some ⟨1,(some (.pointer none)),.one⟩:=by kernel_rfl
@[simp] theorem Om : ai Tryz.prog 17=some ⟨1,(some (.pointer none)),.one⟩:=by kernel_rfl
@[simp] theorem On : ai Tryz.prog 18=some ⟨1,(some (.agg #[.pointer none])),.struct [(0,1)]⟩:=by kernel_rfl
@[simp] theorem Oo : ai Tryz.prog 19=some ⟨1,(some (.agg #[.pointer none])),.struct [(0,1)]⟩:=by kernel_rfl
@[simp] theorem Oq : ai Tryz.prog 21=some ⟨1,(some (.int .i32 0)),.one⟩:=by kernel_rfl
@[simp] theorem Ot : cD Tryz.prog 21=some .i32:=by kernel_rfl
@[simp] theorem Ou : ai Tryz.prog 22=some ⟨1,(some (.slice none 0 0)),.slice 65 12 104 (some (.agg #[.string ByteArray.empty,.int .i64 0,.int .i64 0,.int .i64 0,.int .i64 0,.int .i64 0,.int .i64 0,.int .i64 0,.int .i64 0,.int .i64 0,.int .i64 0,.int .i64 0]))⟩:=by kernel_rfl
@[simp] theorem Ov : ai Tryz.prog 23=some ⟨1,(some (.slice none 0 0)),.slice 144 5 40 (some (.agg #[.int .i64 0,.int .i64 0,.int .i64 0,.int .i64 0,.int .i64 0]))⟩:=by kernel_rfl
@[simp] theorem Ow : ai Tryz.prog 24=some ⟨2,(some (.agg #[.slice none 0 0,.slice none 0 0])),.struct [(0,1),(1,1)]⟩:=by kernel_rfl
@[simp] theorem Ox : ai Tryz.prog 25=some ⟨2,(some (.agg #[.slice none 0 0,.slice none 0 0])),.struct [(0,1),(1,1)]⟩:=by kernel_rfl
@[simp] theorem Oy : ai Tryz.prog 26=some ⟨1,(some (.slice none 0 0)),.slice 63 3 40 (some (.agg #[.int .i64 0,.int .i64 0,.slice none 0 0]))⟩:=by kernel_rfl
@[simp] theorem Oz : ai Tryz.prog 27=some ⟨1,(some (.slice none 0 0)),.slice 115 2 16 (some (.agg #[.int .i64 0,.int .i64 0]))⟩:=by kernel_rfl
@[simp] theorem OA : ai Tryz.prog 28=some ⟨4,(some (.agg #[.slice none 0 0,.slice none 0 0,.slice none 0 0,.slice none 0 0])),.struct [(0,2),(2,1),(3,1)]⟩:=by kernel_rfl
@[simp] theorem OB : ai Tryz.prog 29=some ⟨4,(some (.agg #[.slice none 0 0,.slice none 0 0,.slice none 0 0,.slice none 0 0])),.struct [(0,2),(2,1),(3,1)]⟩:=by kernel_rfl
@[simp] theorem OC : ai Tryz.prog 30=some ⟨1,(some (.slice none 0 0)),.slice 89 2 16 (some (.agg #[.int .i64 0,.int .i64 0]))⟩:=by kernel_rfl
@[simp] theorem OD : ai Tryz.prog 31=some ⟨1,(some (.slice none 0 0)),.slice 84 8 112 (some (.agg #[.int .i64 0,.int .i64 0,.int .i64 0,.int .i64 0,.slice none 0 0,.int .i64 0,.slice none 0 0,.slice none 0 0]))⟩:=by kernel_rfl
@[simp] theorem OE : ai Tryz.prog 32=some ⟨2,(some (.agg #[.slice none 0 0,.slice none 0 0])),.struct [(0,1),(1,1)]⟩:=by kernel_rfl
@[simp] theorem OF : ai Tryz.prog 33=some ⟨2,(some (.agg #[.slice none 0 0,.slice none 0 0])),.struct [(0,1),(1,1)]⟩:=by kernel_rfl
@[simp] theorem OG : ai Tryz.prog 34=some ⟨1,(some (.slice none 0 0)),.slice 2 1 8 (some (.int .i64 0))⟩:=by kernel_rfl
@[simp] theorem KK : ai Tryz.prog 35=some ⟨1,(some (.slice none 0 0)),.slice 3 1 8 (some (.int .i64 0))⟩:=by kernel_rfl
@[simp] theorem OH : ai Tryz.prog 48=some ⟨4,(some (.agg #[.int .i64 0,.int .i64 0,.int .i64 0,.int .i64 0])),.struct [(0,1),(1,1),(2,1),(3,1)]⟩:=by kernel_rfl
@[simp] theorem OI : ai Tryz.prog 49=some ⟨4,(some (.agg #[.int .i64 0,.int .i64 0,.int .i64 0,.int .i64 0])),.struct [(0,1),(1,1),(2,1),(3,1)]⟩:=by kernel_rfl
@[simp] theorem OJ : ai Tryz.prog 52=some ⟨1,(some (.slice none 0 0)),.slice 34 1 24 (some (.slice none 0 0))⟩:=by kernel_rfl
@[simp] theorem OK : ai Tryz.prog 55=some ⟨1,(some (.pointer none)),.one⟩:=by kernel_rfl
@[simp] theorem OM : ai Tryz.prog 59=some ⟨3,(some (.agg #[.int .i64 0,.int .i64 0,.int .i64 0])),.array 3 1⟩:=by kernel_rfl
@[simp] theorem ON : eT Tryz.prog 59=some (some 3):=by kernel_rfl
@[simp] theorem OO : ai Tryz.prog 60=some ⟨3,(some (.agg #[.int .i64 0,.int .i64 0,.int .i64 0])),.array 3 1⟩:=by kernel_rfl
@[simp] theorem OP : eT Tryz.prog 60=some (some 3):=by kernel_rfl
@[simp] theorem OQ : ai Tryz.prog 61=some ⟨1,(some (.slice none 0 0)),.slice 60 3 24 (some (.agg #[.int .i64 0,.int .i64 0,.int .i64 0]))⟩:=by kernel_rfl
@[simp] theorem OR : ai Tryz.prog 62=some ⟨3,(some (.agg #[.int .i64 0,.int .i64 0,.slice none 0 0])),.struct [(0,1),(1,1),(2,1)]⟩:=by kernel_rfl
@[simp] theorem OS : ai Tryz.prog 63=some ⟨3,(some (.agg #[.int .i64 0,.int .i64 0,.slice none 0 0])),.struct [(0,1),(1,1),(2,1)]⟩:=by kernel_rfl
@[simp] theorem OT : ai Tryz.prog 64=some ⟨12,(some (.agg #[.string ByteArray.empty,.int .i64 0,.int .i64 0,.int .i64 0,.int .i64 0,.int .i64 0,.int .i64 0,.int .i64 0,.int .i64 0,.int .i64 0,.int .i64 0,.int .i64 0])),.struct [(0,1),(1,1),(2,1),(3,3),(6,1),(7,1),(8,1),(9,1),(10,1),(11,1)]⟩:=by kernel_rfl
@[simp] theorem OU : ai Tryz.prog 65=some ⟨12,(some (.agg #[.string ByteArray.empty,.int .i64 0,.int .i64 0,.int .i64 0,.int .i64 0,.int .i64 0,.int .i64 0,.int .i64 0,.int .i64 0,.int .i64 0,.int .i64 0,.int .i64 0])),.struct [(0,1),(1,1),(2,1),(3,3),(6,1),(7,1),(8,1),(9,1),(10,1),(11,1)]⟩:=by kernel_rfl
@[simp] theorem OV : ai Tryz.prog 66=some ⟨1,(some (.int .i64 0)),.one⟩:=by kernel_rfl
@[simp] theorem OW : cD Tryz.prog 66=some .i64:=by kernel_rfl
@[simp] theorem OX : ai Tryz.prog 79=some ⟨3,(some (.agg #[.int .i64 0,.slice none 0 0,.slice none 0 0])),.struct [(0,1),(1,1),(2,1)]⟩:=by kernel_rfl
@[simp] theorem OY : ai Tryz.prog 80=some ⟨3,(some (.agg #[.int .i64 0,.slice none 0 0,.slice none 0 0])),.struct [(0,1),(1,1),(2,1)]⟩:=by kernel_rfl
@[simp] theorem OZ : ai Tryz.prog 81=some ⟨5,(some (.agg #[.int .i64 0,.slice none 0 0,.int .i64 0,.slice none 0 0,.slice none 0 0])),.struct [(0,1),(1,1),(2,3)]⟩:=by kernel_rfl
@[simp] theorem O0 : ai Tryz.prog 82=some ⟨5,(some (.agg #[.int .i64 0,.slice none 0 0,.int .i64 0,.slice none 0 0,.slice none 0 0])),.struct [(0,1),(1,1),(2,3)]⟩:=by kernel_rfl
@[simp] theorem O1 : ai Tryz.prog 83=some ⟨8,(some (.agg #[.int .i64 0,.int .i64 0,.int .i64 0,.int .i64 0,.slice none 0 0,.int .i64 0,.slice none 0 0,.slice none 0 0])),.struct [(0,1),(1,1),(2,1),(3,5)]⟩:=by kernel_rfl
@[simp] theorem O2 : ai Tryz.prog 84=some ⟨8,(some (.agg #[.int .i64 0,.int .i64 0,.int .i64 0,.int .i64 0,.slice none 0 0,.int .i64 0,.slice none 0 0,.slice none 0 0])),.struct [(0,1),(1,1),(2,1),(3,5)]⟩:=by kernel_rfl
@[simp] theorem O3 : ai Tryz.prog 88=some ⟨2,(some (.agg #[.int .i64 0,.int .i64 0])),.struct [(0,1),(1,1)]⟩:=by kernel_rfl
@[simp] theorem O4 : ai Tryz.prog 89=some ⟨2,(some (.agg #[.int .i64 0,.int .i64 0])),.struct [(0,1),(1,1)]⟩:=by kernel_rfl
@[simp] theorem O5 : ai Tryz.prog 93=some ⟨1,(some (.slice none 0 0)),.slice 30 1 24 (some (.slice none 0 0))⟩:=by kernel_rfl
@[simp] theorem O6 : ai Tryz.prog 95=some ⟨2,(some (.agg #[.int .i64 0,.int .i64 0])),.struct [(0,1),(1,1)]⟩:=by kernel_rfl
@[simp] theorem O7 : ai Tryz.prog 96=some ⟨2,(some (.agg #[.int .i64 0,.int .i64 0])),.struct [(0,1),(1,1)]⟩:=by kernel_rfl
@[simp] theorem MN : ai Tryz.prog 102=some ⟨1,(some (.slice none 0 0)),.slice 4 1 1 (some (.bool false))⟩:=by kernel_rfl
@[simp] theorem MO : ai Tryz.prog 103=some ⟨2,(some (.agg #[.slice none 0 0,.slice none 0 0])),.struct [(0,1),(1,1)]⟩:=by kernel_rfl
@[simp] theorem MP : ai Tryz.prog 104=some ⟨2,(some (.agg #[.slice none 0 0,.slice none 0 0])),.struct [(0,1),(1,1)]⟩:=by kernel_rfl
@[simp] theorem MQ : ai Tryz.prog 107=some ⟨2,(some (.agg #[.slice none 0 0,.int .i64 0])),.struct [(0,1),(1,1)]⟩:=by kernel_rfl
@[simp] theorem MR : ai Tryz.prog 108=some ⟨2,(some (.agg #[.slice none 0 0,.int .i64 0])),.struct [(0,1),(1,1)]⟩:=by kernel_rfl
@[simp] theorem MS : ai Tryz.prog 114=some ⟨2,(some (.agg #[.int .i64 0,.int .i64 0])),.struct [(0,1),(1,1)]⟩:=by kernel_rfl
@[simp] theorem MT : ai Tryz.prog 115=some ⟨2,(some (.agg #[.int .i64 0,.int .i64 0])),.struct [(0,1),(1,1)]⟩:=by kernel_rfl
@[simp] theorem MU : ai Tryz.prog 120=some ⟨3,(some (.agg #[.slice none 0 0,.slice none 0 0,.slice none 0 0])),.struct [(0,1),(1,1),(2,1)]⟩:=by kernel_rfl
@[simp] theorem MV : ai Tryz.prog 121=some ⟨3,(some (.agg #[.slice none 0 0,.slice none 0 0,.slice none 0 0])),.struct [(0,1),(1,1),(2,1)]⟩:=by kernel_rfl
@[simp] theorem MW : ai Tryz.prog 136=some ⟨1,(some (.int .u64 0)),.one⟩:=by kernel_rfl
@[simp] theorem MX : cD Tryz.prog 136=some .u64:=by kernel_rfl
@[simp] theorem MY : ai Tryz.prog 143=some ⟨5,(some (.agg #[.int .i64 0,.int .i64 0,.int .i64 0,.int .i64 0,.int .i64 0])),.struct [(0,1),(1,1),(2,3)]⟩:=by kernel_rfl
@[simp] theorem MZ : ai Tryz.prog 144=some ⟨5,(some (.agg #[.int .i64 0,.int .i64 0,.int .i64 0,.int .i64 0,.int .i64 0])),.struct [(0,1),(1,1),(2,3)]⟩:=by kernel_rfl
@[simp] theorem M1 : ai Tryz.prog 145=some ⟨1,(some (.slice none 0 0)),.slice 152 2 32 (some (.agg #[.slice none 0 0,.int .i64 0]))⟩:=by kernel_rfl
@[simp] theorem M2 : ai Tryz.prog 150=some ⟨1,(some (.slice none 0 0)),.slice 191 6 48 (some (.agg #[.int .i64 0,.int .i64 0,.int .i64 0,.int .i64 0,.int .i64 0,.int .i64 0]))⟩:=by kernel_rfl
@[simp] theorem M3 : ai Tryz.prog 151=some ⟨2,(some (.agg #[.slice none 0 0,.int .i64 0])),.struct [(0,1),(1,1)]⟩:=by kernel_rfl
@[simp] theorem M4 : ai Tryz.prog 152=some ⟨2,(some (.agg #[.slice none 0 0,.int .i64 0])),.struct [(0,1),(1,1)]⟩:=by kernel_rfl
@[simp] theorem M5 : ai Tryz.prog 153=some ⟨7,(some (.agg #[.int .i64 0,.int .i64 0,.int .i64 0,.int .i64 0,.slice none 0 0,.slice none 0 0,.int .i64 0])),.struct [(0,1),(1,3),(4,1),(5,1),(6,1)]⟩:=by kernel_rfl
@[simp] theorem M6 : ai Tryz.prog 154=some ⟨7,(some (.agg #[.int .i64 0,.int .i64 0,.int .i64 0,.int .i64 0,.slice none 0 0,.slice none 0 0,.int .i64 0])),.struct [(0,1),(1,3),(4,1),(5,1),(6,1)]⟩:=by kernel_rfl
@[simp] theorem M7 : ai Tryz.prog 165=some ⟨3,(some (.agg #[.int .i64 0,.slice none 0 0,.slice none 0 0])),.struct [(0,3)]⟩:=by kernel_rfl
@[simp] theorem M8 : ai Tryz.prog 166=some ⟨3,(some (.agg #[.int .i64 0,.slice none 0 0,.slice none 0 0])),.struct [(0,3)]⟩:=by kernel_rfl
@[simp] theorem M9 : ai Tryz.prog 170=some ⟨1,(some (.int .u64 0)),.one⟩:=by kernel_rfl
@[simp] theorem Na : cD Tryz.prog 170=some .u64:=by kernel_rfl
@[simp] theorem Nb : ai Tryz.prog 174=some ⟨1,(some (.slice none 0 0)),.slice 150 1 24 (some (.slice none 0 0))⟩:=by kernel_rfl
@[simp] theorem Nc : ai Tryz.prog 176=some ⟨1,(some (.slice none 0 0)),.slice 178 2 16 (some (.agg #[.int .i64 0,.int .i64 0]))⟩:=by kernel_rfl
@[simp] theorem Nd : ai Tryz.prog 178=some ⟨2,(some (.agg #[.int .i64 0,.int .i64 0])),.struct [(0,1),(1,1)]⟩:=by kernel_rfl
@[simp] theorem Nf : ai Tryz.prog 190=some ⟨6,(some (.agg #[.int .i64 0,.int .i64 0,.int .i64 0,.int .i64 0,.int .i64 0,.int .i64 0])),.array 3 2⟩:=by kernel_rfl
@[simp] theorem Ng : eT Tryz.prog 190=none:=by kernel_rfl
@[simp] theorem Nh : o0 Tryz.prog 190=some (3,2):=by kernel_rfl
@[simp] theorem Ni : ai Tryz.prog 191=some ⟨6,(some (.agg #[.int .i64 0,.int .i64 0,.int .i64 0,.int .i64 0,.int .i64 0,.int .i64 0])),.array 3 2⟩:=by kernel_rfl
@[simp] theorem Nj : eT Tryz.prog 191=none:=by kernel_rfl
@[simp] theorem Nk : o0 Tryz.prog 191=some (3,2):=by kernel_rfl
@[simp] theorem Nl : ai Tryz.prog 201=some ⟨1,(some (.nilIface)),.one⟩:=by kernel_rfl
@[simp] theorem Nm : ai Tryz.prog 202=some ⟨3,(some (.agg #[.slice none 0 0,.slice none 0 0,.slice none 0 0])),.struct [(0,1),(1,1),(2,1)]⟩:=by kernel_rfl
@[simp] theorem Nn : ai Tryz.prog 203=some ⟨3,(some (.agg #[.slice none 0 0,.slice none 0 0,.slice none 0 0])),.struct [(0,1),(1,1),(2,1)]⟩:=by kernel_rfl
@[simp] theorem Np : ai Tryz.prog 211=some ⟨1,(some (.slice none 0 0)),.slice 216 24 192 (some (.agg #[.int .i64 0,.int .i64 0,.int .i64 0,.int .i64 0,.int .i64 0,.int .i64 0,.int .i64 0,.int .i64 0,.int .i64 0,.int .i64 0,.int .i64 0,.int .i64 0,.int .i64 0,.int .i64 0,.int .i64 0,.int .i64 0,.int .i64 0,.int .i64 0,.int .i64 0,.int .i64 0,.int .i64 0,.int .i64 0,.int .i64 0,.int .i64 0]))⟩:=by kernel_rfl
@[simp] theorem Nq : ai Tryz.prog 213=some ⟨18,(some (.agg #[.int .i64 0,.int .i64 0,.int .i64 0,.int .i64 0,.int .i64 0,.int .i64 0,.int .i64 0,.int .i64 0,.int .i64 0,.int .i64 0,.int .i64 0,.int .i64 0,.int .i64 0,.int .i64 0,.int .i64 0,.int .i64 0,.int .i64 0,.int .i64 0])),.array 3 6⟩:=by kernel_rfl
@[simp] theorem Nr : eT Tryz.prog 213=none:=by kernel_rfl
@[simp] theorem Ns : o0 Tryz.prog 213=some (3,6):=by kernel_rfl
@[simp] theorem Nt : ai Tryz.prog 214=some ⟨18,(some (.agg #[.int .i64 0,.int .i64 0,.int .i64 0,.int .i64 0,.int .i64 0,.int .i64 0,.int .i64 0,.int .i64 0,.int .i64 0,.int .i64 0,.int .i64 0,.int .i64 0,.int .i64 0,.int .i64 0,.int .i64 0,.int .i64 0,.int .i64 0,.int .i64 0])),.array 3 6⟩:=by kernel_rfl
@[simp] theorem Nu : eT Tryz.prog 214=none:=by kernel_rfl
@[simp] theorem Nv : o0 Tryz.prog 214=some (3,6):=by kernel_rfl
@[simp] theorem Nw : ai Tryz.prog 215=some ⟨24,(some (.agg #[.int .i64 0,.int .i64 0,.int .i64 0,.int .i64 0,.int .i64 0,.int .i64 0,.int .i64 0,.int .i64 0,.int .i64 0,.int .i64 0,.int .i64 0,.int .i64 0,.int .i64 0,.int .i64 0,.int .i64 0,.int .i64 0,.int .i64 0,.int .i64 0,.int .i64 0,.int .i64 0,.int .i64 0,.int .i64 0,.int .i64 0,.int .i64 0])),.struct [(0,18),(18,6)]⟩:=by kernel_rfl
@[simp] theorem Ny : ai Tryz.prog 216=some ⟨24,(some (.agg #[.int .i64 0,.int .i64 0,.int .i64 0,.int .i64 0,.int .i64 0,.int .i64 0,.int .i64 0,.int .i64 0,.int .i64 0,.int .i64 0,.int .i64 0,.int .i64 0,.int .i64 0,.int .i64 0,.int .i64 0,.int .i64 0,.int .i64 0,.int .i64 0,.int .i64 0,.int .i64 0,.int .i64 0,.int .i64 0,.int .i64 0,.int .i64 0])),.struct [(0,18),(18,6)]⟩:=by kernel_rfl
@[simp] theorem Nz : ai Tryz.prog 259=some ⟨1,(some (.nilFunc)),.one⟩:=by kernel_rfl
@[simp] theorem NA : ai Tryz.prog 260=some ⟨1,(some (.agg #[.nilFunc])),.struct [(0,1)]⟩:=by kernel_rfl
@[simp] theorem NB : ai Tryz.prog 261=some ⟨1,(some (.agg #[.nilFunc])),.struct [(0,1)]⟩:=by kernel_rfl
@[simp] theorem NC : ai Tryz.prog 267=some ⟨1,(some (.int .i64 0)),.one⟩:=by kernel_rfl
@[simp] theorem ND : cD Tryz.prog 267=some .i64:=by kernel_rfl
@[simp] theorem NE : ai Tryz.prog 269=some ⟨4,(some (.agg #[.int .i64 0,.int .i64 0,.int .i64 0,.int .i64 0])),.array 4 1⟩:=by kernel_rfl
@[simp] theorem NF : eT Tryz.prog 269=some (some 4):=by kernel_rfl
@[simp] theorem NG : ai Tryz.prog 270=some ⟨11,(some (.agg #[.int .i64 0,.int .i64 0,.int .i64 0,.int .i64 0,.int .i64 0,.int .i64 0,.int .i64 0,.int .i64 0,.int .i64 0,.int .i64 0,.int .i64 0])),.array 11 1⟩:=by kernel_rfl
@[simp] theorem NH : eT Tryz.prog 270=some (some 11):=by kernel_rfl
@[simp] theorem NI : ai Tryz.prog 274=some ⟨11,(some (.agg #[.int .i64 0,.int .i64 0,.int .i64 0,.int .i64 0,.int .i64 0,.int .i64 0,.int .i64 0,.int .i64 0,.int .i64 0,.int .i64 0,.int .i64 0])),.array 11 1⟩:=by kernel_rfl
@[simp] theorem NJ : eT Tryz.prog 274=some (some 11):=by kernel_rfl
@[simp] theorem NK : ai Tryz.prog 279=some ⟨4,(some (.agg #[.pointer none,.pointer none,.pointer none,.string ByteArray.empty])),.struct [(0,1),(1,1),(2,1),(3,1)]⟩:=by kernel_rfl
@[simp] theorem NL : ai Tryz.prog 280=some ⟨4,(some (.agg #[.pointer none,.pointer none,.pointer none,.string ByteArray.empty])),.struct [(0,1),(1,1),(2,1),(3,1)]⟩:=by kernel_rfl
@[simp] theorem NM : ai Tryz.prog 281=some ⟨0,(some (.agg #[])),.array 0 1⟩:=by kernel_rfl
@[simp] theorem NO : eT Tryz.prog 281=some (some 0):=by kernel_rfl
@[simp] theorem NP : ai Tryz.prog 282=some ⟨0,(some (.agg #[])),.struct [(0,0)]⟩:=by kernel_rfl
@[simp] theorem NQ : ai Tryz.prog 283=some ⟨0,(some (.agg #[])),.struct [(0,0)]⟩:=by kernel_rfl
@[simp] theorem NS : ai Tryz.prog 285=some ⟨1,(some (.int .u32 0)),.one⟩:=by kernel_rfl
@[simp] theorem NT : cD Tryz.prog 285=some .u32:=by kernel_rfl
@[simp] theorem NU : ai Tryz.prog 286=some ⟨1,(some (.int .u8 0)),.one⟩:=by kernel_rfl
@[simp] theorem NV : cD Tryz.prog 286=some .u8:=by kernel_rfl
@[simp] theorem NW : ai Tryz.prog 287=some ⟨1,(some (.int .u8 0)),.one⟩:=by kernel_rfl
@[simp] theorem NX : cD Tryz.prog 287=some .u8:=by kernel_rfl
@[simp] theorem NY : ai Tryz.prog 288=some ⟨1,(some (.nilFunc)),.one⟩:=by kernel_rfl
@[simp] theorem NZ : ai Tryz.prog 289=some ⟨1,(some (.pointer none)),.one⟩:=by kernel_rfl
@[simp] theorem N0 : ai Tryz.prog 290=some ⟨1,(some (.int .i32 0)),.one⟩:=by kernel_rfl
@[simp] theorem N1 : cD Tryz.prog 290=some .i32:=by kernel_rfl
@[simp] theorem N2 : ai Tryz.prog 291=some ⟨1,(some (.int .i32 0)),.one⟩:=by kernel_rfl
@[simp] theorem N3 : cD Tryz.prog 291=some .i32:=by kernel_rfl
@[simp] theorem N4 : ai Tryz.prog 292=some ⟨11,(some (.agg #[.int .u64 0,.int .u64 0,.int .u32 0,.int .u8 0,.int .u8 0,.int .u8 0,.int .u8 0,.nilFunc,.pointer none,.int .i32 0,.int .i32 0])),.struct [(0,1),(1,1),(2,1),(3,1),(4,1),(5,1),(6,1),(7,1),(8,1),(9,1),(10,1)]⟩:=by kernel_rfl
@[simp] theorem N5 : ai Tryz.prog 293=some ⟨11,(some (.agg #[.int .u64 0,.int .u64 0,.int .u32 0,.int .u8 0,.int .u8 0,.int .u8 0,.int .u8 0,.nilFunc,.pointer none,.int .i32 0,.int .i32 0])),.struct [(0,1),(1,1),(2,1),(3,1),(4,1),(5,1),(6,1),(7,1),(8,1),(9,1),(10,1)]⟩:=by kernel_rfl
@[simp] theorem N6 : ai Tryz.prog 294=some ⟨4,(some (.agg #[.slice none 0 0,.slice none 0 0,.int .i64 0,.int .i64 0])),.struct [(0,1),(1,1),(2,1),(3,1)]⟩:=by kernel_rfl
@[simp] theorem N7 : ai Tryz.prog 295=some ⟨4,(some (.agg #[.slice none 0 0,.slice none 0 0,.int .i64 0,.int .i64 0])),.struct [(0,1),(1,1),(2,1),(3,1)]⟩:=by kernel_rfl
end Go.Ab
namespace Go.Ab
open Go.Proofs
abbrev I (lo hi : Int) : PV:=.val (.agg #[.int .i64 lo,.int .i64 hi])
abbrev av (x : Int × Int) : PV:=I x.1 x.2
abbrev B (b : Bool) : PV:=.val (.bool b)
abbrev Z (n : Int) : PV:=.val (.int .i64 n)
abbrev wr (n : Int) : Int:=IntKind.i64.wrap n
def ak (lo hi : Int) : Bool:=decide (-2147483648≤lo) && decide (lo≤hi) && decide (hi≤2147483648)
theorem Lb (a b c d : Int) : af Tryz.prog (Op.equal 89 (.agg #[.int .i64 a,.int .i64 b]) (.agg #[.int .i64 c,.int .i64 d]))=some (a==c && b==d):=by
 have hf : (Tryz.prog.fieldsOf 89).toList=[(Tryz.prog.fieldsOf 89)[0]!,(Tryz.prog.fieldsOf 89)[1]!]:=by kernel_rfl
 show af Tryz.prog (Op.equalIn (9999+1) 89 _ _)=_
 rw [qJ 9999 89 _ _ (by kernel_rfl) (by kernel_rfl),hf]
 have h:=kc (P:=Tryz.prog) (d:=9999) (xs:=#[.int .i64 a,.int .i64 b]) (ys:=#[.int .i64 c,.int .i64 d]) (f:=(Tryz.prog.fieldsOf 89)[0]!) (fs:=[(Tryz.prog.fieldsOf 89)[1]!]) (a:=.int .i64 a) (b:=.int .i64 c) (by decide +kernel) (by kernel_rfl) (by kernel_rfl) (kv 9998 _ .i64 .i64 a c (by kernel_rfl))
  (kc (by decide +kernel) (a:=.int .i64 b) (b:=.int .i64 d) (by kernel_rfl) (by kernel_rfl) (kv 9998 _ .i64 .i64 b d (by kernel_rfl)) xg)
 rw [h];simp
def fc (P : Program) (o : Oper) (ρ : Operand→AV) : Option bt:=aT P o ρ
def rF (x : AV) : Option (Int × Int):=match x with
 |.pv (.val (.agg vs))=>match vs.toList with
  |[.int .i64 a,.int .i64 b]=>some (a,b)
  |_=>none
 |_=>none
theorem mu {x : AV} {a b : Int} (h : rF x=some (a,b)) : x=.pv (I a b):=by
 unfold rF at h
 split at h
 ·split at h
  ·rename_i vs _ a' b' hv
   injection h with h;injection h with h1 h2;subst h1;subst h2
   rw [← Array.toArray_toList (xs:=vs),hv]
  ·cases h
 ·cases h
def C6 (x y : AV) (fb : Option bt) : Option bt:=match rF x,rF y with
 |some (a,b),some (c,d)=>some (.pv (.val (.bool !(a==c && b==d))),[])
 |_,_=>fb
@[simp] theorem H2 (a b c d : Int) (fb : Option bt) : C6 (.pv (.val (.agg #[.int .i64 a,.int .i64 b]))) (.pv (.val (.agg #[.int .i64 c,.int .i64 d]))) fb=some (.pv (.val (.bool !(a==c && b==d))),[]):=rfl
@[simp] theorem N8 {dst : Option Nat} {ty : TypeId} {pos : String} {aft : Array Edge} {g : Option (Nat × Bool)} {ρ : Operand→AV} (x y : Operand) :
 aT Tryz.prog ⟨dst,.binOp .neq 89 x y 89,ty,pos,aft,g⟩ ρ=C6 (ρ x) (ρ y) (fc Tryz.prog ⟨dst,.binOp .neq 89 x y 89,ty,pos,aft,g⟩ ρ):=by
 unfold C6
 split
 ·rename_i a b c d hx hy
  exact tP rfl (mu hx) (mu hy) (by kernel_rfl) (Lb a b c d)
 ·rfl
theorem gH (lo hi : Int) : ab Tryz.prog 110 [.pv (I lo hi)] [] [] (.pv (B (ak lo hi))):=by
 refine Dp Tryz.func110 ?_
 intro C hP hN
 simp only [Tryz.f110] at hN ⊢
 with_reducible repeat' (first|refine Sp.h ?_|((first|refine Ss.h ?_|(refine Sb.h ?_ ?_ ?_<;>(try intro hgd)<;>try exact Xy))<;>simp -implicitDefEqProofs (maxSteps:=2000000) [hP,hN])|refine X2 ?_ ?_|(refine Xd ?_ ?_<;>intro hcd<;>try exact Xx))
 all_goals (first|(simp_all [ak];done)|((try simp_all [ak])<;>(try omega)<;>grind))
theorem kQ (lo hi : Int) : ab Tryz.prog 99 [.pv (I lo hi)] [] [] (.pv (B (ak lo hi))):=by
 refine Dp Tryz.func99 ?_
 intro C hP hN
 simp only [Tryz.f99] at hN ⊢
 with_reducible repeat' (first|refine Sp.h ?_|((first|refine Ss.h ?_|(refine Sb.h ?_ ?_ ?_<;>(try intro hgd)<;>try exact Xy))<;>simp -implicitDefEqProofs (maxSteps:=2000000) [hP,hN])|refine X2 ?_ ?_|(refine Xd ?_ ?_<;>intro hcd<;>try exact Xx))
 all_goals (first|(simp_all [ak];done)|((try simp_all [ak])<;>(try omega)<;>grind))
theorem uK (a b c d : Int) : ab Tryz.prog 168 [.pv (I a b),.pv (I c d)] [] [] (.pv (B (ak a b && ak c d))):=by
 refine Dp Tryz.func168 ?_
 intro C hP hN
 simp only [Tryz.f168] at hN ⊢
 with_reducible repeat' (first|refine Sp.h ?_|((first|refine Ss.h ?_|refine Sc.h (gH _ _) ?_|(refine Sb.h ?_ ?_ ?_<;>(try intro hgd)<;>try exact Xy))<;>simp -implicitDefEqProofs (maxSteps:=2000000) [hP,hN])|refine X2 ?_ ?_|(refine Xd ?_ ?_<;>intro hcd<;>try exact Xx))
 all_goals (first|(simp_all;done)|((try simp_all)<;>(try omega)<;>grind))
theorem IR (a b c d : Int) : ab Tryz.prog 114 [.pv (I a b),.pv (I c d)] [] [] (.pv (B (ak a b && ak c d && decide (c≤a) && decide (b≤d)))):=by
 refine Dp Tryz.func114 ?_
 intro C hP hN
 simp only [Tryz.f114] at hN ⊢
 with_reducible repeat' (first|refine Sp.h ?_|((first|refine Ss.h ?_|refine Sc.h (kQ _ _) ?_|(refine Sb.h ?_ ?_ ?_<;>(try intro hgd)<;>try exact Xy))<;>simp -implicitDefEqProofs (maxSteps:=2000000) [hP,hN])|refine X2 ?_ ?_|(refine Xd ?_ ?_<;>intro hcd<;>try exact Xx))
 all_goals (first|(simp_all;done)|((try simp_all)<;>(try omega)<;>grind))
def lJ (n k : Int) : Int:=if n.tmod k < 0 then wr (n.tmod k+k) else n.tmod k
theorem H3 (n k : Int) (hk : k≠0) : ab Tryz.prog 29 [.pv (Z n),.pv (Z k)] [] [] (.pv (Z (lJ n k))):=by
 refine Dp Tryz.func29 ?_
 intro C hP hN
 simp only [Tryz.f29] at hN ⊢
 with_reducible repeat' (first|refine Sp.h ?_|((first|refine Ss.h ?_|(refine Sb.h ?_ ?_ ?_<;>(try intro hgd)<;>try exact Xy))<;>simp -implicitDefEqProofs (maxSteps:=2000000) [hP,hN,hk])|refine X2 ?_ ?_|(refine Xd ?_ ?_<;>intro hcd<;>try exact Xx))
 all_goals (first|(simp_all [lJ];done)|((try simp_all [lJ])<;>(try omega)<;>grind))
@[simp] theorem KW (a b : Int) : (if b < a then b else a)=min a b:=by split<;>omega
@[simp] theorem KX (a b : Int) : (if a < b then b else a)=max a b:=by split<;>omega
theorem aa {n : Int} (h1 : -9223372036854775808≤n:=by omega) (h2 : n < 9223372036854775808:=by omega) : wr n=n:=by
 rw [wr,IntKind.wrap_i64];omega
theorem Ht {k : Int} (hk : k < 64) : min k.toNat 64=k.toNat:=by omega
theorem FQ : IntKind.i64.bits=64:=rfl
theorem IS (a : Int) : ab Tryz.prog 233 [.pv (Z a)] [] [] (.pv (Z (min (max a (-2147483648)) 2147483648))):=by
 refine Dp Tryz.func233 ?_
 intro C hP hN
 simp only [Tryz.f233] at hN ⊢
 with_reducible repeat' (first|refine Sp.h ?_|((first|refine Ss.h ?_|(refine Sb.h ?_ ?_ ?_<;>(try intro hgd)<;>try exact Xy))<;>simp -implicitDefEqProofs (maxSteps:=2000000) [hP,hN])|refine X2 ?_ ?_|(refine Xd ?_ ?_<;>intro hcd<;>try exact Xx))
 all_goals (first|(simp_all;done)|((try simp_all)<;>(try omega)<;>grind))
theorem FR (a b : Int) : ab Tryz.prog 227 [.pv (Z a),.pv (Z b)] [] [] (.pv (I (min (max a (-2147483648)) 2147483648) (min (max b (-2147483648)) 2147483648))):=by
 refine Dp Tryz.func227 ?_
 intro C hP hN
 simp only [Tryz.f227] at hN ⊢
 with_reducible repeat' (first|refine Sp.h ?_|((first|refine Ss.h ?_|refine Sc.h (IS _) ?_|(refine Sb.h ?_ ?_ ?_<;>(try intro hgd)<;>try exact Xy))<;>simp -implicitDefEqProofs (maxSteps:=2000000) [hP,hN])|refine X2 ?_ ?_|(refine Xd ?_ ?_<;>intro hcd<;>try exact Xx))
 all_goals (first|(simp_all;done)|((try simp_all)<;>(try omega)<;>grind))
theorem IT (a : Int) : ab Tryz.prog 213 [.pv (Z a)] [] [] (.pv (I (min (max a (-2147483648)) 2147483648) (min (max a (-2147483648)) 2147483648))):=by
 refine Dp Tryz.func213 ?_
 intro C hP hN
 simp only [Tryz.f213] at hN ⊢
 with_reducible repeat' (first|refine Sp.h ?_|((first|refine Ss.h ?_|refine Sc.h (FR _ _) ?_|(refine Sb.h ?_ ?_ ?_<;>(try intro hgd)<;>try exact Xy))<;>simp -implicitDefEqProofs (maxSteps:=2000000) [hP,hN])|refine X2 ?_ ?_|(refine Xd ?_ ?_<;>intro hcd<;>try exact Xx))
 all_goals (first|(simp_all;done)|((try simp_all)<;>(try omega)<;>grind))
theorem IU (a k : Int) (h : 0≤k) (hk : k < 64) : ab Tryz.prog 140 [.pv (Z a),.pv (Z k)] [] [] (.pv (Z (a.fdiv (2 ^ k.toNat)))):=by
 refine Dp Tryz.func140 ?_
 intro C hP hN
 simp only [Tryz.f140] at hN ⊢
 with_reducible repeat' (first|refine Sp.h ?_|((first|refine Ss.h ?_|(refine Sb.h ?_ ?_ ?_<;>(try intro hgd)<;>try exact Xy))<;>simp -implicitDefEqProofs (maxSteps:=2000000) [hP,hN,h,FQ,Ht hk])|refine X2 ?_ ?_|(refine Xd ?_ ?_<;>intro hcd<;>try exact Xx))
 all_goals (first|(simp_all;done)|((try simp_all)<;>(try omega)<;>grind))
def eG (x y : Int × Int) : Int × Int:=if ak x.1 x.2 && ak y.1 y.2 then (min x.1 y.1,max x.2 y.2) else (0,0)
theorem AD (a b c d : Int) : ab Tryz.prog 250 [.pv (I a b),.pv (I c d)] [] [] (.pv (av (eG (a,b) (c,d)))):=by
 refine Dp Tryz.func250 ?_
 intro C hP hN
 simp only [Tryz.f250] at hN ⊢
 with_reducible repeat' (first|refine Sp.h ?_|((first|refine Ss.h ?_|refine Sc.h (uK _ _ _ _) ?_|(refine Sb.h ?_ ?_ ?_<;>(try intro hgd)<;>try exact Xy))<;>simp -implicitDefEqProofs (maxSteps:=2000000) [hP,hN])|refine X2 ?_ ?_|(refine Xd ?_ ?_<;>intro hcd<;>try exact Xx))
 all_goals (first|(simp_all [eG];done)|((try simp_all [eG])<;>(try omega)<;>grind))
theorem AE (a b c d : Int) : ab Tryz.prog 234 [.pv (I a b),.pv (I c d)] [] [] (.pv (av (eG (a,b) (c,d)))):=by
 refine Dp Tryz.func234 ?_
 intro C hP hN
 simp only [Tryz.f234] at hN ⊢
 with_reducible repeat' (first|refine Sp.h ?_|((first|refine Ss.h ?_|refine Sc.h (kQ _ _) ?_|(refine Sb.h ?_ ?_ ?_<;>(try intro hgd)<;>try exact Xy))<;>simp -implicitDefEqProofs (maxSteps:=2000000) [hP,hN])|refine X2 ?_ ?_|(refine Xd ?_ ?_<;>intro hcd<;>try exact Xx))
 all_goals (first|(simp_all [eG];done)|((try simp_all [eG])<;>(try omega)<;>grind))
theorem sK (a b : Int) : ab Tryz.prog 108 [.pv (I a b)] [] [] (.pv (Z (if ak a b then wr (b - a) else 0))):=by
 refine Dp Tryz.func108 ?_
 intro C hP hN
 simp only [Tryz.f108] at hN ⊢
 with_reducible repeat' (first|refine Sp.h ?_|((first|refine Ss.h ?_|refine Sc.h (gH _ _) ?_|(refine Sb.h ?_ ?_ ?_<;>(try intro hgd)<;>try exact Xy))<;>simp -implicitDefEqProofs (maxSteps:=2000000) [hP,hN])|refine X2 ?_ ?_|(refine Xd ?_ ?_<;>intro hcd<;>try exact Xx))
 all_goals (first|(simp_all;done)|((try simp_all)<;>(try omega)<;>grind))
theorem IW (a b : Int) : ab Tryz.prog 109 [.pv (I a b)] [] [] (.pv (Z (if ak a b then (wr (a+b)).fdiv 2 else 0))):=by
 refine Dp Tryz.func109 ?_
 intro C hP hN
 simp only [Tryz.f109] at hN ⊢
 with_reducible repeat' (first|refine Sp.h ?_|((first|refine Ss.h ?_|refine Sc.h (gH _ _) ?_|refine Sc.h (IU _ _ (by decide) (by decide)) ?_|(refine Sb.h ?_ ?_ ?_<;>(try intro hgd)<;>try exact Xy))<;>simp -implicitDefEqProofs (maxSteps:=2000000) [hP,hN])|refine X2 ?_ ?_|(refine Xd ?_ ?_<;>intro hcd<;>try exact Xx))
 all_goals (first|(simp_all;done)|((try simp_all)<;>(try omega)<;>grind))
theorem H4 (a b x : Int) : ab Tryz.prog 78 [.pv (I a b),.pv (Z x)] [] [] (.pv (B (ak a b && decide (a≤x) && decide (x≤b)))):=by
 refine Dp Tryz.func78 ?_
 intro C hP hN
 simp only [Tryz.f78] at hN ⊢
 with_reducible repeat' (first|refine Sp.h ?_|((first|refine Ss.h ?_|refine Sc.h (gH _ _) ?_|(refine Sb.h ?_ ?_ ?_<;>(try intro hgd)<;>try exact Xy))<;>simp -implicitDefEqProofs (maxSteps:=2000000) [hP,hN])|refine X2 ?_ ?_|(refine Xd ?_ ?_<;>intro hcd<;>try exact Xx))
 all_goals (first|(simp_all;done)|((try simp_all)<;>(try omega)<;>grind))
theorem Lc (a b x : Int) : ab Tryz.prog 88 [.pv (I a b),.pv (Z x)] [] [] (.pv (B (ak a b && decide (a≤x) && decide (x≤b)))):=by
 refine Dp Tryz.func88 ?_
 intro C hP hN
 simp only [Tryz.f88] at hN ⊢
 with_reducible repeat' (first|refine Sp.h ?_|((first|refine Ss.h ?_|refine Sc.h (kQ _ _) ?_|(refine Sb.h ?_ ?_ ?_<;>(try intro hgd)<;>try exact Xy))<;>simp -implicitDefEqProofs (maxSteps:=2000000) [hP,hN])|refine X2 ?_ ?_|(refine Xd ?_ ?_<;>intro hcd<;>try exact Xx))
 all_goals (first|(simp_all;done)|((try simp_all)<;>(try omega)<;>grind))
theorem FS (a b c d : Int) : ab Tryz.prog 143 [.pv (I a b),.pv (I c d)] [] [] (.pv (.tup (if ak a b && ak c d && decide (max a c≤min b d) then [I (max a c) (min b d),B true] else [I 0 0,B false]))):=by
 refine Dp Tryz.func143 ?_
 intro C hP hN
 simp only [Tryz.f143] at hN ⊢
 with_reducible repeat' (first|refine Sp.h ?_|((first|refine Ss.h ?_|refine Sc.h (uK _ _ _ _) ?_|(refine Sb.h ?_ ?_ ?_<;>(try intro hgd)<;>try exact Xy))<;>simp -implicitDefEqProofs (maxSteps:=2000000) [hP,hN])|refine X2 ?_ ?_|(refine Xd ?_ ?_<;>intro hcd<;>try exact Xx))
 all_goals (first|(simp_all;done)|((try simp_all)<;>(try omega)<;>grind))
theorem IX (a b c d : Int) : ab Tryz.prog 130 [.pv (I a b),.pv (I c d)] [] [] (.pv (.tup (if ak a b && ak c d && decide (max a c≤min b d) then [I (max a c) (min b d),B true] else [I 0 0,B false]))):=by
 refine Dp Tryz.func130 ?_
 intro C hP hN
 simp only [Tryz.f130] at hN ⊢
 with_reducible repeat' (first|refine Sp.h ?_|((first|refine Ss.h ?_|refine Sc.h (kQ _ _) ?_|(refine Sb.h ?_ ?_ ?_<;>(try intro hgd)<;>try exact Xy))<;>simp -implicitDefEqProofs (maxSteps:=2000000) [hP,hN])|refine X2 ?_ ?_|(refine Xd ?_ ?_<;>intro hcd<;>try exact Xx))
 all_goals (first|(simp_all;done)|((try simp_all)<;>(try omega)<;>grind))
end Go.Ab
namespace Go.Ab
open Go.Proofs
abbrev zs (xs : List Int) : PV:=.sl (xs.map Z)
abbrev iv (xs : List (Int × Int)) : PV:=.sl (xs.map av)
abbrev Fv (f : FuncId) : PV:=.val (.func (.func f) #[] #[])
theorem qK {n : Nat} (h : n≤16777216) : n≤9223372036854775807:=by omega
theorem ag {i n : Nat} (h : i < n) (hn : n≤9223372036854775807) : IntKind.i64.wrap ((i : Int)+1)=(i : Int)+1:=by rw [IntKind.wrap_i64];omega
def kU {α : Type} (p : α→Bool) (xs : List α) : Int:=match xs.findIdx? p with
 |some i=>i
 |none=>-1
theorem mv {α : Type} {p : α→Bool} {xs : List α} {i : Nat} (hlt : i < xs.length) (hq : ∀ j x,j < i→xs[j]?=some x→p x=false) (hp : p xs[i]=true) : kU p xs=i:=by
 have : xs.findIdx? p=some i:=by
  rw [List.findIdx?_eq_some_iff_getElem]
  refine ⟨hlt,hp,fun j hj=>?_⟩
  have hjl : j < xs.length:=by omega
  rw [hq j xs[j] hj (List.getElem?_eq_getElem hjl)];simp
 simp [kU,this]
theorem qL {α : Type} {p : α→Bool} {xs : List α} (hq : ∀ (j : Nat) x,xs[j]?=some x→p x=false) : kU p xs=-1:=by
 have : xs.findIdx? p=none:=by
  rw [List.findIdx?_eq_none_iff]
  intro x hx
  obtain ⟨j,hj,rfl⟩:=List.mem_iff_getElem.1 hx
  exact hq j _ (List.getElem?_eq_getElem hj)
 simp [kU,this]
theorem pt {α : Type} (p : α→Bool) (xs : List α) : decide (0≤kU p xs)=xs.any p:=by
 unfold kU
 cases h : xs.findIdx? p with
 |none=>
  rw [List.findIdx?_eq_none_iff] at h
  have : xs.any p=false:=by
   rw [List.any_eq_false];intro x hx;rw [h x hx];simp
  simp [this]
 |some i=>
  rw [List.findIdx?_eq_some_iff_getElem] at h
  obtain ⟨hl,hp,_⟩:=h
  have : xs.any p=true:=List.any_eq_true.2 ⟨xs[i],List.getElem_mem hl,hp⟩
  simp [this]
theorem lK {α : Type} {p : α→Bool} {xs : List α} {i : Nat} (hlt : i < xs.length) (hq : ∀ j x,j < i→xs[j]?=some x→p x=false) (hp : p xs[i]=false) : ∀ j x,j < i+1→xs[j]?=some x→p x=false:=by
 intro j x hj hx
 by_cases e : j=i
 ·subst e;rw [List.getElem?_eq_getElem hlt] at hx;injection hx with hx;subst hx;exact hp
 ·exact hq j x (by omega) hx
theorem sL {α : Type} {p : α→Bool} {xs : List α} {i : Nat} (hlt : ¬ i < xs.length) (hq : ∀ j x,j < i→xs[j]?=some x→p x=false) : ∀ (j : Nat) x,xs[j]?=some x→p x=false:=by
 intro j x hx
 have:=(List.getElem?_eq_some_iff.1 hx).1
 exact hq j x (by omega) hx
theorem IY (f : FuncId) (p : Int × Int→Bool) (xs : List (Int × Int)) (hl : xs.length≤9223372036854775807) (hf : ∀ x,ab Tryz.prog f [.pv (av x)] [] [] (.pv (B (p x)))) : ab Tryz.prog 167 [.pv (iv xs),.pv (Fv f)] [] [] (.pv (Z (kU p xs))):=by
 refine Dp Tryz.func167 ?_
 intro C hP hN
 simp only [Tryz.f167] at hN ⊢
 with_reducible repeat' (first|refine Sp.h ?_|((first|refine Ss.h ?_|(refine Sb.h ?_ ?_ ?_<;>(try intro hgd)<;>try exact Xy))<;>simp -implicitDefEqProofs (maxSteps:=2000000) [hP,hN])|refine X2 ?_ ?_|(refine Xd ?_ ?_<;>intro hcd<;>try exact Xx))
 refine WP.loopN [] xs.length (fun i st=>st.t 0=.pv (iv xs)∧st.t 1=.pv (Fv f)∧st.t 7=.pv (Z xs.length)∧st.t 8=.pv (Z i)∧∀ j x,j < i→xs[j]?=some x→p x=false) (by simp) ?_
 rintro i st hi ⟨h0,h1,h7,h8,hq⟩
 by_cases hlt : i < xs.length
 ·have hw:=ag hlt hl
  with_reducible repeat' (first|refine Sp.h ?_|((first|refine Ss.h ?_|refine Sc.h (hf _) ?_|(refine Sb.h ?_ ?_ ?_<;>(try intro hgd)<;>try exact Xy))<;>simp -implicitDefEqProofs (maxSteps:=2000000) [hP,hN,h0,h1,h7,h8,hlt,hw])|refine X2 ?_ ?_|(refine Xd ?_ ?_<;>intro hcd<;>try exact Xx))
  ·exact (mv hlt hq hcd).symm
  ·simpa using lK hlt hq hcd
 ·skip
  with_reducible repeat' (first|refine Sp.h ?_|((first|refine Ss.h ?_|(refine Sb.h ?_ ?_ ?_<;>(try intro hgd)<;>try exact Xy))<;>simp -implicitDefEqProofs (maxSteps:=2000000) [hP,hN,h0,h1,h7,h8,hlt])|refine X2 ?_ ?_|(refine Xd ?_ ?_<;>intro hcd<;>try exact Xx))
  exact (qL (sL hlt hq)).symm
theorem FT (f : FuncId) (p : Int × Int→Bool) (xs : List (Int × Int)) (hl : xs.length≤9223372036854775807) (hf : ∀ x,ab Tryz.prog f [.pv (av x)] [] [] (.pv (B (p x)))) : ab Tryz.prog 138 [.pv (iv xs),.pv (Fv f)] [] [] (.pv (B (xs.any p))):=by
 refine Dp Tryz.func138 ?_
 intro C hP hN
 simp only [Tryz.f138] at hN ⊢
 with_reducible repeat' (first|refine Sp.h ?_|((first|refine Ss.h ?_|refine Sc.h (IY _ _ _ hl hf) ?_|(refine Sb.h ?_ ?_ ?_<;>(try intro hgd)<;>try exact Xy))<;>simp -implicitDefEqProofs (maxSteps:=2000000) [hP,hN])|refine X2 ?_ ?_|(refine Xd ?_ ?_<;>intro hcd<;>try exact Xx))
 all_goals (first|(simp_all [pt];done)|((try simp_all [pt])<;>(try omega)<;>grind))
def aL {α : Type} (p : α→Bool) (xs : List α) : Bool:=xs.all p
theorem zE {α : Type} (p : α→Bool) (xs : List α) : (xs.any fun x=>!p x)=!aL p xs:=by simp [aL,List.any_eq_not_all_not]
abbrev vI (x : Int × Int) : Bool:=ak x.1 x.2
theorem IZ (x : Int × Int) : ab Tryz.prog 139 [.pv (av x)] [] [] (.pv (B (!ak x.1 x.2))):=by
 refine Dp Tryz.func139 ?_
 intro C hP hN
 simp only [Tryz.f139] at hN ⊢
 with_reducible repeat' (first|refine Sp.h ?_|((first|refine Ss.h ?_|refine Sc.h (gH _ _) ?_|(refine Sb.h ?_ ?_ ?_<;>(try intro hgd)<;>try exact Xy))<;>simp -implicitDefEqProofs (maxSteps:=2000000) [hP,hN])|refine X2 ?_ ?_|(refine Xd ?_ ?_<;>intro hcd<;>try exact Xx))
 all_goals (first|(simp_all;done)|((try simp_all)<;>(try omega)<;>grind))
theorem xi (xs : List (Int × Int)) (hl : xs.length≤9223372036854775807) : ab Tryz.prog 107 [.pv (iv xs)] [] [] (.pv (B (aL vI xs))):=by
 refine Dp Tryz.func107 ?_
 intro C hP hN
 simp only [Tryz.f107] at hN ⊢
 with_reducible repeat' (first|refine Sp.h ?_|((first|refine Ss.h ?_|refine Sc.h (FT _ _ _ hl IZ) ?_|(refine Sb.h ?_ ?_ ?_<;>(try intro hgd)<;>try exact Xy))<;>simp -implicitDefEqProofs (maxSteps:=2000000) [hP,hN,zE vI xs])|refine X2 ?_ ?_|(refine Xd ?_ ?_<;>intro hcd<;>try exact Xx))
 all_goals (first|(simp_all;done)|((try simp_all)<;>(try omega)<;>grind))
def BB (x : Int) : Bool:=decide (-2147483648≤x) && decide (x≤2147483648)
end Go.Ab
namespace Go.Ab
open Go.Proofs
theorem C7 {T L : List PV} {i : Nat} {v : PV} (hlen : L.length=T.length) (h : ∀ j,j < i→L[j]?=T[j]?) (hv : T[i]?=some v) : ∀ j,j < i+1→(L.set i v)[j]?=T[j]?:=by
 intro j hj
 have hi : i < T.length:=(List.getElem?_eq_some_iff.1 hv).1
 by_cases e : j=i
 ·subst e;rw [hv,List.getElem?_set_self (by omega)]
 ·rw [List.getElem?_set_ne (by omega)];exact h j (by omega)
theorem C8 {T L : List PV} {i : Nat} (hlen : L.length=T.length) (h : ∀ j,j < i→L[j]?=T[j]?) (hi : T.length≤i) : L=T:=by
 apply List.ext_getElem?
 intro j
 by_cases e : j < i
 ·exact h j e
 ·rw [List.getElem?_eq_none (by omega),List.getElem?_eq_none (by omega)]
end Go.Ab
namespace Go.Ab
open Go.Proofs
theorem nB {α : Type} {p : α→Bool} {xs : List α} {i : Nat} (hlt : i < xs.length) (hp : p xs[i]=false) : aL p xs=false:=by
 rw [aL,List.all_eq_false];exact ⟨xs[i],List.getElem_mem hlt,by simp [hp]⟩
theorem mW {α : Type} {p : α→Bool} {xs : List α} {i : Nat} (hlt : i < xs.length) (h : aL p (xs.take i)=true) (hp : p xs[i]=true) : aL p (xs.take (i+1))=true:=by
 unfold aL at *;rw [List.take_succ_eq_append_getElem hlt,List.all_append,h];simp [hp]
theorem mX {α : Type} {p : α→Bool} {xs : List α} {i : Nat} (hlt : ¬ i < xs.length) (h : aL p (xs.take i)=true) : aL p xs=true:=by
 rwa [List.take_of_length_le (by omega)] at h
theorem wj {α β : Type} {f : α→β} {xs : List α} {i : Nat} (hlt : i < xs.length) : (xs.map f).take i++[f xs[i]]=(xs.map f).take (i+1):=by
 rw [List.take_succ_eq_append_getElem (by simpa using hlt)];simp
theorem BC {α : Type} {xs : List α} {i n : Nat} (hn : xs.length=n) (hi : ¬ i < n) : xs.take i=xs:=List.take_of_length_le (by omega)
def dF {α β : Type} (f : α→β→Bool) (xs : List α) (ys : List β) : Bool:=(List.zipWith f xs ys).all id
def dN {α β : Type} (f : α→β→Bool) (xs : List α) (ys : List β) (i : Nat) : Bool:=((List.zipWith f xs ys).take i).all id
theorem gw {α β : Type} {f : α→β→Bool} {xs : List α} {ys : List β} {i : Nat} (hlt : i < xs.length) (hlt' : i < ys.length) (hp : f xs[i] ys[i]=false) : dF f xs ys=false:=
 nB (p:=id) (xs:=List.zipWith f xs ys) (i:=i) (by simp;omega) (by simpa using hp)
theorem im {α β : Type} {f : α→β→Bool} {xs : List α} {ys : List β} {i : Nat} (hlt : i < xs.length) (hlt' : i < ys.length) (h : dN f xs ys i=true) (hp : f xs[i] ys[i]=true) : dN f xs ys (i+1)=true:=
 mW (p:=id) (xs:=List.zipWith f xs ys) (i:=i) (by simp;omega) h (by simpa using hp)
theorem io {α β : Type} {f : α→β→Bool} {xs : List α} {ys : List β} {i : Nat} (hlt : ¬ i < xs.length) (h : dN f xs ys i=true) : dF f xs ys=true:=
 mX (p:=id) (xs:=List.zipWith f xs ys) (i:=i) (by simp;omega) h
theorem ip (xs : List (Int × Int)) (hl : xs.length≤9223372036854775807) : ab Tryz.prog 87 [.pv (iv xs)] [] [] (.pv (B (aL vI xs))):=by
 refine Dp Tryz.func87 ?_
 intro C hP hN
 simp only [Tryz.f87] at hN ⊢
 with_reducible repeat' (first|refine Sp.h ?_|((first|refine Ss.h ?_|(refine Sb.h ?_ ?_ ?_<;>(try intro hgd)<;>try exact Xy))<;>simp -implicitDefEqProofs (maxSteps:=2000000) [hP,hN])|refine X2 ?_ ?_|(refine Xd ?_ ?_<;>intro hcd<;>try exact Xx))
 refine WP.loopN [] xs.length (fun i st=>st.t 0=.pv (iv xs)∧st.t 3=.pv (Z i)∧aL vI (xs.take i)=true) (by simp [aL]) ?_
 rintro i st hi ⟨h0,h1,hq⟩
 by_cases hlt : i < xs.length
 ·have hw:=ag hlt hl
  have hF : vI xs[i]=false→aL vI xs=false:=nB hlt
  have hS : vI xs[i]=true→aL vI (xs.take (i+1))=true:=mW hlt hq
  with_reducible repeat' (first|refine Sp.h ?_|((first|refine Ss.h ?_|refine Sc.h (kQ _ _) ?_|(refine Sb.h ?_ ?_ ?_<;>(try intro hgd)<;>try exact Xy))<;>simp -implicitDefEqProofs (maxSteps:=2000000) [hP,hN,h0,h1,hlt,hw])|refine X2 ?_ ?_|(refine Xd ?_ ?_<;>intro hcd<;>try exact Xx))
  all_goals first|(rw [hF];simp_all [BB];try omega)|(rw [hS];simp_all [BB];try omega)
 ·skip
  with_reducible repeat' (first|refine Sp.h ?_|((first|refine Ss.h ?_|(refine Sb.h ?_ ?_ ?_<;>(try intro hgd)<;>try exact Xy))<;>simp -implicitDefEqProofs (maxSteps:=2000000) [hP,hN,h0,h1,hlt])|refine X2 ?_ ?_|(refine Xd ?_ ?_<;>intro hcd<;>try exact Xx))
  simp [mX hlt hq]
def dG (x y : Int × Int) : Bool:=ak x.1 x.2 && ak y.1 y.2 && decide (y.1≤x.1) && decide (x.2≤y.2)
def kw (x : Int × Int) (c : Int) : Bool:=ak x.1 x.2 && decide (x.1≤c) && decide (c≤x.2)
def kf (xs ys : List (Int × Int)) : Bool:=aL vI xs && aL vI ys && decide (xs.length=ys.length) && dF dG xs ys
def sM (xs : List (Int × Int)) (ys : List Int) : Bool:=aL vI xs && decide (xs.length=ys.length) && dF kw xs ys
theorem Ld (xs : List (Int × Int)) (ys : List (Int × Int)) (hl : xs.length≤9223372036854775807) (hm : ys.length≤9223372036854775807) : ab Tryz.prog 81 [.pv (iv xs),.pv (iv ys)] [] [] (.pv (B (kf xs ys))):=by
 refine Dp Tryz.func81 ?_
 intro C hP hN
 simp only [Tryz.f81] at hN ⊢
 cases hv : aL vI xs with
 |false=>
  with_reducible repeat' (first|refine Sp.h ?_|((first|refine Wd ?_|refine Ss.h ?_|refine Sc.h (ip _ hl) ?_|refine Sc.h (ip _ hm) ?_|(refine Sb.h ?_ ?_ ?_<;>(try intro hgd)<;>try exact Xy))<;>simp -implicitDefEqProofs (maxSteps:=2000000) [hP,hN,hv]<;>try refine Ya ?_)|refine X2 ?_ ?_|(refine Xd ?_ ?_<;>intro hcd<;>try exact Xx))
  all_goals simp [kf,hv]
 |true=>
  cases hu : aL vI ys with
  |false=>
   with_reducible repeat' (first|refine Sp.h ?_|((first|refine Wd ?_|refine Ss.h ?_|refine Sc.h (ip _ hl) ?_|refine Sc.h (ip _ hm) ?_|(refine Sb.h ?_ ?_ ?_<;>(try intro hgd)<;>try exact Xy))<;>simp -implicitDefEqProofs (maxSteps:=2000000) [hP,hN,hv,hu]<;>try refine Ya ?_)|refine X2 ?_ ?_|(refine Xd ?_ ?_<;>intro hcd<;>try exact Xx))
   all_goals simp [kf,hv,hu]
  |true=>
   by_cases he : xs.length=ys.length
   ·skip
    with_reducible repeat' (first|refine Sp.h ?_|((first|refine Wd ?_|refine Ss.h ?_|refine Sc.h (ip _ hl) ?_|refine Sc.h (ip _ hm) ?_|(refine Sb.h ?_ ?_ ?_<;>(try intro hgd)<;>try exact Xy))<;>simp -implicitDefEqProofs (maxSteps:=2000000) [hP,hN,hv,hu,he]<;>try refine Ya ?_)|refine X2 ?_ ?_|(refine Xd ?_ ?_<;>intro hcd<;>try exact Xx))
    refine WP.loopN [] xs.length (fun i st=>st.t 0=.pv (iv xs)∧st.t 1=.pv (iv ys)∧st.t 5=.pv (Z i)∧dN dG xs ys i=true) (by simp [dN]) ?_
    rintro i st hi ⟨h0,h1,h2,hq⟩
    by_cases hlt : i < xs.length
    ·have hw:=ag hlt hl
     have hlt' : i < ys.length:=by omega
     have hF : dG xs[i] ys[i]=false→dF dG xs ys=false:=gw hlt hlt'
     have hS : dG xs[i] ys[i]=true→dN dG xs ys (i+1)=true:=im hlt hlt' hq
     with_reducible repeat' (first|refine Sp.h ?_|((first|refine Wd ?_|refine Ss.h ?_|refine Sc.h (IR _ _ _ _) ?_|(refine Sb.h ?_ ?_ ?_<;>(try intro hgd)<;>try exact Xy))<;>simp -implicitDefEqProofs (maxSteps:=2000000) [hP,hN,h0,h1,h2,hlt,hlt',hw]<;>try refine Ya ?_)|refine X2 ?_ ?_|(refine Xd ?_ ?_<;>intro hcd<;>try exact Xx))
     all_goals first|(rw [kf,hF (by simp only [dG]<;>grind)];simp;done)|(rw [hS (by simp only [dG]<;>grind)];done)
    ·have hlt' : ¬ i < ys.length:=by omega
     with_reducible repeat' (first|refine Sp.h ?_|((first|refine Wd ?_|refine Ss.h ?_|(refine Sb.h ?_ ?_ ?_<;>(try intro hgd)<;>try exact Xy))<;>simp -implicitDefEqProofs (maxSteps:=2000000) [hP,hN,h0,h1,h2,hlt,hlt']<;>try refine Ya ?_)|refine X2 ?_ ?_|(refine Xd ?_ ?_<;>intro hcd<;>try exact Xx))
     all_goals simp [kf,hv,hu,he,io hlt hq]
   ·skip
    with_reducible repeat' (first|refine Sp.h ?_|((first|refine Wd ?_|refine Ss.h ?_|refine Sc.h (ip _ hl) ?_|refine Sc.h (ip _ hm) ?_|(refine Sb.h ?_ ?_ ?_<;>(try intro hgd)<;>try exact Xy))<;>simp -implicitDefEqProofs (maxSteps:=2000000) [hP,hN,hv,hu,he]<;>try refine Ya ?_)|refine X2 ?_ ?_|(refine Xd ?_ ?_<;>intro hcd<;>try exact Xx))
    all_goals simp [kf,hv,hu,he]
theorem vu (xs : List (Int × Int)) (ys : List (Int)) (hl : xs.length≤9223372036854775807) (hm : ys.length≤9223372036854775807) : ab Tryz.prog 57 [.pv (iv xs),.pv (zs ys)] [] [] (.pv (B (sM xs ys))):=by
 refine Dp Tryz.func57 ?_
 intro C hP hN
 simp only [Tryz.f57] at hN ⊢
 cases hv : aL vI xs with
 |false=>
  with_reducible repeat' (first|refine Sp.h ?_|((first|refine Wd ?_|refine Ss.h ?_|refine Sc.h (ip _ hl) ?_|(refine Sb.h ?_ ?_ ?_<;>(try intro hgd)<;>try exact Xy))<;>simp -implicitDefEqProofs (maxSteps:=2000000) [hP,hN,hv]<;>try refine Ya ?_)|refine X2 ?_ ?_|(refine Xd ?_ ?_<;>intro hcd<;>try exact Xx))
  all_goals simp [sM,hv]
 |true=>
  by_cases he : xs.length=ys.length
  ·skip
   with_reducible repeat' (first|refine Sp.h ?_|((first|refine Wd ?_|refine Ss.h ?_|refine Sc.h (ip _ hl) ?_|(refine Sb.h ?_ ?_ ?_<;>(try intro hgd)<;>try exact Xy))<;>simp -implicitDefEqProofs (maxSteps:=2000000) [hP,hN,hv,he]<;>try refine Ya ?_)|refine X2 ?_ ?_|(refine Xd ?_ ?_<;>intro hcd<;>try exact Xx))
   refine WP.loopN [] xs.length (fun i st=>st.t 0=.pv (iv xs)∧st.t 1=.pv (zs ys)∧st.t 5=.pv (Z i)∧dN kw xs ys i=true) (by simp [dN]) ?_
   rintro i st hi ⟨h0,h1,h2,hq⟩
   by_cases hlt : i < xs.length
   ·have hw:=ag hlt hl
    have hlt' : i < ys.length:=by omega
    have hF : kw xs[i] ys[i]=false→dF kw xs ys=false:=gw hlt hlt'
    have hS : kw xs[i] ys[i]=true→dN kw xs ys (i+1)=true:=im hlt hlt' hq
    with_reducible repeat' (first|refine Sp.h ?_|((first|refine Wd ?_|refine Ss.h ?_|refine Sc.h (Lc _ _ _) ?_|(refine Sb.h ?_ ?_ ?_<;>(try intro hgd)<;>try exact Xy))<;>simp -implicitDefEqProofs (maxSteps:=2000000) [hP,hN,h0,h1,h2,hlt,hlt',hw]<;>try refine Ya ?_)|refine X2 ?_ ?_|(refine Xd ?_ ?_<;>intro hcd<;>try exact Xx))
    all_goals first|(rw [sM,hF (by simp only [kw]<;>grind)];simp;done)|(rw [hS (by simp only [kw]<;>grind)];done)
   ·have hlt' : ¬ i < ys.length:=by omega
    with_reducible repeat' (first|refine Sp.h ?_|((first|refine Wd ?_|refine Ss.h ?_|(refine Sb.h ?_ ?_ ?_<;>(try intro hgd)<;>try exact Xy))<;>simp -implicitDefEqProofs (maxSteps:=2000000) [hP,hN,h0,h1,h2,hlt,hlt']<;>try refine Ya ?_)|refine X2 ?_ ?_|(refine Xd ?_ ?_<;>intro hcd<;>try exact Xx))
    all_goals simp [sM,hv,he,io hlt hq]
  ·skip
   with_reducible repeat' (first|refine Sp.h ?_|((first|refine Wd ?_|refine Ss.h ?_|refine Sc.h (ip _ hl) ?_|(refine Sb.h ?_ ?_ ?_<;>(try intro hgd)<;>try exact Xy))<;>simp -implicitDefEqProofs (maxSteps:=2000000) [hP,hN,hv,he]<;>try refine Ya ?_)|refine X2 ?_ ?_|(refine Xd ?_ ?_<;>intro hcd<;>try exact Xx))
   all_goals simp [sM,hv,he]
def mY {α : Type} [DecidableEq α] (x y : α) : Bool:=decide (x=y)
def jm {α : Type} [DecidableEq α] (xs ys : List α) : Bool:=decide (xs.length=ys.length) && dF mY xs ys
end Go.Ab
namespace Go.Ab
open Go.Proofs
end Go.Ab
namespace Go.Ab
open Go.Proofs
def cX (x : Int × Int) : Int:=if ak x.1 x.2 then wr (x.2 - x.1) else 0
def gg (x : Int × Int) : Int:=if ak x.1 x.2 then (wr (x.1+x.2)).fdiv 2 else 0
def aX (xs : List (Int × Int)) (j : Int) : Bool:=decide (0≤j) && aL vI xs && (match xs[j.toNat]? with|some x=>decide (2≤cX x)|none=>false)
def bw (xs : List (Int × Int)) (j : Int) : List (Int × Int):=if aX xs j then (match xs[j.toNat]? with|some x=>xs.set j.toNat (x.1,gg x)|none=>[]) else []
def bz (xs : List (Int × Int)) (j : Int) : List (Int × Int):=if aX xs j then (match xs[j.toNat]? with|some x=>xs.set j.toNat (gg x,x.2)|none=>[]) else []
theorem H5 (xs : List (Int × Int)) (j : Int) (hl : xs.length≤16777216) : ab Tryz.prog 75 [.pv (iv xs),.pv (Z j)] [] [] (.pv (.tup [iv (bw xs j),iv (bz xs j),B (aX xs j)])):=by
 refine Dp Tryz.func75 ?_
 intro C hP hN
 simp only [Tryz.f75] at hN ⊢
 by_cases hj : 0≤j
 ·obtain ⟨n,rfl⟩:=Int.eq_ofNat_of_zero_le hj
  by_cases hlt : n < xs.length
  ·cases hv : aL vI xs with
   |false=>
    with_reducible repeat' (first|refine Sp.h ?_|((first|refine Wd ?_|refine Ss.h ?_|refine Sc.h (xi _ (qK hl)) ?_|(refine Sb.h ?_ ?_ ?_<;>(try intro hgd)<;>try exact Xy))<;>simp -implicitDefEqProofs (maxSteps:=2000000) [hP,hN,hlt,hv]<;>try refine Ya ?_)|refine X2 ?_ ?_|(refine Xd ?_ ?_<;>intro hcd<;>try exact Xx))
    all_goals simp [bw,bz,aX,hv]
   |true=>
    have hx:=List.getElem?_eq_getElem hlt
    generalize hxx : xs[n]=x at hx
    by_cases hwd : cX x < 2
    ·have hwd':=hwd
     simp only [cX] at hwd'
     with_reducible repeat' (first|refine Sp.h ?_|((first|refine Wd ?_|refine Ss.h ?_|refine Sc.h (xi _ (qK hl)) ?_|refine Sc.h (sK _ _) ?_|(refine Sb.h ?_ ?_ ?_<;>(try intro hgd)<;>try exact Xy))<;>simp -implicitDefEqProofs (maxSteps:=2000000) [hP,hN,hlt,hv,hx,hxx,hwd']<;>try refine Ya ?_)|refine X2 ?_ ?_|(refine Xd ?_ ?_<;>intro hcd<;>try exact Xx))
     all_goals simp [bw,bz,aX,hv,hx,Int.not_le.2 hwd]
    ·have hwd':=hwd
     simp only [cX] at hwd'
     with_reducible repeat' (first|refine Sp.h ?_|((first|refine Wd ?_|refine Ss.h ?_|refine Sc.h (xi _ (qK hl)) ?_|refine Sc.h (sK _ _) ?_|refine Sc.h (IW _ _) ?_|(refine Sb.h ?_ ?_ ?_<;>(try intro hgd)<;>try exact Xy))<;>simp -implicitDefEqProofs (maxSteps:=2000000) [hP,hN,hlt,hv,hx,hxx,hwd',show (16 : Int) * xs.length≤281474976710656 by omega,show (xs.length : Int)≤9223372036854775807 by omega]<;>try refine Ya ?_)|refine X2 ?_ ?_|(refine Xd ?_ ?_<;>intro hcd<;>try exact Xx))
     have hok : aX xs (n : Int)=true:=by simp [aX,hv,hx,Int.not_lt.1 hwd]
     have ht : List.take xs.length (List.map av xs)=List.map av xs:=List.take_of_length_le (by simp)
     simp [bw,bz,hok,hx,ht,List.map_set,gg]
  ·skip
   with_reducible repeat' (first|refine Sp.h ?_|((first|refine Wd ?_|refine Ss.h ?_|refine Sc.h (xi _ (qK hl)) ?_|(refine Sb.h ?_ ?_ ?_<;>(try intro hgd)<;>try exact Xy))<;>simp -implicitDefEqProofs (maxSteps:=2000000) [hP,hN,hlt]<;>try refine Ya ?_)|refine X2 ?_ ?_|(refine Xd ?_ ?_<;>intro hcd<;>try exact Xx))
   all_goals (have hx : xs[n]?=none:=List.getElem?_eq_none (by omega));simp [bw,bz,aX,hx]
 ·skip
  with_reducible repeat' (first|refine Sp.h ?_|((first|refine Wd ?_|refine Ss.h ?_|refine Sc.h (xi _ (qK hl)) ?_|(refine Sb.h ?_ ?_ ?_<;>(try intro hgd)<;>try exact Xy))<;>simp -implicitDefEqProofs (maxSteps:=2000000) [hP,hN,hj,show j < 0 by omega]<;>try refine Ya ?_)|refine X2 ?_ ?_|(refine Xd ?_ ?_<;>intro hcd<;>try exact Xx))
  all_goals simp [bw,bz,aX,hj]
end Go.Ab
namespace Go.Ab
open Go.Proofs
def nx (l : List Int) (n : Nat) (k : Int) : Int:=match l[n]? with
 |some x=>lJ x k
 |none=>0
def nn (l : List Int) (n : Nat) : Nat:=if n < l.length then n+1 else n
abbrev pu (l : List Int) (n : Nat) : List PV:=[zs l,Z n]
theorem H6 (l : List Int) : ab Tryz.prog 17 [.pv (zs l)] [] [] (.box (pu l 0)):=by
 refine Dp Tryz.func17 ?_
 intro C hP hN
 simp only [Tryz.f17] at hN ⊢
 with_reducible repeat' (first|refine Sp.h ?_|((first|refine Ss.h ?_|(refine Sb.h ?_ ?_ ?_<;>(try intro hgd)<;>try exact Xy))<;>simp -implicitDefEqProofs (maxSteps:=2000000) [hP,hN])|refine X2 ?_ ?_|(refine Xd ?_ ?_<;>intro hcd<;>try exact Xx))
 all_goals (first|(simp_all;done)|((try simp_all)<;>(try omega)<;>grind))
theorem iD (l : List Int) (n : Nat) : nn l n≤n+1:=by unfold nn;split<;>omega
theorem tS (l : List Int) (n : Nat) (k : Int) (hk : k≠0) (hn : n < 1000000) : ab Tryz.prog 18 [.bx 0,.pv (Z k)] [pu l n] [pu l (nn l n)] (.pv (Z (nx l n k))):=by
 have hw : IntKind.i64.wrap ((n : Int)+1)=(n : Int)+1:=by rw [IntKind.wrap_i64];omega
 have hw' : IntKind.i64.wrap (n : Int)=n:=by rw [IntKind.wrap_i64];omega
 refine zy Tryz.func18 rfl (by kernel_rfl) (by simp [Tryz.f18]) rfl (by intro i j h;rcases i with _|_|_|i<;>simp_all) ?_
 intro C hP hN
 simp only [Tryz.f18] at hN ⊢
 by_cases hlt : n < l.length
 ·skip
  with_reducible repeat' (first|refine Sp.h ?_|((first|refine Wd ?_|refine Ss.h ?_|refine Sc.h (H3 _ _ hk) ?_|(refine Sb.h ?_ ?_ ?_<;>(try intro hgd)<;>try exact Xy))<;>simp -implicitDefEqProofs (maxSteps:=2000000) [hP,hN,pu,hlt,hw,hw',Nat.not_le.2 hlt]<;>try refine Ya ?_)|refine X2 ?_ ?_|(refine Xd ?_ ?_<;>intro hcd<;>try exact Xx))
  simp [nn,nx,hlt]
 ·skip
  with_reducible repeat' (first|refine Sp.h ?_|((first|refine Wd ?_|refine Ss.h ?_|(refine Sb.h ?_ ?_ ?_<;>(try intro hgd)<;>try exact Xy))<;>simp -implicitDefEqProofs (maxSteps:=2000000) [hP,hN,pu,hlt,Nat.not_lt.1 hlt]<;>try refine Ya ?_)|refine X2 ?_ ?_|(refine Xd ?_ ?_<;>intro hcd<;>try exact Xx))
  simp [nn,nx,hlt]
theorem jc (l : List Int) (n : Nat) {k : Int} (hk : 0 < k) (hk' : k < 4611686018427387904) : 0≤nx l n k∧nx l n k < k:=by
 unfold nx
 split
 ·rename_i x _
  have h1 : -k < x.tmod k:=by have:=Int.lt_tmod_of_pos x hk;omega
  have h2 : x.tmod k < k:=Int.tmod_lt_of_pos x hk
  unfold lJ
  split
  ·rw [aa (by omega) (by omega)];omega
  ·omega
 ·omega
def uL (i : Nat) : ByteArray:=⟨#[UInt8.ofNat (97+i)]⟩
abbrev tT : Value:=.string ⟨#[97,98,99,100,101,102,103,104,105,106]⟩
def tU (i : Nat) : Operand→AV:=fun x=>match x with
 |.tmp 3=>.pv (Z i)
 |.tmp 5=>.pv (Z ((i : Int)+1))
 |_=>.pv (.val tT)
section
variable {dst : Option Nat} {ty : TypeId} {pos : String} {aft : Array Edge} {g : Option (Nat × Bool)} {ρ : Operand→AV}
theorem EV : aT Tryz.prog ⟨dst,.slice 9 (.const tT) (some (.tmp 3)) (some (.tmp 5)) none,ty,pos,aft,g⟩ (tU 0)=some (.pv (.val (.string (uL 0))),[]):=by kernel_rfl
theorem EW : aT Tryz.prog ⟨dst,.slice 9 (.const tT) (some (.tmp 3)) (some (.tmp 5)) none,ty,pos,aft,g⟩ (tU 1)=some (.pv (.val (.string (uL 1))),[]):=by kernel_rfl
theorem EX : aT Tryz.prog ⟨dst,.slice 9 (.const tT) (some (.tmp 3)) (some (.tmp 5)) none,ty,pos,aft,g⟩ (tU 2)=some (.pv (.val (.string (uL 2))),[]):=by kernel_rfl
theorem Hu (i : Nat) (h3 : i < 3) (hc : ρ (.const tT)=.pv (.val tT)) (hx : ρ (.tmp 3)=.pv (Z i)) (hy : ρ (.tmp 5)=.pv (Z ((i : Int)+1))) :
 aT Tryz.prog ⟨dst,.slice 9 (.const tT) (some (.tmp 3)) (some (.tmp 5)) none,ty,pos,aft,g⟩ ρ=some (.pv (.val (.string (uL i))),[]):=by
 have h : aT Tryz.prog ⟨dst,.slice 9 (.const tT) (some (.tmp 3)) (some (.tmp 5)) none,ty,pos,aft,g⟩ ρ=aT Tryz.prog ⟨dst,.slice 9 (.const tT) (some (.tmp 3)) (some (.tmp 5)) none,ty,pos,aft,g⟩ (tU i):=by
  refine ku (by intro _ _ h;cases h) ?_
  intro x hx'
  simp [Op.operands] at hx'
  rcases hx' with rfl|rfl|rfl
  ·exact hc
  ·exact hx
  ·exact hy
 rw [h]
 have : i=0∨i=1∨i=2:=by omega
 rcases this with rfl|rfl|rfl
 ·exact EV
 ·exact EW
 ·exact EX
end
theorem H7 (i : Nat) (h3 : i < 3) : ab Tryz.prog 48 [.pv (Z i)] [] [] (.pv (.val (.string (uL i)))):=by
 have hw : IntKind.i64.wrap ((i : Int)+1)=(i : Int)+1:=by rw [IntKind.wrap_i64];omega
 refine Dp Tryz.func48 ?_
 intro C hP hN
 simp only [Tryz.f48] at hN ⊢
 with_reducible repeat' (first|refine Sp.h ?_|((first|refine Ss.h ?_|(refine Sb.h ?_ ?_ ?_<;>(try intro hgd)<;>try exact Xy))<;>simp -implicitDefEqProofs (maxSteps:=2000000) [hP,hN,hw])|refine X2 ?_ ?_|(refine Xd ?_ ?_<;>intro hcd<;>try exact Xx))
 rw [Hu i h3 rfl (by simp) (by simp)]
 simp [hP,hN]
 with_reducible repeat' (first|refine Sp.h ?_|((first|refine Ss.h ?_|(refine Sb.h ?_ ?_ ?_<;>(try intro hgd)<;>try exact Xy))<;>simp -implicitDefEqProofs (maxSteps:=2000000) [hP,hN,hw])|refine X2 ?_ ?_|(refine Xd ?_ ?_<;>intro hcd<;>try exact Xx))
end Go.Ab
namespace Go.Ab
open Go.Proofs
structure J where
 name : ByteArray
 kind : Int
 parent : Int
 ox : Int
 oy : Int
 oz : Int
 lo : Int
 hi : Int
 w : Int
 sp : Int
 ac : Int
 tq : Int
abbrev bq (j : J) : PV:=.val (.agg #[.string j.name,.int .i64 j.kind,.int .i64 j.parent,.int .i64 j.ox,.int .i64 j.oy,.int .i64 j.oz,.int .i64 j.lo,.int .i64 j.hi,.int .i64 j.w,.int .i64 j.sp,.int .i64 j.ac,.int .i64 j.tq])
end Go.Ab
namespace Go.Ab
open Go.Proofs
structure Ms where
 link : Int
 mass : Int
 px : Int
 py : Int
 pz : Int
abbrev bX (m : Ms) : PV:=.val (.agg #[.int .i64 m.link,.int .i64 m.mass,.int .i64 m.px,.int .i64 m.py,.int .i64 m.pz])
abbrev od : AV:=.pv (.val (.slice none 0 0))
abbrev eU (js : List J) (ms : List Ms) : PV:=.agg [.sl (js.map bq),.sl (ms.map bX)]
end Go.Ab
namespace Go.Ab
open Go.Proofs
def wo (l : List Int) (m : Nat) : Nat:=if nx l m 6=0 then nn l m else if nx l m 6=1 then nn l m else nn l (nn l m)
def oE (l : List Int) : Nat→Nat
 |0=>0
 |i+1=>wo l (oE l i)
theorem FU (l : List Int) (i : Nat) : oE l i≤2 * i:=by
 induction i with
 |zero=>simp [oE]
 |succ i ih=>
  have l1:=iD l (oE l i)
  have l2:=iD l (nn l (oE l i))
  simp only [oE,wo];split
  ·omega
  ·split<;>omega
def C9 (l : List Int) (m : Nat) (lo hi : Int) : Int:=if nx l m 6=0 then lo else if nx l m 6=1 then hi else wr (lo+nx l (nn l m) (hi - lo+1))
def jU (l : List Int) (js : List J) : List Int:=js.mapIdx fun i j=>C9 l (oE l i) j.lo j.hi
def zF (j : J) : Prop:=-1000000≤j.lo∧j.lo≤j.hi∧j.hi≤1000000
theorem Da {l : List Int} {js : List J} {i : Nat} (hlt : i < js.length) : ((jU l js).map Z).take i++[Z (C9 l (oE l i) js[i].lo js[i].hi)]=((jU l js).map Z).take (i+1):=by
 rw [List.take_succ_eq_append_getElem (by simpa [jU] using hlt)];simp [jU]
theorem d8 (l : List Int) (js : List J) (ms : List Ms) (hl : js.length≤1000) (hj : ∀ j ∈ js,zF j) : ab Tryz.prog 8 [.pv (eU js ms),.pv (zs l)] [] [] (.pv (zs (jU l js))):=by
 refine Dp Tryz.func8 ?_
 intro C hP hN
 simp only [Tryz.f8] at hN ⊢
 with_reducible repeat' (first|refine Sp.h ?_|((first|refine Wh [6] ?_|refine Wi [6] ?_|refine Ss.h ?_|refine Sc.h (H6 _) ?_|(refine Sb.h ?_ ?_ ?_<;>(try intro hgd)<;>try exact Xy))<;>simp -implicitDefEqProofs (maxSteps:=2000000) [hP,hN,pu]<;>try refine Ya ?_)|refine X2 ?_ ?_|(refine Xd ?_ ?_<;>intro hcd<;>try exact Xx))
 refine WP.loopN [] js.length (fun i st=>st.t 2=.ptr 2 0∧st.t 5=.ptr 11 0∧st.t 6=.arr 6 i∧st.t 7=.pv (Z i)∧st.h 2=some (.box [.pv (.sl (js.map bq)),.pv (.sl (ms.map bX))] true false)∧
  st.h 11=some (.box [.pv (zs l),.pv (Z (oE l i))] true false)∧st.h 6=some (.row 2 1 (((jU l js).map Z).take i) 0)) (by simp [oE]) ?_
 rintro i st hi ⟨h2,h5,h6,h7,hb2,hb11,hb6⟩
 have hzT : min i (jU l js).length=i:=by simp [jU];omega
 by_cases hlt : i < js.length
 ·have hw : IntKind.i64.wrap ((i : Int)+1)=(i : Int)+1:=by rw [IntKind.wrap_i64];omega
  have hm:=FU l i
  have l1:=iD l (oE l i)
  have hs:=Da (l:=l) hlt
  have hok:=hj js[i] (List.getElem_mem hlt)
  have hw2 : IntKind.i64.wrap (js[i].hi - js[i].lo)=js[i].hi - js[i].lo:=by unfold zF at hok;rw [IntKind.wrap_i64];omega
  have hw3 : IntKind.i64.wrap (js[i].hi - js[i].lo+1)=js[i].hi - js[i].lo+1:=by unfold zF at hok;rw [IntKind.wrap_i64];omega
  have hS : oE l (i+1)=wo l (oE l i):=rfl
  have hne : js[i].hi - js[i].lo+1≠0:=by unfold zF at hok;omega
  with_reducible repeat' (first|refine Sp.h ?_|((first|refine Wd ?_|refine Ss.h ?_|refine Sc.h (tS l _ 6 (by decide) (by omega)) ?_|refine Sc.h (tS l _ _ hne (by omega)) ?_|(refine Sb.h ?_ ?_ ?_<;>(try intro hgd)<;>try exact Xy))<;>simp -implicitDefEqProofs (maxSteps:=2000000) [hP,hN,h2,h5,h6,h7,hb2,hb11,hb6,hzT,hlt,hw,hw2,hw3,hS,show (i+1) * 8≤140737488355328 by omega,show i≤9223372036854775806 by omega]<;>try refine Ya ?_)|refine X2 ?_ ?_|(refine Xd ?_ ?_<;>intro hcd<;>try exact Xx))
  all_goals (rw [← hs];clear hs hj hb2 hb11 hb6 h2 h5 h6 h7 hP hN hw2 hw3 hw hS;simp_all [wo,C9])
 ·skip
  with_reducible repeat' (first|refine Sp.h ?_|((first|refine Wd ?_|refine Ss.h ?_|(refine Sb.h ?_ ?_ ?_<;>(try intro hgd)<;>try exact Xy))<;>simp -implicitDefEqProofs (maxSteps:=2000000) [hP,hN,h2,h5,h6,h7,hb2,hb11,hb6,hzT,hlt]<;>try refine Ya ?_)|refine X2 ?_ ?_|(refine Xd ?_ ?_<;>intro hcd<;>try exact Xx))
  exact BC (by simp [jU]) hlt
theorem zf (x : Int) {k : Int} (hk : 0 < k) (hk' : k < 4611686018427387904) : 0≤lJ x k∧lJ x k < k:=by
 have:=jc [x] 0 hk hk'
 simpa [nx] using this
end Go.Ab
namespace Go.Ab
open Go.Proofs
theorem uM {P : Program} (d : Nat) (t : TypeId) (a b : Bool) (h : P.underlying t=some .bool) : af P (Op.equalIn (d+1) t (.bool a) (.bool b))=some (a==b):=by
 simp only [Op.equalIn,ae,gv h,Option.bind_some];rfl
def rG (x y : AV) : Option (Bool × Bool):=match x,y with
 |.pv (.val (.bool a)),.pv (.val (.bool b))=>some (a,b)
 |_,_=>none
def Db (x y : AV) (fb : Option bt) : Option bt:=match rG x y with
 |some (a,b)=>some (.pv (.val (.bool (a==b))),[])
 |none=>fb
@[simp] theorem H8 (a b : Bool) (fb : Option bt) : Db (.pv (.val (.bool a))) (.pv (.val (.bool b))) fb=some (.pv (.val (.bool (a==b))),[]):=rfl
@[simp] theorem Le {dst : Option Nat} {ty : TypeId} {pos : String} {aft : Array Edge} {g : Option (Nat × Bool)} {ρ : Operand→AV} (x y : Operand) :
 aT Tryz.prog ⟨dst,.binOp .eql 4 x y 4,ty,pos,aft,g⟩ ρ=Db (ρ x) (ρ y) (fc Tryz.prog ⟨dst,.binOp .eql 4 x y 4,ty,pos,aft,g⟩ ρ):=by
 unfold Db
 split
 ·rename_i a b h
  unfold rG at h
  split at h
  ·rename_i a' b' hx hy
   injection h with h;injection h with h1 h2;subst h1;subst h2
   refine cF (by simp [Op.operands,hx,hy,dw]) ?_
   unfold execOp
   simp only [(aW hx).2,(aW hy).2]
   have h1 : af Tryz.prog (eqGuard .eql 4 x y (.bool a') (.bool b'))=some ():=by kernel_rfl
   have h2 : af Tryz.prog (binOp .eql 4 (.bool a') (.bool b'))=some (.bool (a'==b')):=by
    simp only [binOp,ae]
    rw [show af Tryz.prog (Op.equal 4 (.bool a') (.bool b'))=some (a'==b') from uM 9999 4 a' b' Tryz.underlying4]
    rfl
   simp only [ae,h1,h2,Option.bind_some];rfl
  ·cases h
 ·rfl
theorem Lf (f : FuncId) (p : Int × Int→Int→Bool) (xs : List (Int × Int)) (ys : List (Int)) (hl : xs.length≤9223372036854775807) (hf : ∀ a b,ab Tryz.prog f [.pv (av a),.pv (Z b)] [] [] (.pv (B (p a b)))) : ab Tryz.prog 77 [.pv (.sl (xs.map av)),.pv (.sl (ys.map Z)),.pv (Fv f)] [] [] (.pv (B (decide (xs.length=ys.length) && dF p xs ys))):=by
 refine Dp Tryz.func77 ?_
 intro C hP hN
 simp only [Tryz.f77] at hN ⊢
 by_cases he : xs.length=ys.length
 ·skip
  with_reducible repeat' (first|refine Sp.h ?_|((first|refine Wd ?_|refine Ss.h ?_|(refine Sb.h ?_ ?_ ?_<;>(try intro hgd)<;>try exact Xy))<;>simp -implicitDefEqProofs (maxSteps:=2000000) [hP,hN,he]<;>try refine Ya ?_)|refine X2 ?_ ?_|(refine Xd ?_ ?_<;>intro hcd<;>try exact Xx))
  refine WP.loopN [8] xs.length (fun i st=>st.t 0=.pv (.sl (xs.map av))∧st.t 1=.pv (.sl (ys.map Z))∧st.t 2=.pv (Fv f)∧st.t 14=.pv (.sl (xs.map av))∧st.t 15=.pv (Z xs.length)∧st.t 16=.pv (Z i)∧st.h 8=none∧dN p xs ys i=true) (by simp [dN,he]) ?_
  rintro i st hi ⟨h0,h1,h2,h14,h15,h16,hb,hq⟩
  by_cases hlt : i < xs.length
  ·have hw:=ag hlt hl
   have hlt' : i < ys.length:=by omega
   have hF : p xs[i] ys[i]=false→dF p xs ys=false:=gw hlt hlt'
   have hS : p xs[i] ys[i]=true→dN p xs ys (i+1)=true:=im hlt hlt' hq
   with_reducible repeat' (first|refine Sp.h ?_|((first|refine Wd ?_|refine Ss.h ?_|refine Sc.h (hf _ _) ?_|(refine Sb.h ?_ ?_ ?_<;>(try intro hgd)<;>try exact Xy))<;>simp -implicitDefEqProofs (maxSteps:=2000000) [hP,hN,h0,h1,h2,h14,h15,h16,hb,hlt,hlt',hw]<;>try refine Ya ?_)|refine X2 ?_ ?_|(refine Xd ?_ ?_<;>intro hcd<;>try exact Xx))
   all_goals first|exact hF (by simpa using hcd)|simpa using hS (by simpa using hcd)
  ·skip
   with_reducible repeat' (first|refine Sp.h ?_|((first|refine Wd ?_|refine Ss.h ?_|(refine Sb.h ?_ ?_ ?_<;>(try intro hgd)<;>try exact Xy))<;>simp -implicitDefEqProofs (maxSteps:=2000000) [hP,hN,h0,h1,h2,h14,h15,h16,hb,hlt]<;>try refine Ya ?_)|refine X2 ?_ ?_|(refine Xd ?_ ?_<;>intro hcd<;>try exact Xx))
   all_goals simp [he,io hlt hq]
 ·skip
  with_reducible repeat' (first|refine Sp.h ?_|((first|refine Wd ?_|refine Ss.h ?_|(refine Sb.h ?_ ?_ ?_<;>(try intro hgd)<;>try exact Xy))<;>simp -implicitDefEqProofs (maxSteps:=2000000) [hP,hN,he]<;>try refine Ya ?_)|refine X2 ?_ ?_|(refine Xd ?_ ?_<;>intro hcd<;>try exact Xx))
  all_goals simp [he]
theorem I3 (f : FuncId) (p : Int × Int→Int × Int→Bool) (xs : List (Int × Int)) (ys : List (Int × Int)) (hl : xs.length≤9223372036854775807) (hf : ∀ a b,ab Tryz.prog f [.pv (av a),.pv (av b)] [] [] (.pv (B (p a b)))) : ab Tryz.prog 141 [.pv (.sl (xs.map av)),.pv (.sl (ys.map av)),.pv (Fv f)] [] [] (.pv (B (decide (xs.length=ys.length) && dF p xs ys))):=by
 refine Dp Tryz.func141 ?_
 intro C hP hN
 simp only [Tryz.f141] at hN ⊢
 by_cases he : xs.length=ys.length
 ·skip
  with_reducible repeat' (first|refine Sp.h ?_|((first|refine Wd ?_|refine Ss.h ?_|(refine Sb.h ?_ ?_ ?_<;>(try intro hgd)<;>try exact Xy))<;>simp -implicitDefEqProofs (maxSteps:=2000000) [hP,hN,he]<;>try refine Ya ?_)|refine X2 ?_ ?_|(refine Xd ?_ ?_<;>intro hcd<;>try exact Xx))
  refine WP.loopN [8] xs.length (fun i st=>st.t 0=.pv (.sl (xs.map av))∧st.t 1=.pv (.sl (ys.map av))∧st.t 2=.pv (Fv f)∧st.t 14=.pv (.sl (xs.map av))∧st.t 15=.pv (Z xs.length)∧st.t 16=.pv (Z i)∧st.h 8=none∧dN p xs ys i=true) (by simp [dN,he]) ?_
  rintro i st hi ⟨h0,h1,h2,h14,h15,h16,hb,hq⟩
  by_cases hlt : i < xs.length
  ·have hw:=ag hlt hl
   have hlt' : i < ys.length:=by omega
   have hF : p xs[i] ys[i]=false→dF p xs ys=false:=gw hlt hlt'
   have hS : p xs[i] ys[i]=true→dN p xs ys (i+1)=true:=im hlt hlt' hq
   with_reducible repeat' (first|refine Sp.h ?_|((first|refine Wd ?_|refine Ss.h ?_|refine Sc.h (hf _ _) ?_|(refine Sb.h ?_ ?_ ?_<;>(try intro hgd)<;>try exact Xy))<;>simp -implicitDefEqProofs (maxSteps:=2000000) [hP,hN,h0,h1,h2,h14,h15,h16,hb,hlt,hlt',hw]<;>try refine Ya ?_)|refine X2 ?_ ?_|(refine Xd ?_ ?_<;>intro hcd<;>try exact Xx))
   all_goals first|exact hF (by simpa using hcd)|simpa using hS (by simpa using hcd)
  ·skip
   with_reducible repeat' (first|refine Sp.h ?_|((first|refine Wd ?_|refine Ss.h ?_|(refine Sb.h ?_ ?_ ?_<;>(try intro hgd)<;>try exact Xy))<;>simp -implicitDefEqProofs (maxSteps:=2000000) [hP,hN,h0,h1,h2,h14,h15,h16,hb,hlt]<;>try refine Ya ?_)|refine X2 ?_ ?_|(refine Xd ?_ ?_<;>intro hcd<;>try exact Xx))
   all_goals simp [he,io hlt hq]
 ·skip
  with_reducible repeat' (first|refine Sp.h ?_|((first|refine Wd ?_|refine Ss.h ?_|(refine Sb.h ?_ ?_ ?_<;>(try intro hgd)<;>try exact Xy))<;>simp -implicitDefEqProofs (maxSteps:=2000000) [hP,hN,he]<;>try refine Ya ?_)|refine X2 ?_ ?_|(refine Xd ?_ ?_<;>intro hcd<;>try exact Xx))
  all_goals simp [he]
theorem Lg (f : FuncId) (g : J→Int × Int) (xs : List (J)) (hl : xs.length≤16777216) (hf : ∀ a,ab Tryz.prog f [.pv (bq a)] [] [] (.pv (av (g a)))) : ab Tryz.prog 95 [.pv (.sl (xs.map bq)),.pv (Fv f)] [] [] (.pv (.sl ((xs.map g).map av))):=by
 refine Dp Tryz.func95 ?_
 intro C hP hN
 simp only [Tryz.f95] at hN ⊢
 with_reducible repeat' (first|refine Sp.h ?_|((first|refine Ss.h ?_|(refine Sb.h ?_ ?_ ?_<;>(try intro hgd)<;>try exact Xy))<;>simp -implicitDefEqProofs (maxSteps:=2000000) [hP,hN,hl,show (16 : Int) * xs.length≤281474976710656 by omega,show (xs.length : Int)≤9223372036854775807 by omega])|refine X2 ?_ ?_|(refine Xd ?_ ?_<;>intro hcd<;>try exact Xx))
 refine WP.loopN [7] xs.length (fun i st=>st.t 0=.pv (.sl (xs.map bq))∧st.t 1=.pv (Fv f)∧st.t 5=.arr 10 xs.length∧st.t 11=.pv (.sl (xs.map bq))∧st.t 12=.pv (Z xs.length)∧st.t 13=.pv (Z i)∧st.h 7=none∧
  ∃ L,st.h 10=some (.row 89 2 L 0)∧L.length=xs.length∧∀ j,j < i→L[j]?=((xs.map g).map av)[j]?) (by simp) ?_
 rintro i st hi ⟨h0,h1,h5,h11,h12,h13,hb,L,hL,hLl,hq⟩
 have hT : L.length=((xs.map g).map av).length:=by simp [hLl]
 by_cases hlt : i < xs.length
 ·have hw:=ag hlt (qK hl)
  have hltL : i < L.length:=by omega
  with_reducible repeat' (first|refine Sp.h ?_|((first|refine Ss.h ?_|refine Sc.h (hf _) ?_|(refine Sb.h ?_ ?_ ?_<;>(try intro hgd)<;>try exact Xy))<;>simp -implicitDefEqProofs (maxSteps:=2000000) [hP,hN,h0,h1,h5,h11,h12,h13,hb,hL,hLl,hlt,hltL,hw])|refine X2 ?_ ?_|(refine Xd ?_ ?_<;>intro hcd<;>try exact Xx))
  simpa using C7 hT hq (v:=av (g xs[i])) (by simp [hlt])
 ·skip
  with_reducible repeat' (first|refine Sp.h ?_|((first|refine Ss.h ?_|(refine Sb.h ?_ ?_ ?_<;>(try intro hgd)<;>try exact Xy))<;>simp -implicitDefEqProofs (maxSteps:=2000000) [hP,hN,h0,h1,h5,h11,h12,h13,hb,hL,hLl,hlt])|refine X2 ?_ ?_|(refine Xd ?_ ?_<;>intro hcd<;>try exact Xx))
  simpa using C8 hT hq (by simp;omega)
theorem I4 (a : Int × Int) (b : Int) : ab Tryz.prog 78 [.pv (av a),.pv (Z b)] [] [] (.pv (B (kw a b))):=H4 a.1 a.2 b
def bO (xs : List (Int × Int)) (ys : List Int) : Bool:=decide (xs.length=ys.length) && dF kw xs ys
def kV (xs ys : List (Int × Int)) : Bool:=decide (xs.length=ys.length) && dF dG xs ys
def eV (x y : Int × Int) : Bool:=ak x.1 x.2 && ak y.1 y.2 && decide (max x.1 y.1≤min x.2 y.2)
def dB (xs ys : List (Int × Int)) : Bool:=decide (xs.length=ys.length) && dF eV xs ys
theorem BD (xs : List (Int × Int)) (ys : List Int) (hl : xs.length≤9223372036854775807) : ab Tryz.prog 45 [.pv (iv xs),.pv (zs ys)] [] [] (.pv (B (bO xs ys))):=by
 refine Dp Tryz.func45 ?_
 intro C hP hN
 simp only [Tryz.f45] at hN ⊢
 with_reducible repeat' (first|refine Sp.h ?_|((first|refine Ss.h ?_|refine Sc.h (Lf _ kw _ _ hl I4) ?_|(refine Sb.h ?_ ?_ ?_<;>(try intro hgd)<;>try exact Xy))<;>simp -implicitDefEqProofs (maxSteps:=2000000) [hP,hN])|refine X2 ?_ ?_|(refine Xd ?_ ?_<;>intro hcd<;>try exact Xx))
 all_goals (first|(simp_all [bO];done)|((try simp_all [bO])<;>(try omega)<;>grind))
theorem I5 (x y : Int × Int) : ab Tryz.prog 142 [.pv (av x),.pv (av y)] [] [] (.pv (B (eV x y))):=by
 refine Dp Tryz.func142 ?_
 intro C hP hN
 simp only [Tryz.f142] at hN ⊢
 cases h : eV x y with
 |true=>
  have h' : (ak x.1 x.2 && ak y.1 y.2 && decide (max x.1 y.1≤min x.2 y.2))=true:=h
  with_reducible repeat' (first|refine Sp.h ?_|((first|refine Ss.h ?_|refine Sc.h (FS _ _ _ _) ?_|(refine Sb.h ?_ ?_ ?_<;>(try intro hgd)<;>try exact Xy))<;>simp -implicitDefEqProofs (maxSteps:=2000000) [hP,hN,h'])|refine X2 ?_ ?_|(refine Xd ?_ ?_<;>intro hcd<;>try exact Xx))
 |false=>
  have h' : (ak x.1 x.2 && ak y.1 y.2 && decide (max x.1 y.1≤min x.2 y.2))=false:=h
  with_reducible repeat' (first|refine Sp.h ?_|((first|refine Ss.h ?_|refine Sc.h (FS _ _ _ _) ?_|(refine Sb.h ?_ ?_ ?_<;>(try intro hgd)<;>try exact Xy))<;>simp -implicitDefEqProofs (maxSteps:=2000000) [hP,hN,h'])|refine X2 ?_ ?_|(refine Xd ?_ ?_<;>intro hcd<;>try exact Xx))
theorem I6 (xs ys : List (Int × Int)) (hl : xs.length≤9223372036854775807) : ab Tryz.prog 111 [.pv (iv xs),.pv (iv ys)] [] [] (.pv (B (dB xs ys))):=by
 refine Dp Tryz.func111 ?_
 intro C hP hN
 simp only [Tryz.f111] at hN ⊢
 with_reducible repeat' (first|refine Sp.h ?_|((first|refine Ss.h ?_|refine Sc.h (I3 _ eV _ _ hl I5) ?_|(refine Sb.h ?_ ?_ ?_<;>(try intro hgd)<;>try exact Xy))<;>simp -implicitDefEqProofs (maxSteps:=2000000) [hP,hN])|refine X2 ?_ ?_|(refine Xd ?_ ?_<;>intro hcd<;>try exact Xx))
 all_goals (first|(simp_all [dB];done)|((try simp_all [dB])<;>(try omega)<;>grind))
end Go.Ab
