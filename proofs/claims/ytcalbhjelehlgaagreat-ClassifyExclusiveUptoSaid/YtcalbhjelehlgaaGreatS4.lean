/- The contracts and facts that the laws of this seat need, in one text (Ty, CfA). -/
import Derived.Test.YtcalbhjelehlgaaGreatS3
import Derived.Test.YtcalbhjelehlgaaGreatProg
set_option linter.all false
namespace Go.Ab
open Go.Proofs
@[simp] theorem ti2 : tiOf Tryz.prog 2=some ⟨1,(some (.int .i64 0)),.one⟩:=by kernel_rfl
@[simp] theorem ik2 : intKindOf Tryz.prog 2=some .i64:=by kernel_rfl
@[simp] theorem ti3 : tiOf Tryz.prog 3=some ⟨1,(some (.int .i64 0)),.one⟩:=by kernel_rfl
@[simp] theorem ik3 : intKindOf Tryz.prog 3=some .i64:=by kernel_rfl
@[simp] theorem ti4 : tiOf Tryz.prog 4=some ⟨1,(some (.bool false)),.one⟩:=by kernel_rfl
@[simp] theorem ti5 : tiOf Tryz.prog 5=some ⟨1,(some (.int .u8 0)),.one⟩:=by kernel_rfl
@[simp] theorem ik5 : intKindOf Tryz.prog 5=some .u8:=by kernel_rfl
@[simp] theorem ti6 : tiOf Tryz.prog 6=some ⟨1,(some (.int .u8 0)),.one⟩:=by kernel_rfl
@[simp] theorem ik6 : intKindOf Tryz.prog 6=some .u8:=by kernel_rfl
@[simp] theorem ti7 : tiOf Tryz.prog 7=some ⟨4,(some (.agg #[.int .i64 0,.int .i64 0,.bool false,.int .u8 0])),.struct [(0,1),(1,1),(2,1),(3,1)]⟩:=by kernel_rfl
@[simp] theorem ti8 : tiOf Tryz.prog 8=some ⟨4,(some (.agg #[.int .i64 0,.int .i64 0,.bool false,.int .u8 0])),.struct [(0,1),(1,1),(2,1),(3,1)]⟩:=by kernel_rfl
@[simp] theorem ti9 : tiOf Tryz.prog 9=some ⟨1,(some (.string ByteArray.empty)),.one⟩:=by kernel_rfl
@[simp] theorem ix9 : ixKind Tryz.prog 9=some none:=by kernel_rfl
@[simp] theorem ti10 : tiOf Tryz.prog 10=some ⟨1,(some (.string ByteArray.empty)),.one⟩:=by kernel_rfl
@[simp] theorem ix10 : ixKind Tryz.prog 10=some none:=by kernel_rfl
@[simp] theorem ti11 : tiOf Tryz.prog 11=some ⟨1,(some (.string ByteArray.empty)),.one⟩:=by kernel_rfl
@[simp] theorem ix11 : ixKind Tryz.prog 11=some none:=by kernel_rfl
@[simp] theorem ti12 : tiOf Tryz.prog 12=some ⟨1,(some (.int .u64 0)),.one⟩:=by kernel_rfl
@[simp] theorem ik12 : intKindOf Tryz.prog 12=some .u64:=by kernel_rfl
@[simp] theorem ti13 : tiOf Tryz.prog 13=some ⟨2,(some (.agg #[.string ByteArray.empty,.int .u64 0])),.struct [(0,1),(1,1)]⟩:=by kernel_rfl
@[simp] theorem ti14 : tiOf Tryz.prog 14=some ⟨2,(some (.agg #[.string ByteArray.empty,.int .u64 0])),.struct [(0,1),(1,1)]⟩:=by kernel_rfl
@[simp] theorem ti15 : tiOf Tryz.prog 15=some ⟨1,(some (.pointer none)),.one⟩:=by kernel_rfl
@[simp] theorem ti16 : tiOf Tryz.prog 16=some ⟨1,(some (.pointer none)),.one⟩:=by kernel_rfl
@[simp] theorem ti17 : tiOf Tryz.prog 17=some ⟨1,(some (.pointer none)),.one⟩:=by kernel_rfl
@[simp] theorem ti18 : tiOf Tryz.prog 18=some ⟨1,(some (.agg #[.pointer none])),.struct [(0,1)]⟩:=by kernel_rfl
@[simp] theorem ti19 : tiOf Tryz.prog 19=some ⟨1,(some (.agg #[.pointer none])),.struct [(0,1)]⟩:=by kernel_rfl
@[simp] theorem ti21 : tiOf Tryz.prog 21=some ⟨1,(some (.int .i32 0)),.one⟩:=by kernel_rfl
@[simp] theorem ik21 : intKindOf Tryz.prog 21=some .i32:=by kernel_rfl
@[simp] theorem ti22 : tiOf Tryz.prog 22=some ⟨1,(some (.slice none 0 0)),.slice 62 12 104 (some (.agg #[.string ByteArray.empty,.int .i64 0,.int .i64 0,.int .i64 0,.int .i64 0,.int .i64 0,.int .i64 0,.int .i64 0,.int .i64 0,.int .i64 0,.int .i64 0,.int .i64 0]))⟩:=by kernel_rfl
@[simp] theorem ti23 : tiOf Tryz.prog 23=some ⟨1,(some (.slice none 0 0)),.slice 126 5 40 (some (.agg #[.int .i64 0,.int .i64 0,.int .i64 0,.int .i64 0,.int .i64 0]))⟩:=by kernel_rfl
@[simp] theorem ti24 : tiOf Tryz.prog 24=some ⟨2,(some (.agg #[.slice none 0 0,.slice none 0 0])),.struct [(0,1),(1,1)]⟩:=by kernel_rfl
@[simp] theorem ti25 : tiOf Tryz.prog 25=some ⟨2,(some (.agg #[.slice none 0 0,.slice none 0 0])),.struct [(0,1),(1,1)]⟩:=by kernel_rfl
@[simp] theorem ti26 : tiOf Tryz.prog 26=some ⟨1,(some (.slice none 0 0)),.slice 68 3 40 (some (.agg #[.int .i64 0,.int .i64 0,.slice none 0 0]))⟩:=by kernel_rfl
@[simp] theorem ti27 : tiOf Tryz.prog 27=some ⟨1,(some (.slice none 0 0)),.slice 77 2 16 (some (.agg #[.int .i64 0,.int .i64 0]))⟩:=by kernel_rfl
@[simp] theorem ti28 : tiOf Tryz.prog 28=some ⟨4,(some (.agg #[.slice none 0 0,.slice none 0 0,.slice none 0 0,.slice none 0 0])),.struct [(0,2),(2,1),(3,1)]⟩:=by kernel_rfl
@[simp] theorem ti29 : tiOf Tryz.prog 29=some ⟨4,(some (.agg #[.slice none 0 0,.slice none 0 0,.slice none 0 0,.slice none 0 0])),.struct [(0,2),(2,1),(3,1)]⟩:=by kernel_rfl
@[simp] theorem ti30 : tiOf Tryz.prog 30=some ⟨1,(some (.slice none 0 0)),.slice 66 2 16 (some (.agg #[.int .i64 0,.int .i64 0]))⟩:=by kernel_rfl
@[simp] theorem ti31 : tiOf Tryz.prog 31=some ⟨1,(some (.slice none 0 0)),.slice 55 3 24 (some (.agg #[.int .i64 0,.int .i64 0,.int .i64 0]))⟩:=by kernel_rfl
@[simp] theorem ti32 : tiOf Tryz.prog 32=some ⟨1,(some (.slice none 0 0)),.slice 3 1 8 (some (.int .i64 0))⟩:=by kernel_rfl
@[simp] theorem ti37 : tiOf Tryz.prog 37=some ⟨1,(some (.slice none 0 0)),.slice 2 1 8 (some (.int .i64 0))⟩:=by kernel_rfl
@[simp] theorem ti38 : tiOf Tryz.prog 38=some ⟨3,(some (.agg #[.int .i64 0,.slice none 0 0,.slice none 0 0])),.struct [(0,1),(1,1),(2,1)]⟩:=by kernel_rfl
@[simp] theorem ti39 : tiOf Tryz.prog 39=some ⟨3,(some (.agg #[.int .i64 0,.slice none 0 0,.slice none 0 0])),.struct [(0,1),(1,1),(2,1)]⟩:=by kernel_rfl
@[simp] theorem ti40 : tiOf Tryz.prog 40=some ⟨5,(some (.agg #[.int .i64 0,.slice none 0 0,.int .i64 0,.slice none 0 0,.slice none 0 0])),.struct [(0,1),(1,1),(2,3)]⟩:=by kernel_rfl
@[simp] theorem ti41 : tiOf Tryz.prog 41=some ⟨5,(some (.agg #[.int .i64 0,.slice none 0 0,.int .i64 0,.slice none 0 0,.slice none 0 0])),.struct [(0,1),(1,1),(2,3)]⟩:=by kernel_rfl
@[simp] theorem ti46 : tiOf Tryz.prog 46=some ⟨1,(some (.slice none 0 0)),.slice 113 2 16 (some (.agg #[.int .i64 0,.int .i64 0]))⟩:=by kernel_rfl
@[simp] theorem ti54 : tiOf Tryz.prog 54=some ⟨3,(some (.agg #[.int .i64 0,.int .i64 0,.int .i64 0])),.array 3 1⟩:=by kernel_rfl
@[simp] theorem ix54 : ixKind Tryz.prog 54=some (some 3):=by kernel_rfl
@[simp] theorem ti55 : tiOf Tryz.prog 55=some ⟨3,(some (.agg #[.int .i64 0,.int .i64 0,.int .i64 0])),.array 3 1⟩:=by kernel_rfl
@[simp] theorem ix55 : ixKind Tryz.prog 55=some (some 3):=by kernel_rfl
@[simp] theorem ti61 : tiOf Tryz.prog 61=some ⟨12,(some (.agg #[.string ByteArray.empty,.int .i64 0,.int .i64 0,.int .i64 0,.int .i64 0,.int .i64 0,.int .i64 0,.int .i64 0,.int .i64 0,.int .i64 0,.int .i64 0,.int .i64 0])),.struct [(0,1),(1,1),(2,1),(3,3),(6,1),(7,1),(8,1),(9,1),(10,1),(11,1)]⟩:=by kernel_rfl
@[simp] theorem ti62 : tiOf Tryz.prog 62=some ⟨12,(some (.agg #[.string ByteArray.empty,.int .i64 0,.int .i64 0,.int .i64 0,.int .i64 0,.int .i64 0,.int .i64 0,.int .i64 0,.int .i64 0,.int .i64 0,.int .i64 0,.int .i64 0])),.struct [(0,1),(1,1),(2,1),(3,3),(6,1),(7,1),(8,1),(9,1),(10,1),(11,1)]⟩:=by kernel_rfl
@[simp] theorem ti65 : tiOf Tryz.prog 65=some ⟨2,(some (.agg #[.int .i64 0,.int .i64 0])),.struct [(0,1),(1,1)]⟩:=by kernel_rfl
@[simp] theorem ti66 : tiOf Tryz.prog 66=some ⟨2,(some (.agg #[.int .i64 0,.int .i64 0])),.struct [(0,1),(1,1)]⟩:=by kernel_rfl
@[simp] theorem ti67 : tiOf Tryz.prog 67=some ⟨3,(some (.agg #[.int .i64 0,.int .i64 0,.slice none 0 0])),.struct [(0,1),(1,1),(2,1)]⟩:=by kernel_rfl
@[simp] theorem ti68 : tiOf Tryz.prog 68=some ⟨3,(some (.agg #[.int .i64 0,.int .i64 0,.slice none 0 0])),.struct [(0,1),(1,1),(2,1)]⟩:=by kernel_rfl
@[simp] theorem ti70 : tiOf Tryz.prog 70=some ⟨1,(some (.pointer none)),.one⟩:=by kernel_rfl
@[simp] theorem ti76 : tiOf Tryz.prog 76=some ⟨2,(some (.agg #[.int .i64 0,.int .i64 0])),.struct [(0,1),(1,1)]⟩:=by kernel_rfl
@[simp] theorem ti77 : tiOf Tryz.prog 77=some ⟨2,(some (.agg #[.int .i64 0,.int .i64 0])),.struct [(0,1),(1,1)]⟩:=by kernel_rfl
@[simp] theorem ti81 : tiOf Tryz.prog 81=some ⟨1,(some (.slice none 0 0)),.slice 86 1 24 (some (.slice none 0 0))⟩:=by kernel_rfl
@[simp] theorem ti82 : tiOf Tryz.prog 82=some ⟨3,(some (.agg #[.slice none 0 0,.slice none 0 0,.slice none 0 0])),.struct [(0,1),(1,1),(2,1)]⟩:=by kernel_rfl
@[simp] theorem ti83 : tiOf Tryz.prog 83=some ⟨3,(some (.agg #[.slice none 0 0,.slice none 0 0,.slice none 0 0])),.struct [(0,1),(1,1),(2,1)]⟩:=by kernel_rfl
@[simp] theorem ti86 : tiOf Tryz.prog 86=some ⟨1,(some (.slice none 0 0)),.slice 146 6 48 (some (.agg #[.int .i64 0,.int .i64 0,.int .i64 0,.int .i64 0,.int .i64 0,.int .i64 0]))⟩:=by kernel_rfl
@[simp] theorem ti87 : tiOf Tryz.prog 87=some ⟨4,(some (.agg #[.slice none 0 0,.slice none 0 0,.int .i64 0,.int .i64 0])),.struct [(0,1),(1,1),(2,1),(3,1)]⟩:=by kernel_rfl
@[simp] theorem ti88 : tiOf Tryz.prog 88=some ⟨4,(some (.agg #[.slice none 0 0,.slice none 0 0,.int .i64 0,.int .i64 0])),.struct [(0,1),(1,1),(2,1),(3,1)]⟩:=by kernel_rfl
@[simp] theorem ti92 : tiOf Tryz.prog 92=some ⟨7,(some (.agg #[.int .i64 0,.int .i64 0,.int .i64 0,.int .i64 0,.slice none 0 0,.slice none 0 0,.int .i64 0])),.struct [(0,1),(1,3),(4,1),(5,1),(6,1)]⟩:=by kernel_rfl
@[simp] theorem ti93 : tiOf Tryz.prog 93=some ⟨7,(some (.agg #[.int .i64 0,.int .i64 0,.int .i64 0,.int .i64 0,.slice none 0 0,.slice none 0 0,.int .i64 0])),.struct [(0,1),(1,3),(4,1),(5,1),(6,1)]⟩:=by kernel_rfl
@[simp] theorem ti98 : tiOf Tryz.prog 98=some ⟨3,(some (.agg #[.int .i64 0,.slice none 0 0,.slice none 0 0])),.struct [(0,3)]⟩:=by kernel_rfl
@[simp] theorem ti99 : tiOf Tryz.prog 99=some ⟨3,(some (.agg #[.int .i64 0,.slice none 0 0,.slice none 0 0])),.struct [(0,3)]⟩:=by kernel_rfl
@[simp] theorem ti100 : tiOf Tryz.prog 100=some ⟨1,(some (.agg #[.slice none 0 0])),.struct [(0,1)]⟩:=by kernel_rfl
@[simp] theorem ti101 : tiOf Tryz.prog 101=some ⟨1,(some (.agg #[.slice none 0 0])),.struct [(0,1)]⟩:=by kernel_rfl
@[simp] theorem ti102 : tiOf Tryz.prog 102=some ⟨1,(some (.slice none 0 0)),.slice 107 2 32 (some (.agg #[.slice none 0 0,.int .i64 0]))⟩:=by kernel_rfl
@[simp] theorem ti106 : tiOf Tryz.prog 106=some ⟨2,(some (.agg #[.slice none 0 0,.int .i64 0])),.struct [(0,1),(1,1)]⟩:=by kernel_rfl
@[simp] theorem ti107 : tiOf Tryz.prog 107=some ⟨2,(some (.agg #[.slice none 0 0,.int .i64 0])),.struct [(0,1),(1,1)]⟩:=by kernel_rfl
@[simp] theorem ti109 : tiOf Tryz.prog 109=some ⟨1,(some (.int .i64 0)),.one⟩:=by kernel_rfl
@[simp] theorem ik109 : intKindOf Tryz.prog 109=some .i64:=by kernel_rfl
@[simp] theorem ti113 : tiOf Tryz.prog 113=some ⟨2,(some (.agg #[.int .i64 0,.int .i64 0])),.struct [(0,1),(1,1)]⟩:=by kernel_rfl
@[simp] theorem ti122 : tiOf Tryz.prog 122=some ⟨2,(some (.agg #[.slice none 0 0,.int .i64 0])),.struct [(0,1),(1,1)]⟩:=by kernel_rfl
@[simp] theorem ti123 : tiOf Tryz.prog 123=some ⟨2,(some (.agg #[.slice none 0 0,.int .i64 0])),.struct [(0,1),(1,1)]⟩:=by kernel_rfl
@[simp] theorem ti125 : tiOf Tryz.prog 125=some ⟨5,(some (.agg #[.int .i64 0,.int .i64 0,.int .i64 0,.int .i64 0,.int .i64 0])),.struct [(0,1),(1,1),(2,3)]⟩:=by kernel_rfl
@[simp] theorem ti126 : tiOf Tryz.prog 126=some ⟨5,(some (.agg #[.int .i64 0,.int .i64 0,.int .i64 0,.int .i64 0,.int .i64 0])),.struct [(0,1),(1,1),(2,3)]⟩:=by kernel_rfl
@[simp] theorem ti131 : tiOf Tryz.prog 131=some ⟨1,(some (.nilFunc)),.one⟩:=by kernel_rfl
@[simp] theorem ti135 : tiOf Tryz.prog 135=some ⟨2,(some (.agg #[.slice none 0 0,.slice none 0 0])),.struct [(0,1),(1,1)]⟩:=by kernel_rfl
@[simp] theorem ti136 : tiOf Tryz.prog 136=some ⟨2,(some (.agg #[.slice none 0 0,.slice none 0 0])),.struct [(0,1),(1,1)]⟩:=by kernel_rfl
@[simp] theorem ti138 : tiOf Tryz.prog 138=some ⟨2,(some (.agg #[.slice none 0 0,.slice none 0 0])),.struct [(0,2)]⟩:=by kernel_rfl
@[simp] theorem ti139 : tiOf Tryz.prog 139=some ⟨2,(some (.agg #[.slice none 0 0,.slice none 0 0])),.struct [(0,2)]⟩:=by kernel_rfl
@[simp] theorem ti140 : tiOf Tryz.prog 140=some ⟨2,(some (.agg #[.slice none 0 0,.slice none 0 0])),.struct [(0,2)]⟩:=by kernel_rfl
@[simp] theorem ti141 : tiOf Tryz.prog 141=some ⟨8,(some (.agg #[.slice none 0 0,.slice none 0 0,.slice none 0 0,.slice none 0 0,.int .i64 0,.int .i64 0,.int .i64 0,.int .i64 0])),.struct [(0,2),(2,2),(4,3),(7,1)]⟩:=by kernel_rfl
@[simp] theorem ti142 : tiOf Tryz.prog 142=some ⟨8,(some (.agg #[.slice none 0 0,.slice none 0 0,.slice none 0 0,.slice none 0 0,.int .i64 0,.int .i64 0,.int .i64 0,.int .i64 0])),.struct [(0,2),(2,2),(4,3),(7,1)]⟩:=by kernel_rfl
@[simp] theorem ti145 : tiOf Tryz.prog 145=some ⟨6,(some (.agg #[.int .i64 0,.int .i64 0,.int .i64 0,.int .i64 0,.int .i64 0,.int .i64 0])),.array 3 2⟩:=by kernel_rfl
@[simp] theorem ix145 : ixKind Tryz.prog 145=none:=by kernel_rfl
@[simp] theorem ax145 : ixAgg Tryz.prog 145=some (3,2):=by kernel_rfl
@[simp] theorem ti146 : tiOf Tryz.prog 146=some ⟨6,(some (.agg #[.int .i64 0,.int .i64 0,.int .i64 0,.int .i64 0,.int .i64 0,.int .i64 0])),.array 3 2⟩:=by kernel_rfl
@[simp] theorem ix146 : ixKind Tryz.prog 146=none:=by kernel_rfl
@[simp] theorem ax146 : ixAgg Tryz.prog 146=some (3,2):=by kernel_rfl
@[simp] theorem ti149 : tiOf Tryz.prog 149=some ⟨1,(some (.nilIface)),.one⟩:=by kernel_rfl
@[simp] theorem ti166 : tiOf Tryz.prog 166=some ⟨1,(some (.int .u64 0)),.one⟩:=by kernel_rfl
@[simp] theorem ik166 : intKindOf Tryz.prog 166=some .u64:=by kernel_rfl
@[simp] theorem ti169 : tiOf Tryz.prog 169=some ⟨2,(some (.agg #[.slice none 0 0,.int .i64 0])),.struct [(0,1),(1,1)]⟩:=by kernel_rfl
@[simp] theorem ti170 : tiOf Tryz.prog 170=some ⟨2,(some (.agg #[.slice none 0 0,.int .i64 0])),.struct [(0,1),(1,1)]⟩:=by kernel_rfl
@[simp] theorem ti171 : tiOf Tryz.prog 171=some ⟨4,(some (.agg #[.slice none 0 0,.int .i64 0,.slice none 0 0,.int .i64 0])),.struct [(0,2),(2,2)]⟩:=by kernel_rfl
@[simp] theorem ti172 : tiOf Tryz.prog 172=some ⟨4,(some (.agg #[.slice none 0 0,.int .i64 0,.slice none 0 0,.int .i64 0])),.struct [(0,2),(2,2)]⟩:=by kernel_rfl
@[simp] theorem ti176 : tiOf Tryz.prog 176=some ⟨8,(some (.agg #[.int .i64 0,.int .i64 0,.int .i64 0,.int .i64 0,.int .i64 0,.int .i64 0,.int .i64 0,.int .i64 0])),.array 8 1⟩:=by kernel_rfl
@[simp] theorem ix176 : ixKind Tryz.prog 176=some (some 8):=by kernel_rfl
@[simp] theorem ti180 : tiOf Tryz.prog 180=some ⟨1,(some (.slice none 0 0)),.slice 185 24 192 (some (.agg #[.int .i64 0,.int .i64 0,.int .i64 0,.int .i64 0,.int .i64 0,.int .i64 0,.int .i64 0,.int .i64 0,.int .i64 0,.int .i64 0,.int .i64 0,.int .i64 0,.int .i64 0,.int .i64 0,.int .i64 0,.int .i64 0,.int .i64 0,.int .i64 0,.int .i64 0,.int .i64 0,.int .i64 0,.int .i64 0,.int .i64 0,.int .i64 0]))⟩:=by kernel_rfl
@[simp] theorem ti182 : tiOf Tryz.prog 182=some ⟨18,(some (.agg #[.int .i64 0,.int .i64 0,.int .i64 0,.int .i64 0,.int .i64 0,.int .i64 0,.int .i64 0,.int .i64 0,.int .i64 0,.int .i64 0,.int .i64 0,.int .i64 0,.int .i64 0,.int .i64 0,.int .i64 0,.int .i64 0,.int .i64 0,.int .i64 0])),.array 3 6⟩:=by kernel_rfl
@[simp] theorem ix182 : ixKind Tryz.prog 182=none:=by kernel_rfl
@[simp] theorem ax182 : ixAgg Tryz.prog 182=some (3,6):=by kernel_rfl
@[simp] theorem ti183 : tiOf Tryz.prog 183=some ⟨18,(some (.agg #[.int .i64 0,.int .i64 0,.int .i64 0,.int .i64 0,.int .i64 0,.int .i64 0,.int .i64 0,.int .i64 0,.int .i64 0,.int .i64 0,.int .i64 0,.int .i64 0,.int .i64 0,.int .i64 0,.int .i64 0,.int .i64 0,.int .i64 0,.int .i64 0])),.array 3 6⟩:=by kernel_rfl
@[simp] theorem ix183 : ixKind Tryz.prog 183=none:=by kernel_rfl
@[simp] theorem ax183 : ixAgg Tryz.prog 183=some (3,6):=by kernel_rfl
@[simp] theorem ti184 : tiOf Tryz.prog 184=some ⟨24,(some (.agg #[.int .i64 0,.int .i64 0,.int .i64 0,.int .i64 0,.int .i64 0,.int .i64 0,.int .i64 0,.int .i64 0,.int .i64 0,.int .i64 0,.int .i64 0,.int .i64 0,.int .i64 0,.int .i64 0,.int .i64 0,.int .i64 0,.int .i64 0,.int .i64 0,.int .i64 0,.int .i64 0,.int .i64 0,.int .i64 0,.int .i64 0,.int .i64 0])),.struct [(0,18),(18,6)]⟩:=by kernel_rfl
@[simp] theorem ti185 : tiOf Tryz.prog 185=some ⟨24,(some (.agg #[.int .i64 0,.int .i64 0,.int .i64 0,.int .i64 0,.int .i64 0,.int .i64 0,.int .i64 0,.int .i64 0,.int .i64 0,.int .i64 0,.int .i64 0,.int .i64 0,.int .i64 0,.int .i64 0,.int .i64 0,.int .i64 0,.int .i64 0,.int .i64 0,.int .i64 0,.int .i64 0,.int .i64 0,.int .i64 0,.int .i64 0,.int .i64 0])),.struct [(0,18),(18,6)]⟩:=by kernel_rfl
@[simp] theorem ti192 : tiOf Tryz.prog 192=some ⟨1,(some (.pointer none)),.one⟩:=by kernel_rfl
@[simp] theorem ti222 : tiOf Tryz.prog 222=some ⟨1,(some (.nilFunc)),.one⟩:=by kernel_rfl
@[simp] theorem ti223 : tiOf Tryz.prog 223=some ⟨1,(some (.nilFunc)),.one⟩:=by kernel_rfl
@[simp] theorem ti224 : tiOf Tryz.prog 224=some ⟨2,(some (.agg #[.nilFunc,.nilFunc])),.struct [(0,1),(1,1)]⟩:=by kernel_rfl
@[simp] theorem ti225 : tiOf Tryz.prog 225=some ⟨2,(some (.agg #[.nilFunc,.nilFunc])),.struct [(0,1),(1,1)]⟩:=by kernel_rfl
@[simp] theorem ti229 : tiOf Tryz.prog 229=some ⟨1,(some (.int .u64 0)),.one⟩:=by kernel_rfl
@[simp] theorem ik229 : intKindOf Tryz.prog 229=some .u64:=by kernel_rfl
@[simp] theorem ti233 : tiOf Tryz.prog 233=some ⟨1,(some (.nilFunc)),.one⟩:=by kernel_rfl
@[simp] theorem ti234 : tiOf Tryz.prog 234=some ⟨1,(some (.agg #[.nilFunc])),.struct [(0,1)]⟩:=by kernel_rfl
@[simp] theorem ti235 : tiOf Tryz.prog 235=some ⟨1,(some (.agg #[.nilFunc])),.struct [(0,1)]⟩:=by kernel_rfl
@[simp] theorem ti247 : tiOf Tryz.prog 247=some ⟨1,(some (.int .i64 0)),.one⟩:=by kernel_rfl
@[simp] theorem ik247 : intKindOf Tryz.prog 247=some .i64:=by kernel_rfl
@[simp] theorem ti252 : tiOf Tryz.prog 252=some ⟨4,(some (.agg #[.int .i64 0,.int .i64 0,.int .i64 0,.int .i64 0])),.array 4 1⟩:=by kernel_rfl
@[simp] theorem ix252 : ixKind Tryz.prog 252=some (some 4):=by kernel_rfl
@[simp] theorem ti257 : tiOf Tryz.prog 257=some ⟨11,(some (.agg #[.int .i64 0,.int .i64 0,.int .i64 0,.int .i64 0,.int .i64 0,.int .i64 0,.int .i64 0,.int .i64 0,.int .i64 0,.int .i64 0,.int .i64 0])),.array 11 1⟩:=by kernel_rfl
@[simp] theorem ix257 : ixKind Tryz.prog 257=some (some 11):=by kernel_rfl
@[simp] theorem ti260 : tiOf Tryz.prog 260=some ⟨11,(some (.agg #[.int .i64 0,.int .i64 0,.int .i64 0,.int .i64 0,.int .i64 0,.int .i64 0,.int .i64 0,.int .i64 0,.int .i64 0,.int .i64 0,.int .i64 0])),.array 11 1⟩:=by kernel_rfl
@[simp] theorem ix260 : ixKind Tryz.prog 260=some (some 11):=by kernel_rfl
@[simp] theorem ti264 : tiOf Tryz.prog 264=some ⟨4,(some (.agg #[.pointer none,.pointer none,.pointer none,.string ByteArray.empty])),.struct [(0,1),(1,1),(2,1),(3,1)]⟩:=by kernel_rfl
@[simp] theorem ti265 : tiOf Tryz.prog 265=some ⟨4,(some (.agg #[.pointer none,.pointer none,.pointer none,.string ByteArray.empty])),.struct [(0,1),(1,1),(2,1),(3,1)]⟩:=by kernel_rfl
@[simp] theorem ti266 : tiOf Tryz.prog 266=some ⟨0,(some (.agg #[])),.array 0 1⟩:=by kernel_rfl
@[simp] theorem ix266 : ixKind Tryz.prog 266=some (some 0):=by kernel_rfl
@[simp] theorem ti267 : tiOf Tryz.prog 267=some ⟨0,(some (.agg #[])),.struct [(0,0)]⟩:=by kernel_rfl
@[simp] theorem ti268 : tiOf Tryz.prog 268=some ⟨0,(some (.agg #[])),.struct [(0,0)]⟩:=by kernel_rfl
@[simp] theorem ti270 : tiOf Tryz.prog 270=some ⟨1,(some (.int .u32 0)),.one⟩:=by kernel_rfl
@[simp] theorem ik270 : intKindOf Tryz.prog 270=some .u32:=by kernel_rfl
@[simp] theorem ti271 : tiOf Tryz.prog 271=some ⟨1,(some (.int .u8 0)),.one⟩:=by kernel_rfl
@[simp] theorem ik271 : intKindOf Tryz.prog 271=some .u8:=by kernel_rfl
@[simp] theorem ti272 : tiOf Tryz.prog 272=some ⟨1,(some (.int .u8 0)),.one⟩:=by kernel_rfl
@[simp] theorem ik272 : intKindOf Tryz.prog 272=some .u8:=by kernel_rfl
@[simp] theorem ti273 : tiOf Tryz.prog 273=some ⟨1,(some (.nilFunc)),.one⟩:=by kernel_rfl
@[simp] theorem ti274 : tiOf Tryz.prog 274=some ⟨1,(some (.pointer none)),.one⟩:=by kernel_rfl
@[simp] theorem ti275 : tiOf Tryz.prog 275=some ⟨1,(some (.int .i32 0)),.one⟩:=by kernel_rfl
@[simp] theorem ik275 : intKindOf Tryz.prog 275=some .i32:=by kernel_rfl
@[simp] theorem ti276 : tiOf Tryz.prog 276=some ⟨1,(some (.int .i32 0)),.one⟩:=by kernel_rfl
@[simp] theorem ik276 : intKindOf Tryz.prog 276=some .i32:=by kernel_rfl
@[simp] theorem ti277 : tiOf Tryz.prog 277=some ⟨11,(some (.agg #[.int .u64 0,.int .u64 0,.int .u32 0,.int .u8 0,.int .u8 0,.int .u8 0,.int .u8 0,.nilFunc,.pointer none,.int .i32 0,.int .i32 0])),.struct [(0,1),(1,1),(2,1),(3,1),(4,1),(5,1),(6,1),(7,1),(8,1),(9,1),(10,1)]⟩:=by kernel_rfl
@[simp] theorem ti278 : tiOf Tryz.prog 278=some ⟨11,(some (.agg #[.int .u64 0,.int .u64 0,.int .u32 0,.int .u8 0,.int .u8 0,.int .u8 0,.int .u8 0,.nilFunc,.pointer none,.int .i32 0,.int .i32 0])),.struct [(0,1),(1,1),(2,1),(3,1),(4,1),(5,1),(6,1),(7,1),(8,1),(9,1),(10,1)]⟩:=by kernel_rfl
end Go.Ab
namespace Go.Ab
open Go.Proofs
abbrev I (lo hi : Int) : PV:=.val (.agg #[.int .i64 lo,.int .i64 hi])
abbrev encI (x : Int × Int) : PV:=I x.1 x.2
abbrev B (b : Bool) : PV:=.val (.bool b)
abbrev Z (n : Int) : PV:=.val (.int .i64 n)
abbrev wr (n : Int) : Int:=IntKind.i64.wrap n
def validB (lo hi : Int) : Bool:=decide (-2147483648≤lo) && decide (lo≤hi) && decide (hi≤2147483648)
theorem eqI (a b c d : Int) : runPure Tryz.prog (Op.equal 66 (.agg #[.int .i64 a,.int .i64 b]) (.agg #[.int .i64 c,.int .i64 d]))=some (a==c && b==d):=by
 have hf : (Tryz.prog.fieldsOf 66).toList=[(Tryz.prog.fieldsOf 66)[0]!,(Tryz.prog.fieldsOf 66)[1]!]:=by kernel_rfl
 show runPure Tryz.prog (Op.equalIn (9999+1) 66 _ _)=_
 rw [rp_struct 9999 66 _ _ (by kernel_rfl) (by kernel_rfl),hf]
 have h:=rp_cons (P:=Tryz.prog) (d:=9999) (xs:=#[.int .i64 a,.int .i64 b]) (ys:=#[.int .i64 c,.int .i64 d]) (f:=(Tryz.prog.fieldsOf 66)[0]!) (fs:=[(Tryz.prog.fieldsOf 66)[1]!]) (a:=.int .i64 a) (b:=.int .i64 c) (by decide +kernel) (by kernel_rfl) (by kernel_rfl) (rp_int 9998 _ .i64 .i64 a c (by kernel_rfl))
  (rp_cons (by decide +kernel) (a:=.int .i64 b) (b:=.int .i64 d) (by kernel_rfl) (by kernel_rfl) (rp_int 9998 _ .i64 .i64 b d (by kernel_rfl)) rp_nil)
 rw [h];simp
def evPureX (P : Program) (o : Oper) (ρ : Operand→AV) : Option Eff:=evPure P o ρ
def ints2 (x : AV) : Option (Int × Int):=match x with
 |.pv (.val (.agg vs))=>match vs.toList with
  |[.int .i64 a,.int .i64 b]=>some (a,b)
  |_=>none
 |_=>none
theorem ints2_some {x : AV} {a b : Int} (h : ints2 x=some (a,b)) : x=.pv (I a b):=by
 unfold ints2 at h
 split at h
 ·split at h
  ·rename_i vs _ a' b' hv
   injection h with h;injection h with h1 h2;subst h1;subst h2
   rw [← Array.toArray_toList (xs:=vs),hv]
  ·cases h
 ·cases h
def cmp2 (x y : AV) (fb : Option Eff) : Option Eff:=match ints2 x,ints2 y with
 |some (a,b),some (c,d)=>some (.pv (.val (.bool !(a==c && b==d))),[])
 |_,_=>fb
@[simp] theorem cmp2_some (a b c d : Int) (fb : Option Eff) : cmp2 (.pv (.val (.agg #[.int .i64 a,.int .i64 b]))) (.pv (.val (.agg #[.int .i64 c,.int .i64 d]))) fb=some (.pv (.val (.bool !(a==c && b==d))),[]):=rfl
@[simp] theorem neqI {dst : Option Nat} {ty : TypeId} {pos : String} {aft : Array Edge} {g : Option (Nat × Bool)} {ρ : Operand→AV} (x y : Operand) :
 evPure Tryz.prog ⟨dst,.binOp .neq 66 x y 66,ty,pos,aft,g⟩ ρ=cmp2 (ρ x) (ρ y) (evPureX Tryz.prog ⟨dst,.binOp .neq 66 x y 66,ty,pos,aft,g⟩ ρ):=by
 unfold cmp2
 split
 ·rename_i a b c d hx hy
  exact evPure_neq rfl (ints2_some hx) (ints2_some hy) (by kernel_rfl) (eqI a b c d)
 ·rfl
theorem d69 (lo hi : Int) : DetH Tryz.prog 69 [.pv (I lo hi)] [] [] (.pv (B (validB lo hi))):=by
 refine detP_of Tryz.func69 rfl (by kernel_rfl) (by simp [Tryz.f69]) rfl ?_
 intro C hP hN
 simp only [Tryz.f69] at hN ⊢
 with_reducible repeat' (first|refine Sp.h ?_|((first|refine Ss.h ?_|(refine Sb.h ?_ ?_ ?_<;>(try intro hgd)<;>try exact Xy))<;>simp -implicitDefEqProofs (maxSteps:=2000000) [hP,hN])|refine X2 ?_ ?_|(refine Xd ?_ ?_<;>intro hcd<;>try exact Xx))
 all_goals (first|(simp_all [validB];done)|((try simp_all [validB])<;>(try omega)<;>grind))
theorem d102 (lo hi : Int) : DetH Tryz.prog 102 [.pv (I lo hi)] [] [] (.pv (B (validB lo hi))):=by
 refine detP_of Tryz.func102 rfl (by kernel_rfl) (by simp [Tryz.f102]) rfl ?_
 intro C hP hN
 simp only [Tryz.f102] at hN ⊢
 with_reducible repeat' (first|refine Sp.h ?_|((first|refine Ss.h ?_|(refine Sb.h ?_ ?_ ?_<;>(try intro hgd)<;>try exact Xy))<;>simp -implicitDefEqProofs (maxSteps:=2000000) [hP,hN])|refine X2 ?_ ?_|(refine Xd ?_ ?_<;>intro hcd<;>try exact Xx))
 all_goals (first|(simp_all [validB];done)|((try simp_all [validB])<;>(try omega)<;>grind))
theorem d230 (a b c d : Int) : DetH Tryz.prog 230 [.pv (I a b),.pv (I c d)] [] [] (.pv (B (validB a b && validB c d))):=by
 refine detP_of Tryz.func230 rfl (by kernel_rfl) (by simp [Tryz.f230]) rfl ?_
 intro C hP hN
 simp only [Tryz.f230] at hN ⊢
 with_reducible repeat' (first|refine Sp.h ?_|((first|refine Ss.h ?_|refine Sc.h (d69 _ _) ?_|(refine Sb.h ?_ ?_ ?_<;>(try intro hgd)<;>try exact Xy))<;>simp -implicitDefEqProofs (maxSteps:=2000000) [hP,hN])|refine X2 ?_ ?_|(refine Xd ?_ ?_<;>intro hcd<;>try exact Xx))
 all_goals (first|(simp_all;done)|((try simp_all)<;>(try omega)<;>grind))
def roundI (n k : Int) : Int:=if n.tmod k < 0 then wr (n.tmod k+k) else n.tmod k
theorem d28 (n k : Int) (hk : k≠0) : DetH Tryz.prog 28 [.pv (Z n),.pv (Z k)] [] [] (.pv (Z (roundI n k))):=by
 refine detP_of Tryz.func28 rfl (by kernel_rfl) (by simp [Tryz.f28]) rfl ?_
 intro C hP hN
 simp only [Tryz.f28] at hN ⊢
 with_reducible repeat' (first|refine Sp.h ?_|((first|refine Ss.h ?_|(refine Sb.h ?_ ?_ ?_<;>(try intro hgd)<;>try exact Xy))<;>simp -implicitDefEqProofs (maxSteps:=2000000) [hP,hN,hk])|refine X2 ?_ ?_|(refine Xd ?_ ?_<;>intro hcd<;>try exact Xx))
 all_goals (first|(simp_all [roundI];done)|((try simp_all [roundI])<;>(try omega)<;>grind))
@[simp] theorem ite_min (a b : Int) : (if b < a then b else a)=min a b:=by split<;>omega
@[simp] theorem ite_max (a b : Int) : (if a < b then b else a)=max a b:=by split<;>omega
theorem wr_id {n : Int} (h1 : -9223372036854775808≤n) (h2 : n < 9223372036854775808) : wr n=n:=by
 rw [wr,IntKind.wrap_i64];omega
theorem min64 {k : Int} (hk : k < 64) : min k.toNat 64=k.toNat:=by omega
theorem bits64 : IntKind.i64.bits=64:=rfl
theorem d232 (a : Int) : DetH Tryz.prog 232 [.pv (Z a)] [] [] (.pv (Z (min (max a (-2147483648)) 2147483648))):=by
 refine detP_of Tryz.func232 rfl (by kernel_rfl) (by simp [Tryz.f232]) rfl ?_
 intro C hP hN
 simp only [Tryz.f232] at hN ⊢
 with_reducible repeat' (first|refine Sp.h ?_|((first|refine Ss.h ?_|(refine Sb.h ?_ ?_ ?_<;>(try intro hgd)<;>try exact Xy))<;>simp -implicitDefEqProofs (maxSteps:=2000000) [hP,hN])|refine X2 ?_ ?_|(refine Xd ?_ ?_<;>intro hcd<;>try exact Xx))
 all_goals (first|(simp_all;done)|((try simp_all)<;>(try omega)<;>grind))
theorem d223 (a b : Int) : DetH Tryz.prog 223 [.pv (Z a),.pv (Z b)] [] [] (.pv (I (min (max a (-2147483648)) 2147483648) (min (max b (-2147483648)) 2147483648))):=by
 refine detP_of Tryz.func223 rfl (by kernel_rfl) (by simp [Tryz.f223]) rfl ?_
 intro C hP hN
 simp only [Tryz.f223] at hN ⊢
 with_reducible repeat' (first|refine Sp.h ?_|((first|refine Ss.h ?_|refine Sc.h (d232 _) ?_|(refine Sb.h ?_ ?_ ?_<;>(try intro hgd)<;>try exact Xy))<;>simp -implicitDefEqProofs (maxSteps:=2000000) [hP,hN])|refine X2 ?_ ?_|(refine Xd ?_ ?_<;>intro hcd<;>try exact Xx))
 all_goals (first|(simp_all;done)|((try simp_all)<;>(try omega)<;>grind))
theorem d198 (a : Int) : DetH Tryz.prog 198 [.pv (Z a)] [] [] (.pv (I (min (max a (-2147483648)) 2147483648) (min (max a (-2147483648)) 2147483648))):=by
 refine detP_of Tryz.func198 rfl (by kernel_rfl) (by simp [Tryz.f198]) rfl ?_
 intro C hP hN
 simp only [Tryz.f198] at hN ⊢
 with_reducible repeat' (first|refine Sp.h ?_|((first|refine Ss.h ?_|refine Sc.h (d223 _ _) ?_|(refine Sb.h ?_ ?_ ?_<;>(try intro hgd)<;>try exact Xy))<;>simp -implicitDefEqProofs (maxSteps:=2000000) [hP,hN])|refine X2 ?_ ?_|(refine Xd ?_ ?_<;>intro hcd<;>try exact Xx))
 all_goals (first|(simp_all;done)|((try simp_all)<;>(try omega)<;>grind))
theorem d131 (a k : Int) (h : 0≤k) (hk : k < 64) : DetH Tryz.prog 131 [.pv (Z a),.pv (Z k)] [] [] (.pv (Z (a.fdiv (2 ^ k.toNat)))):=by
 refine detP_of Tryz.func131 rfl (by kernel_rfl) (by simp [Tryz.f131]) rfl ?_
 intro C hP hN
 simp only [Tryz.f131] at hN ⊢
 with_reducible repeat' (first|refine Sp.h ?_|((first|refine Ss.h ?_|(refine Sb.h ?_ ?_ ?_<;>(try intro hgd)<;>try exact Xy))<;>simp -implicitDefEqProofs (maxSteps:=2000000) [hP,hN,h,bits64,min64 hk])|refine X2 ?_ ?_|(refine Xd ?_ ?_<;>intro hcd<;>try exact Xx))
 all_goals (first|(simp_all;done)|((try simp_all)<;>(try omega)<;>grind))
def hullI (x y : Int × Int) : Int × Int:=if validB x.1 x.2 && validB y.1 y.2 then (min x.1 y.1,max x.2 y.2) else (0,0)
theorem d254 (a b c d : Int) : DetH Tryz.prog 254 [.pv (I a b),.pv (I c d)] [] [] (.pv (encI (hullI (a,b) (c,d)))):=by
 refine detP_of Tryz.func254 rfl (by kernel_rfl) (by simp [Tryz.f254]) rfl ?_
 intro C hP hN
 simp only [Tryz.f254] at hN ⊢
 with_reducible repeat' (first|refine Sp.h ?_|((first|refine Ss.h ?_|refine Sc.h (d230 _ _ _ _) ?_|(refine Sb.h ?_ ?_ ?_<;>(try intro hgd)<;>try exact Xy))<;>simp -implicitDefEqProofs (maxSteps:=2000000) [hP,hN])|refine X2 ?_ ?_|(refine Xd ?_ ?_<;>intro hcd<;>try exact Xx))
 all_goals (first|(simp_all [hullI];done)|((try simp_all [hullI])<;>(try omega)<;>grind))
theorem d253 (a b : Int) : DetH Tryz.prog 253 [.pv (I a b)] [] [] (.pv (Z (if validB a b then wr (b - a) else 0))):=by
 refine detP_of Tryz.func253 rfl (by kernel_rfl) (by simp [Tryz.f253]) rfl ?_
 intro C hP hN
 simp only [Tryz.f253] at hN ⊢
 with_reducible repeat' (first|refine Sp.h ?_|((first|refine Ss.h ?_|refine Sc.h (d69 _ _) ?_|(refine Sb.h ?_ ?_ ?_<;>(try intro hgd)<;>try exact Xy))<;>simp -implicitDefEqProofs (maxSteps:=2000000) [hP,hN])|refine X2 ?_ ?_|(refine Xd ?_ ?_<;>intro hcd<;>try exact Xx))
 all_goals (first|(simp_all;done)|((try simp_all)<;>(try omega)<;>grind))
theorem d79 (a b : Int) : DetH Tryz.prog 79 [.pv (I a b)] [] [] (.pv (Z (if validB a b then (wr (a+b)).fdiv 2 else 0))):=by
 refine detP_of Tryz.func79 rfl (by kernel_rfl) (by simp [Tryz.f79]) rfl ?_
 intro C hP hN
 simp only [Tryz.f79] at hN ⊢
 with_reducible repeat' (first|refine Sp.h ?_|((first|refine Ss.h ?_|refine Sc.h (d69 _ _) ?_|refine Sc.h (d131 _ _ (by decide) (by decide)) ?_|(refine Sb.h ?_ ?_ ?_<;>(try intro hgd)<;>try exact Xy))<;>simp -implicitDefEqProofs (maxSteps:=2000000) [hP,hN])|refine X2 ?_ ?_|(refine Xd ?_ ?_<;>intro hcd<;>try exact Xx))
 all_goals (first|(simp_all;done)|((try simp_all)<;>(try omega)<;>grind))
theorem d260 (a b x : Int) : DetH Tryz.prog 260 [.pv (I a b),.pv (Z x)] [] [] (.pv (B (validB a b && decide (a≤x) && decide (x≤b)))):=by
 refine detP_of Tryz.func260 rfl (by kernel_rfl) (by simp [Tryz.f260]) rfl ?_
 intro C hP hN
 simp only [Tryz.f260] at hN ⊢
 with_reducible repeat' (first|refine Sp.h ?_|((first|refine Ss.h ?_|refine Sc.h (d69 _ _) ?_|(refine Sb.h ?_ ?_ ?_<;>(try intro hgd)<;>try exact Xy))<;>simp -implicitDefEqProofs (maxSteps:=2000000) [hP,hN])|refine X2 ?_ ?_|(refine Xd ?_ ?_<;>intro hcd<;>try exact Xx))
 all_goals (first|(simp_all;done)|((try simp_all)<;>(try omega)<;>grind))
end Go.Ab
namespace Go.Ab
open Go.Proofs
abbrev zs (xs : List Int) : PV:=.sl (xs.map Z)
abbrev iv (xs : List (Int × Int)) : PV:=.sl (xs.map encI)
abbrev Fv (f : FuncId) : PV:=.val (.func (.func f) #[] #[])
theorem big {n : Nat} (h : n≤16777216) : n≤9223372036854775807:=by omega
theorem wr_succ {i n : Nat} (h : i < n) (hn : n≤9223372036854775807) : IntKind.i64.wrap ((i : Int)+1)=(i : Int)+1:=by rw [IntKind.wrap_i64];omega
def idxB {α : Type} (p : α→Bool) (xs : List α) : Int:=match xs.findIdx? p with
 |some i=>i
 |none=>-1
theorem idxB_found {α : Type} {p : α→Bool} {xs : List α} {i : Nat} (hlt : i < xs.length) (hq : ∀ j x,j < i→xs[j]?=some x→p x=false) (hp : p xs[i]=true) : idxB p xs=i:=by
 have : xs.findIdx? p=some i:=by
  rw [List.findIdx?_eq_some_iff_getElem]
  refine ⟨hlt,hp,fun j hj=>?_⟩
  have hjl : j < xs.length:=by omega
  rw [hq j xs[j] hj (List.getElem?_eq_getElem hjl)];simp
 simp [idxB,this]
theorem idxB_none {α : Type} {p : α→Bool} {xs : List α} (hq : ∀ (j : Nat) x,xs[j]?=some x→p x=false) : idxB p xs=-1:=by
 have : xs.findIdx? p=none:=by
  rw [List.findIdx?_eq_none_iff]
  intro x hx
  obtain ⟨j,hj,rfl⟩:=List.mem_iff_getElem.1 hx
  exact hq j _ (List.getElem?_eq_getElem hj)
 simp [idxB,this]
theorem idxB_any {α : Type} (p : α→Bool) (xs : List α) : decide (0≤idxB p xs)=xs.any p:=by
 unfold idxB
 cases h : xs.findIdx? p with
 |none=>
  rw [List.findIdx?_eq_none_iff] at h
  have : xs.any p=false:=by
   rw [List.any_eq_false];intro x hx;rw [h x hx];simp
  simp [this]
 |some i=>
  rw [List.findIdx?_eq_some_iff_getElem] at h
  obtain ⟨hl,hp,_⟩:=h
  have : xs.any p=true:=List.any_eq_true.2 ⟨xs[i],List.getElem_mem hl,hp⟩
  simp [this]
theorem prev_step {α : Type} {p : α→Bool} {xs : List α} {i : Nat} (hlt : i < xs.length) (hq : ∀ j x,j < i→xs[j]?=some x→p x=false) (hp : p xs[i]=false) : ∀ j x,j < i+1→xs[j]?=some x→p x=false:=by
 intro j x hj hx
 by_cases e : j=i
 ·subst e;rw [List.getElem?_eq_getElem hlt] at hx;injection hx with hx;subst hx;exact hp
 ·exact hq j x (by omega) hx
theorem prev_all {α : Type} {p : α→Bool} {xs : List α} {i : Nat} (hlt : ¬ i < xs.length) (hq : ∀ j x,j < i→xs[j]?=some x→p x=false) : ∀ (j : Nat) x,xs[j]?=some x→p x=false:=by
 intro j x hx
 have:=(List.getElem?_eq_some_iff.1 hx).1
 exact hq j x (by omega) hx
theorem d193 (f : FuncId) (p : Int × Int→Bool) (xs : List (Int × Int)) (hl : xs.length≤9223372036854775807) (hf : ∀ x,DetH Tryz.prog f [.pv (encI x)] [] [] (.pv (B (p x)))) : DetH Tryz.prog 193 [.pv (iv xs),.pv (Fv f)] [] [] (.pv (Z (idxB p xs))):=by
 refine detP_of Tryz.func193 rfl (by kernel_rfl) (by simp [Tryz.f193]) rfl ?_
 intro C hP hN
 simp only [Tryz.f193] at hN ⊢
 with_reducible repeat' (first|refine Sp.h ?_|((first|refine Ss.h ?_|(refine Sb.h ?_ ?_ ?_<;>(try intro hgd)<;>try exact Xy))<;>simp -implicitDefEqProofs (maxSteps:=2000000) [hP,hN])|refine X2 ?_ ?_|(refine Xd ?_ ?_<;>intro hcd<;>try exact Xx))
 refine WP.loopN [] xs.length (fun i st=>st.t 0=.pv (iv xs)∧st.t 1=.pv (Fv f)∧st.t 7=.pv (Z xs.length)∧st.t 8=.pv (Z i)∧∀ j x,j < i→xs[j]?=some x→p x=false) (by simp) ?_
 rintro i st hi ⟨h0,h1,h7,h8,hq⟩
 by_cases hlt : i < xs.length
 ·have hw:=wr_succ hlt hl
  with_reducible repeat' (first|refine Sp.h ?_|((first|refine Ss.h ?_|refine Sc.h (hf _) ?_|(refine Sb.h ?_ ?_ ?_<;>(try intro hgd)<;>try exact Xy))<;>simp -implicitDefEqProofs (maxSteps:=2000000) [hP,hN,h0,h1,h7,h8,hlt,hw])|refine X2 ?_ ?_|(refine Xd ?_ ?_<;>intro hcd<;>try exact Xx))
  ·exact (idxB_found hlt hq hcd).symm
  ·simpa using prev_step hlt hq hcd
 ·skip
  with_reducible repeat' (first|refine Sp.h ?_|((first|refine Ss.h ?_|(refine Sb.h ?_ ?_ ?_<;>(try intro hgd)<;>try exact Xy))<;>simp -implicitDefEqProofs (maxSteps:=2000000) [hP,hN,h0,h1,h7,h8,hlt])|refine X2 ?_ ?_|(refine Xd ?_ ?_<;>intro hcd<;>try exact Xx))
  exact (idxB_none (prev_all hlt hq)).symm
theorem d160 (f : FuncId) (p : Int × Int→Bool) (xs : List (Int × Int)) (hl : xs.length≤9223372036854775807) (hf : ∀ x,DetH Tryz.prog f [.pv (encI x)] [] [] (.pv (B (p x)))) : DetH Tryz.prog 160 [.pv (iv xs),.pv (Fv f)] [] [] (.pv (B (xs.any p))):=by
 refine detP_of Tryz.func160 rfl (by kernel_rfl) (by simp [Tryz.f160]) rfl ?_
 intro C hP hN
 simp only [Tryz.f160] at hN ⊢
 with_reducible repeat' (first|refine Sp.h ?_|((first|refine Ss.h ?_|refine Sc.h (d193 _ _ _ hl hf) ?_|(refine Sb.h ?_ ?_ ?_<;>(try intro hgd)<;>try exact Xy))<;>simp -implicitDefEqProofs (maxSteps:=2000000) [hP,hN])|refine X2 ?_ ?_|(refine Xd ?_ ?_<;>intro hcd<;>try exact Xx))
 all_goals (first|(simp_all [idxB_any];done)|((try simp_all [idxB_any])<;>(try omega)<;>grind))
def allB {α : Type} (p : α→Bool) (xs : List α) : Bool:=xs.all p
theorem any_not {α : Type} (p : α→Bool) (xs : List α) : (xs.any fun x=>!p x)=!allB p xs:=by simp [allB,List.any_eq_not_all_not]
abbrev vI (x : Int × Int) : Bool:=validB x.1 x.2
def smallB (x : Int) : Bool:=decide (-2147483648≤x) && decide (x≤2147483648)
end Go.Ab
namespace Go.Ab
open Go.Proofs
end Go.Ab
namespace Go.Ab
open Go.Proofs
theorem all_false {α : Type} {p : α→Bool} {xs : List α} {i : Nat} (hlt : i < xs.length) (hp : p xs[i]=false) : allB p xs=false:=by
 rw [allB,List.all_eq_false];exact ⟨xs[i],List.getElem_mem hlt,by simp [hp]⟩
theorem all_step {α : Type} {p : α→Bool} {xs : List α} {i : Nat} (hlt : i < xs.length) (h : allB p (xs.take i)=true) (hp : p xs[i]=true) : allB p (xs.take (i+1))=true:=by
 unfold allB at *;rw [List.take_succ_eq_append_getElem hlt,List.all_append,h];simp [hp]
theorem all_done {α : Type} {p : α→Bool} {xs : List α} {i : Nat} (hlt : ¬ i < xs.length) (h : allB p (xs.take i)=true) : allB p xs=true:=by
 rwa [List.take_of_length_le (by omega)] at h
theorem take_map_step {α β : Type} {f : α→β} {xs : List α} {i : Nat} (hlt : i < xs.length) : (xs.map f).take i++[f xs[i]]=(xs.map f).take (i+1):=by
 rw [List.take_succ_eq_append_getElem (by simpa using hlt)];simp
theorem take_done {α : Type} {xs : List α} {i n : Nat} (hn : xs.length=n) (hi : ¬ i < n) : xs.take i=xs:=List.take_of_length_le (by omega)
def allZ {α β : Type} (f : α→β→Bool) (xs : List α) (ys : List β) : Bool:=(List.zipWith f xs ys).all id
def allZt {α β : Type} (f : α→β→Bool) (xs : List α) (ys : List β) (i : Nat) : Bool:=((List.zipWith f xs ys).take i).all id
theorem allZ_false {α β : Type} {f : α→β→Bool} {xs : List α} {ys : List β} {i : Nat} (hlt : i < xs.length) (hlt' : i < ys.length) (hp : f xs[i] ys[i]=false) : allZ f xs ys=false:=
 all_false (p:=id) (xs:=List.zipWith f xs ys) (i:=i) (by simp;omega) (by simpa using hp)
theorem allZ_step {α β : Type} {f : α→β→Bool} {xs : List α} {ys : List β} {i : Nat} (hlt : i < xs.length) (hlt' : i < ys.length) (h : allZt f xs ys i=true) (hp : f xs[i] ys[i]=true) : allZt f xs ys (i+1)=true:=
 all_step (p:=id) (xs:=List.zipWith f xs ys) (i:=i) (by simp;omega) h (by simpa using hp)
theorem allZ_done {α β : Type} {f : α→β→Bool} {xs : List α} {ys : List β} {i : Nat} (hlt : ¬ i < xs.length) (h : allZt f xs ys i=true) : allZ f xs ys=true:=
 all_done (p:=id) (xs:=List.zipWith f xs ys) (i:=i) (by simp;omega) h
theorem d56 (xs : List (Int × Int)) (hl : xs.length≤9223372036854775807) : DetH Tryz.prog 56 [.pv (iv xs)] [] [] (.pv (B (allB vI xs))):=by
 refine detP_of Tryz.func56 rfl (by kernel_rfl) (by simp [Tryz.f56]) rfl ?_
 intro C hP hN
 simp only [Tryz.f56] at hN ⊢
 with_reducible repeat' (first|refine Sp.h ?_|((first|refine Ss.h ?_|(refine Sb.h ?_ ?_ ?_<;>(try intro hgd)<;>try exact Xy))<;>simp -implicitDefEqProofs (maxSteps:=2000000) [hP,hN])|refine X2 ?_ ?_|(refine Xd ?_ ?_<;>intro hcd<;>try exact Xx))
 refine WP.loopN [] xs.length (fun i st=>st.t 0=.pv (iv xs)∧st.t 3=.pv (Z i)∧allB vI (xs.take i)=true) (by simp [allB]) ?_
 rintro i st hi ⟨h0,h1,hq⟩
 by_cases hlt : i < xs.length
 ·have hw:=wr_succ hlt hl
  have hF : vI xs[i]=false→allB vI xs=false:=all_false hlt
  have hS : vI xs[i]=true→allB vI (xs.take (i+1))=true:=all_step hlt hq
  with_reducible repeat' (first|refine Sp.h ?_|((first|refine Ss.h ?_|refine Sc.h (d102 _ _) ?_|(refine Sb.h ?_ ?_ ?_<;>(try intro hgd)<;>try exact Xy))<;>simp -implicitDefEqProofs (maxSteps:=2000000) [hP,hN,h0,h1,hlt,hw])|refine X2 ?_ ?_|(refine Xd ?_ ?_<;>intro hcd<;>try exact Xx))
  all_goals first|(rw [hF];simp_all [smallB];try omega)|(rw [hS];simp_all [smallB];try omega)
 ·skip
  with_reducible repeat' (first|refine Sp.h ?_|((first|refine Ss.h ?_|(refine Sb.h ?_ ?_ ?_<;>(try intro hgd)<;>try exact Xy))<;>simp -implicitDefEqProofs (maxSteps:=2000000) [hP,hN,h0,h1,hlt])|refine X2 ?_ ?_|(refine Xd ?_ ?_<;>intro hcd<;>try exact Xx))
  simp [all_done hlt hq]
theorem d55 (xs : List (Int)) (hl : xs.length≤9223372036854775807) : DetH Tryz.prog 55 [.pv (zs xs)] [] [] (.pv (B (allB smallB xs))):=by
 refine detP_of Tryz.func55 rfl (by kernel_rfl) (by simp [Tryz.f55]) rfl ?_
 intro C hP hN
 simp only [Tryz.f55] at hN ⊢
 with_reducible repeat' (first|refine Sp.h ?_|((first|refine Ss.h ?_|(refine Sb.h ?_ ?_ ?_<;>(try intro hgd)<;>try exact Xy))<;>simp -implicitDefEqProofs (maxSteps:=2000000) [hP,hN])|refine X2 ?_ ?_|(refine Xd ?_ ?_<;>intro hcd<;>try exact Xx))
 refine WP.loopN [] xs.length (fun i st=>st.t 0=.pv (zs xs)∧st.t 3=.pv (Z i)∧allB smallB (xs.take i)=true) (by simp [allB]) ?_
 rintro i st hi ⟨h0,h1,hq⟩
 by_cases hlt : i < xs.length
 ·have hw:=wr_succ hlt hl
  have hF : smallB xs[i]=false→allB smallB xs=false:=all_false hlt
  have hS : smallB xs[i]=true→allB smallB (xs.take (i+1))=true:=all_step hlt hq
  with_reducible repeat' (first|refine Sp.h ?_|((first|refine Ss.h ?_|(refine Sb.h ?_ ?_ ?_<;>(try intro hgd)<;>try exact Xy))<;>simp -implicitDefEqProofs (maxSteps:=2000000) [hP,hN,h0,h1,hlt,hw])|refine X2 ?_ ?_|(refine Xd ?_ ?_<;>intro hcd<;>try exact Xx))
  all_goals first|(rw [hF];simp_all [smallB];try omega)|(rw [hS];simp_all [smallB];try omega)
 ·skip
  with_reducible repeat' (first|refine Sp.h ?_|((first|refine Ss.h ?_|(refine Sb.h ?_ ?_ ?_<;>(try intro hgd)<;>try exact Xy))<;>simp -implicitDefEqProofs (maxSteps:=2000000) [hP,hN,h0,h1,hlt])|refine X2 ?_ ?_|(refine Xd ?_ ?_<;>intro hcd<;>try exact Xx))
  simp [all_done hlt hq]
def hasI (x : Int × Int) (c : Int) : Bool:=validB x.1 x.2 && decide (x.1≤c) && decide (c≤x.2)
def boxL (xs : List Int) : List (Int × Int):=if allB smallB xs then xs.map (fun x=>(x,x)) else []
def eqB {α : Type} [DecidableEq α] (x y : α) : Bool:=decide (x=y)
theorem allZ_eq {α : Type} [DecidableEq α] {xs ys : List α} (he : xs.length=ys.length) : allZ eqB xs ys=decide (xs=ys):=by
 unfold allZ
 induction xs generalizing ys with
 |nil=>cases ys<;>simp at he ⊢
 |cons x xs ih=>cases ys with
  |nil=>simp at he
  |cons y ys=>simp only [List.zipWith_cons_cons,List.all_cons,ih (by simpa using he)];simp [eqB,Bool.decide_and]
def sameX {α : Type} [DecidableEq α] (xs ys : List α) : Bool:=decide (xs.length=ys.length) && allZ eqB xs ys
theorem d67 (xs : List (Int)) (ys : List (Int)) (hl : xs.length≤9223372036854775807) (hm : ys.length≤9223372036854775807) : DetH Tryz.prog 67 [.pv (zs xs),.pv (zs ys)] [] [] (.pv (B (sameX xs ys))):=by
 refine detP_of Tryz.func67 rfl (by kernel_rfl) (by simp [Tryz.f67]) rfl ?_
 intro C hP hN
 simp only [Tryz.f67] at hN ⊢
 by_cases he : xs.length=ys.length
 ·skip
  with_reducible repeat' (first|refine Sp.h ?_|((first|refine Wd ?_|refine Ss.h ?_|(refine Sb.h ?_ ?_ ?_<;>(try intro hgd)<;>try exact Xy))<;>simp -implicitDefEqProofs (maxSteps:=2000000) [hP,hN,he]<;>try refine Ya ?_)|refine X2 ?_ ?_|(refine Xd ?_ ?_<;>intro hcd<;>try exact Xx))
  refine WP.loopN [] xs.length (fun i st=>st.t 0=.pv (zs xs)∧st.t 1=.pv (zs ys)∧st.t 5=.pv (Z i)∧allZt eqB xs ys i=true) (by simp [allZt]) ?_
  rintro i st hi ⟨h0,h1,h2,hq⟩
  by_cases hlt : i < xs.length
  ·have hw:=wr_succ hlt hl
   have hlt' : i < ys.length:=by omega
   have hF : eqB xs[i] ys[i]=false→allZ eqB xs ys=false:=allZ_false hlt hlt'
   have hS : eqB xs[i] ys[i]=true→allZt eqB xs ys (i+1)=true:=allZ_step hlt hlt' hq
   with_reducible repeat' (first|refine Sp.h ?_|((first|refine Wd ?_|refine Ss.h ?_|(refine Sb.h ?_ ?_ ?_<;>(try intro hgd)<;>try exact Xy))<;>simp -implicitDefEqProofs (maxSteps:=2000000) [hP,hN,h0,h1,h2,hlt,hlt',hw]<;>try refine Ya ?_)|refine X2 ?_ ?_|(refine Xd ?_ ?_<;>intro hcd<;>try exact Xx))
   all_goals first|(rw [sameX,hF (by simp only [eqB]<;>grind)];simp;done)|(rw [hS (by simp only [eqB]<;>grind)];done)
  ·have hlt' : ¬ i < ys.length:=by omega
   with_reducible repeat' (first|refine Sp.h ?_|((first|refine Wd ?_|refine Ss.h ?_|(refine Sb.h ?_ ?_ ?_<;>(try intro hgd)<;>try exact Xy))<;>simp -implicitDefEqProofs (maxSteps:=2000000) [hP,hN,h0,h1,h2,hlt,hlt']<;>try refine Ya ?_)|refine X2 ?_ ?_|(refine Xd ?_ ?_<;>intro hcd<;>try exact Xx))
   all_goals simp [sameX,he,allZ_done hlt hq]
 ·skip
  with_reducible repeat' (first|refine Sp.h ?_|((first|refine Wd ?_|refine Ss.h ?_|(refine Sb.h ?_ ?_ ?_<;>(try intro hgd)<;>try exact Xy))<;>simp -implicitDefEqProofs (maxSteps:=2000000) [hP,hN,he]<;>try refine Ya ?_)|refine X2 ?_ ?_|(refine Xd ?_ ?_<;>intro hcd<;>try exact Xx))
  all_goals simp [sameX,he]
end Go.Ab
namespace Go.Ab
open Go.Proofs
theorem d20 (xs : List Int) (hl : xs.length≤16777216) : DetH Tryz.prog 20 [.pv (zs xs)] [] [] (.pv (iv (boxL xs))):=by
 refine detP_of Tryz.func20 rfl (by kernel_rfl) (by simp [Tryz.f20]) rfl ?_
 intro C hP hN
 simp only [Tryz.f20] at hN ⊢
 cases hv : allB smallB xs with
 |false=>
  with_reducible repeat' (first|refine Sp.h ?_|((first|refine Wd ?_|refine Ss.h ?_|refine Sc.h (d55 _ (big hl)) ?_|(refine Sb.h ?_ ?_ ?_<;>(try intro hgd)<;>try exact Xy))<;>simp -implicitDefEqProofs (maxSteps:=2000000) [hP,hN,hv]<;>try refine Ya ?_)|refine X2 ?_ ?_|(refine Xd ?_ ?_<;>intro hcd<;>try exact Xx))
  all_goals simp [boxL,hv]
 |true=>
  with_reducible repeat' (first|refine Sp.h ?_|((first|refine Wh [3] ?_|refine Wi [3] ?_|refine Ss.h ?_|refine Sc.h (d55 _ (big hl)) ?_|(refine Sb.h ?_ ?_ ?_<;>(try intro hgd)<;>try exact Xy))<;>simp -implicitDefEqProofs (maxSteps:=2000000) [hP,hN,hv]<;>try refine Ya ?_)|refine X2 ?_ ?_|(refine Xd ?_ ?_<;>intro hcd<;>try exact Xx))
  refine WP.loopN [24] xs.length (fun i st=>st.t 0=.pv (zs xs)∧st.t 4=.pv (Z i)∧st.t 3=.arr 3 i∧st.h 24=none∧st.h 3=some (.row 66 2 ((xs.map fun x=>I x x).take i) 0)) (by simp) ?_
  rintro i st hi ⟨h0,h6,h5,hb,hr⟩
  by_cases hlt : i < xs.length
  ·have hw:=wr_succ hlt (big hl)
   have hz : min i xs.length=i:=by omega
   have hs:=take_map_step (f:=fun x=>I x x) hlt
   with_reducible repeat' (first|refine Sp.h ?_|((first|refine Wd ?_|refine Ss.h ?_|(refine Sb.h ?_ ?_ ?_<;>(try intro hgd)<;>try exact Xy))<;>simp -implicitDefEqProofs (maxSteps:=2000000) [hP,hN,h0,h6,h5,hb,hr,hlt,hw,hz,hs,show (i+1) * 16≤140737488355328 by omega,show i+1≤9223372036854775807 by omega]<;>try refine Ya ?_)|refine X2 ?_ ?_|(refine Xd ?_ ?_<;>intro hcd<;>try exact Xx))
  ·have hz : min i xs.length=i:=by omega
   with_reducible repeat' (first|refine Sp.h ?_|((first|refine Wd ?_|refine Ss.h ?_|(refine Sb.h ?_ ?_ ?_<;>(try intro hgd)<;>try exact Xy))<;>simp -implicitDefEqProofs (maxSteps:=2000000) [hP,hN,h0,h6,h5,hb,hr,hlt,hz]<;>try refine Ya ?_)|refine X2 ?_ ?_|(refine Xd ?_ ?_<;>intro hcd<;>try exact Xx))
   simp [boxL,hv]
   exact take_done (by simp) hlt
end Go.Ab
namespace Go.Ab
open Go.Proofs
def widthI (x : Int × Int) : Int:=if validB x.1 x.2 then wr (x.2 - x.1) else 0
def midI (x : Int × Int) : Int:=if validB x.1 x.2 then (wr (x.1+x.2)).fdiv 2 else 0
def halveOk (xs : List (Int × Int)) (j : Int) : Bool:=decide (0≤j) && allB vI xs && (match xs[j.toNat]? with|some x=>decide (2≤widthI x)|none=>false)
def halveA (xs : List (Int × Int)) (j : Int) : List (Int × Int):=if halveOk xs j then (match xs[j.toNat]? with|some x=>xs.set j.toNat (x.1,midI x)|none=>[]) else []
def halveZ (xs : List (Int × Int)) (j : Int) : List (Int × Int):=if halveOk xs j then (match xs[j.toNat]? with|some x=>xs.set j.toNat (midI x,x.2)|none=>[]) else []
end Go.Ab
namespace Go.Ab
open Go.Proofs
def nx (l : List Int) (n : Nat) (k : Int) : Int:=match l[n]? with
 |some x=>roundI x k
 |none=>0
def nn (l : List Int) (n : Nat) : Nat:=if n < l.length then n+1 else n
abbrev srcP (l : List Int) (n : Nat) : List PV:=[zs l,Z n]
theorem d29 (l : List Int) : DetH Tryz.prog 29 [.pv (zs l)] [] [] (.box (srcP l 0)):=by
 refine detP_of Tryz.func29 rfl (by kernel_rfl) (by simp [Tryz.f29]) rfl ?_
 intro C hP hN
 simp only [Tryz.f29] at hN ⊢
 with_reducible repeat' (first|refine Sp.h ?_|((first|refine Ss.h ?_|(refine Sb.h ?_ ?_ ?_<;>(try intro hgd)<;>try exact Xy))<;>simp -implicitDefEqProofs (maxSteps:=2000000) [hP,hN])|refine X2 ?_ ?_|(refine Xd ?_ ?_<;>intro hcd<;>try exact Xx))
 all_goals (first|(simp_all;done)|((try simp_all)<;>(try omega)<;>grind))
theorem nn_le (l : List Int) (n : Nat) : nn l n≤n+1:=by unfold nn;split<;>omega
theorem d31 (l : List Int) (n : Nat) (k : Int) (hk : k≠0) (hn : n < 1000000) : DetH Tryz.prog 31 [.bx 0,.pv (Z k)] [srcP l n] [srcP l (nn l n)] (.pv (Z (nx l n k))):=by
 have hw : IntKind.i64.wrap ((n : Int)+1)=(n : Int)+1:=by rw [IntKind.wrap_i64];omega
 have hw' : IntKind.i64.wrap (n : Int)=n:=by rw [IntKind.wrap_i64];omega
 refine detH_of Tryz.func31 rfl (by kernel_rfl) (by simp [Tryz.f31]) rfl (by intro i j h;rcases i with _|_|_|i<;>simp_all) ?_
 intro C hP hN
 simp only [Tryz.f31] at hN ⊢
 by_cases hlt : n < l.length
 ·skip
  with_reducible repeat' (first|refine Sp.h ?_|((first|refine Wd ?_|refine Ss.h ?_|refine Sc.h (d28 _ _ hk) ?_|(refine Sb.h ?_ ?_ ?_<;>(try intro hgd)<;>try exact Xy))<;>simp -implicitDefEqProofs (maxSteps:=2000000) [hP,hN,srcP,hlt,hw,hw',Nat.not_le.2 hlt]<;>try refine Ya ?_)|refine X2 ?_ ?_|(refine Xd ?_ ?_<;>intro hcd<;>try exact Xx))
  simp [nn,nx,hlt]
 ·skip
  with_reducible repeat' (first|refine Sp.h ?_|((first|refine Wd ?_|refine Ss.h ?_|(refine Sb.h ?_ ?_ ?_<;>(try intro hgd)<;>try exact Xy))<;>simp -implicitDefEqProofs (maxSteps:=2000000) [hP,hN,srcP,hlt,Nat.not_lt.1 hlt]<;>try refine Ya ?_)|refine X2 ?_ ?_|(refine Xd ?_ ?_<;>intro hcd<;>try exact Xx))
  simp [nn,nx,hlt]
theorem d33 (l : List Int) (n : Nat) (k : Int) (h0 : 0 < k) (hk : k < 1000000) (hn : n < 1000000) : DetH Tryz.prog 33 [.bx 0,.pv (Z k)] [srcP l n] [srcP l (nn l n)] (.pv (Z (wr (nx l n (2 * k+1) - k)))):=by
 have hw : IntKind.i64.wrap (2 * k)=2 * k:=by rw [IntKind.wrap_i64];omega
 have hw' : IntKind.i64.wrap (2 * k+1)=2 * k+1:=by rw [IntKind.wrap_i64];omega
 refine detH_of Tryz.func33 rfl (by kernel_rfl) (by simp [Tryz.f33]) rfl (by intro i j h;rcases i with _|_|_|i<;>simp_all) ?_
 intro C hP hN
 simp only [Tryz.f33] at hN ⊢
 with_reducible repeat' (first|refine Sp.h ?_|((first|refine Ss.h ?_|refine Sc.h (d31 l n (2 * k+1) (by omega) hn) ?_|(refine Sb.h ?_ ?_ ?_<;>(try intro hgd)<;>try exact Xy))<;>simp -implicitDefEqProofs (maxSteps:=2000000) [hP,hN,srcP,hw,hw'])|refine X2 ?_ ?_|(refine Xd ?_ ?_<;>intro hcd<;>try exact Xx))
theorem nx_range (l : List Int) (n : Nat) {k : Int} (hk : 0 < k) (hk' : k < 4611686018427387904) : 0≤nx l n k∧nx l n k < k:=by
 unfold nx
 split
 ·rename_i x _
  have h1 : -k < x.tmod k:=by have:=Int.lt_tmod_of_pos x hk;omega
  have h2 : x.tmod k < k:=Int.tmod_lt_of_pos x hk
  unfold roundI
  split
  ·rw [wr_id (by omega) (by omega)];omega
  ·omega
 ·omega
def kindOf (a : Int) : Int:=if a=2 then 1 else if a=3 then 2 else if a=4 then 4 else if a=5 then 5 else if a=7 then 0 else 3
theorem kind_at {c : Int} (h0 : 0≤c) (h8 : c < 8) : ∀ h,([.int .i64 3,.int .i64 3,.int .i64 1,.int .i64 2,.int .i64 4,.int .i64 5,.int .i64 3,.int .i64 0] : List Value)[c.toNat]'h=.int .i64 (kindOf c):=by
 have : c=0∨c=1∨c=2∨c=3∨c=4∨c=5∨c=6∨c=7:=by omega
 rcases this with rfl|rfl|rfl|rfl|rfl|rfl|rfl|rfl<;>(intro h;rfl)
def letB (i : Nat) : ByteArray:=⟨#[UInt8.ofNat (97+i)]⟩
abbrev abc : Value:=.string ⟨#[97,98,99,100,101,102,103,104,105,106]⟩
def rho118 (i : Nat) : Operand→AV:=fun x=>match x with
 |.tmp 3=>.pv (Z i)
 |.tmp 5=>.pv (Z ((i : Int)+1))
 |_=>.pv (.val abc)
section
variable {dst : Option Nat} {ty : TypeId} {pos : String} {aft : Array Edge} {g : Option (Nat × Bool)} {ρ : Operand→AV}
theorem sl118_0 : evPure Tryz.prog ⟨dst,.slice 9 (.const abc) (some (.tmp 3)) (some (.tmp 5)) none,ty,pos,aft,g⟩ (rho118 0)=some (.pv (.val (.string (letB 0))),[]):=by kernel_rfl
theorem sl118_1 : evPure Tryz.prog ⟨dst,.slice 9 (.const abc) (some (.tmp 3)) (some (.tmp 5)) none,ty,pos,aft,g⟩ (rho118 1)=some (.pv (.val (.string (letB 1))),[]):=by kernel_rfl
theorem sl118_2 : evPure Tryz.prog ⟨dst,.slice 9 (.const abc) (some (.tmp 3)) (some (.tmp 5)) none,ty,pos,aft,g⟩ (rho118 2)=some (.pv (.val (.string (letB 2))),[]):=by kernel_rfl
theorem sl118 (i : Nat) (h3 : i < 3) (hc : ρ (.const abc)=.pv (.val abc)) (hx : ρ (.tmp 3)=.pv (Z i)) (hy : ρ (.tmp 5)=.pv (Z ((i : Int)+1))) :
 evPure Tryz.prog ⟨dst,.slice 9 (.const abc) (some (.tmp 3)) (some (.tmp 5)) none,ty,pos,aft,g⟩ ρ=some (.pv (.val (.string (letB i))),[]):=by
 have h : evPure Tryz.prog ⟨dst,.slice 9 (.const abc) (some (.tmp 3)) (some (.tmp 5)) none,ty,pos,aft,g⟩ ρ=evPure Tryz.prog ⟨dst,.slice 9 (.const abc) (some (.tmp 3)) (some (.tmp 5)) none,ty,pos,aft,g⟩ (rho118 i):=by
  refine evPure_congr (by intro _ _ h;cases h) ?_
  intro x hx'
  simp [Op.operands] at hx'
  rcases hx' with rfl|rfl|rfl
  ·exact hc
  ·exact hx
  ·exact hy
 rw [h]
 have : i=0∨i=1∨i=2:=by omega
 rcases this with rfl|rfl|rfl
 ·exact sl118_0
 ·exact sl118_1
 ·exact sl118_2
end
theorem d108 (i : Nat) (h3 : i < 3) : DetH Tryz.prog 108 [.pv (Z i)] [] [] (.pv (.val (.string (letB i)))):=by
 have hw : IntKind.i64.wrap ((i : Int)+1)=(i : Int)+1:=by rw [IntKind.wrap_i64];omega
 refine detP_of Tryz.func108 rfl (by kernel_rfl) (by simp [Tryz.f108]) rfl ?_
 intro C hP hN
 simp only [Tryz.f108] at hN ⊢
 with_reducible repeat' (first|refine Sp.h ?_|((first|refine Ss.h ?_|(refine Sb.h ?_ ?_ ?_<;>(try intro hgd)<;>try exact Xy))<;>simp -implicitDefEqProofs (maxSteps:=2000000) [hP,hN,hw])|refine X2 ?_ ?_|(refine Xd ?_ ?_<;>intro hcd<;>try exact Xx))
 rw [sl118 i h3 rfl (by simp) (by simp)]
 simp [hP,hN]
 with_reducible repeat' (first|refine Sp.h ?_|((first|refine Ss.h ?_|(refine Sb.h ?_ ?_ ?_<;>(try intro hgd)<;>try exact Xy))<;>simp -implicitDefEqProofs (maxSteps:=2000000) [hP,hN,hw])|refine X2 ?_ ?_|(refine Xd ?_ ?_<;>intro hcd<;>try exact Xx))
end Go.Ab
namespace Go.Ab
open Go.Proofs
structure J where
 name : ByteArray
 kind : Int
 parent : Int
 ox : Int
 oy : Int
 oz : Int
 lo : Int
 hi : Int
 w : Int
 sp : Int
 ac : Int
 tq : Int
abbrev encJ (j : J) : PV:=.val (.agg #[.string j.name,.int .i64 j.kind,.int .i64 j.parent,.int .i64 j.ox,.int .i64 j.oy,.int .i64 j.oz,.int .i64 j.lo,.int .i64 j.hi,.int .i64 j.w,.int .i64 j.sp,.int .i64 j.ac,.int .i64 j.tq])
def jN4 (l : List Int) (n : Nat) : Nat:=nn l (nn l (nn l (nn l n)))
def jN5 (l : List Int) (n i : Nat) : Nat:=if 0 < i then nn l (nn l (jN4 l n)) else jN4 l n
def jKind (l : List Int) (n : Nat) : Int:=kindOf (nx l (nn l (nn l n)) 8)
def jLo (l : List Int) (n i : Nat) : Int:=if jKind l n=0 then 0 else if jKind l n=4∨jKind l n=5 then wr (wr (-nx l (jN5 l n i) 3) * 65536) else wr ((wr (wr (-nx l (jN5 l n i) 5) * 65536)).tdiv 8)
def jHi (l : List Int) (n i : Nat) : Int:=if jKind l n=0 then 0 else if jKind l n=4∨jKind l n=5 then wr (nx l (nn l (jN5 l n i)) 4 * 32768) else wr (wr ((wr (wr (1+nx l (nn l (jN5 l n i)) 4) * 65536)).tdiv 8)+nx l (nn l (nn l (jN5 l n i))) 3)
def jEnd (l : List Int) (n i : Nat) : Nat:=if jKind l n=0 then jN5 l n i else if jKind l n=4∨jKind l n=5 then nn l (nn l (jN5 l n i)) else nn l (nn l (nn l (jN5 l n i)))
def jointF (l : List Int) (n i : Nat) : J where
 name:=letB i
 kind:=jKind l n
 parent:=if nx l (nn l (nn l (nn l n))) 4=1 then -1 else wr ((i : Int) - 1)
 ox:=if 0 < i then 131072 else 0
 oy:=if 0 < i then wr (wr (nx l (jN4 l n) 5 - 2) * 32768) else 0
 oz:=if 0 < i then wr (wr (nx l (nn l (jN4 l n)) 3 - 1) * 32768) else 0
 lo:=jLo l n i
 hi:=jHi l n i
 w:=wr (1+nx l n 4)
 sp:=65536
 ac:=wr (65536+nx l (nn l n) 3)
 tq:=327680
set_option maxHeartbeats 4000000 in
theorem d66 (l : List Int) (n i : Nat) (h3 : i < 3) (hn : n < 900000) : DetH Tryz.prog 66 [.bx 0,.pv (Z i)] [srcP l n] [srcP l (jEnd l n i)] (.pv (encJ (jointF l n i))):=by
 have hx:=nx_range l (nn l (nn l n)) (k:=8) (by decide) (by decide)
 have l1:=nn_le l n
 have l2:=nn_le l (nn l n)
 have l3:=nn_le l (nn l (nn l n))
 have l4:=nn_le l (nn l (nn l (nn l n)))
 have l5:=nn_le l (nn l (nn l (nn l (nn l n))))
 have l6:=nn_le l (nn l (nn l (nn l (nn l (nn l n)))))
 have l7:=nn_le l (nn l (nn l (nn l (nn l (nn l (nn l n))))))
 have l8:=nn_le l (nn l (nn l (nn l (nn l (nn l (nn l (nn l n)))))))
 have l9:=nn_le l (nn l (nn l (nn l (nn l (nn l (nn l (nn l (nn l n))))))))
 have hix:=kind_at hx.1 hx.2
 refine detH_of Tryz.func66 rfl (by kernel_rfl) (by simp [Tryz.f66]) rfl (by intro i j h;rcases i with _|_|_|i<;>simp_all) ?_
 intro C hP hN
 simp only [Tryz.f66] at hN ⊢
 with_reducible repeat' (first|refine Sp.h ?_|((first|refine Ss.h ?_|refine Sc.h (d108 i h3) ?_|refine Sc.h (d31 l _ _ (by decide) (by omega)) ?_|refine Sc.h (d33 l _ _ (by decide) (by decide) (by omega)) ?_|(refine Sb.h ?_ ?_ ?_<;>(try intro hgd)<;>try exact Xy))<;>simp -implicitDefEqProofs (maxSteps:=2000000) [hP,hN,srcP,hix,hx.1,hx.2])|refine X2 ?_ ?_|(refine Xd ?_ ?_<;>intro hcd<;>try exact Xx))
 all_goals (clear hix hP hN l1 l2 l3 l4 l5 l6 l7 l8 l9 hx h3 hn;simp_all [jointF,jEnd,jLo,jHi,jKind,jN5,jN4])
end Go.Ab
namespace Go.Ab
open Go.Proofs
structure Ms where
 link : Int
 mass : Int
 px : Int
 py : Int
 pz : Int
abbrev encM (m : Ms) : PV:=.val (.agg #[.int .i64 m.link,.int .i64 m.mass,.int .i64 m.px,.int .i64 m.py,.int .i64 m.pz])
def jSt (l : List Int) (m : Nat) : Nat→Nat
 |0=>m
 |i+1=>jEnd l (jSt l m i) i
theorem jN5_le (l : List Int) (n i : Nat) : jN5 l n i≤n+6:=by
 have l1:=nn_le l n
 have l2:=nn_le l (nn l n)
 have l3:=nn_le l (nn l (nn l n))
 have l4:=nn_le l (nn l (nn l (nn l n)))
 have l5:=nn_le l (nn l (nn l (nn l (nn l n))))
 have l6:=nn_le l (nn l (nn l (nn l (nn l (nn l n)))))
 unfold jN5 jN4;split<;>omega
theorem jEnd_le (l : List Int) (n i : Nat) : jEnd l n i≤n+9:=by
 have h:=jN5_le l n i
 have l1:=nn_le l (jN5 l n i)
 have l2:=nn_le l (nn l (jN5 l n i))
 have l3:=nn_le l (nn l (nn l (jN5 l n i)))
 unfold jEnd;split
 ·omega
 ·split<;>omega
theorem jSt_le (l : List Int) (m i : Nat) : jSt l m i≤m+9 * i:=by
 induction i with
 |zero=>simp [jSt]
 |succ i ih=>have:=jEnd_le l (jSt l m i) i;simp only [jSt];omega
def jsF (l : List Int) (m k : Nat) : List J:=(List.range k).map fun i=>jointF l (jSt l m i) i
theorem jsF_succ (l : List Int) (m k : Nat) : (jsF l m (k+1)).map encJ=(jsF l m k).map encJ++[encJ (jointF l (jSt l m k) k)]:=by simp [jsF,List.range_succ]
theorem jsF_len (l : List Int) (m k : Nat) : (jsF l m k).length=k:=by simp [jsF]
def mSt (l : List Int) (m : Nat) : Nat→Nat
 |0=>m
 |i+1=>nn l (nn l (nn l (nn l (mSt l m i))))
theorem mSt_le (l : List Int) (m i : Nat) : mSt l m i≤m+4 * i:=by
 induction i with
 |zero=>simp [mSt]
 |succ i ih=>
  have l1:=nn_le l (mSt l m i)
  have l2:=nn_le l (nn l (mSt l m i))
  have l3:=nn_le l (nn l (nn l (mSt l m i)))
  have l4:=nn_le l (nn l (nn l (nn l (mSt l m i))))
  simp only [mSt];omega
def massF (l : List Int) (m : Nat) (n : Int) : Ms where
 link:=nx l m n
 mass:=wr (1+nx l (nn l m) 9000)
 px:=wr (wr (nx l (nn l (nn l m)) 7 - 3) * 32768)
 py:=0
 pz:=wr (wr (nx l (nn l (nn l (nn l m))) 5 - 2) * 32768)
def msF (l : List Int) (m : Nat) (n : Int) (k : Nat) : List Ms:=(List.range k).map fun i=>massF l (mSt l m i) n
theorem msF_succ (l : List Int) (m : Nat) (n : Int) (k : Nat) : (msF l m n (k+1)).map encM=(msF l m n k).map encM++[encM (massF l (mSt l m k) n)]:=by simp [msF,List.range_succ]
theorem msF_len (l : List Int) (m : Nat) (n : Int) (k : Nat) : (msF l m n k).length=k:=by simp [msF]
abbrev nilV : AV:=.pv (.val (.slice none 0 0))
def rN (l : List Int) (n : Nat) : Nat:=(1+nx l n 3).toNat
def rM (l : List Int) (n : Nat) : Nat:=jSt l (nn l n) (rN l n)
def rK (l : List Int) (n : Nat) : Nat:=(nx l (rM l n) 3).toNat
def rJs (l : List Int) (n : Nat) : List J:=jsF l (nn l n) (rN l n)
def rMs (l : List Int) (n : Nat) : List Ms:=msF l (nn l (rM l n)) (rN l n) (rK l n)
def rEnd (l : List Int) (n : Nat) : Nat:=mSt l (nn l (rM l n)) (rK l n)
set_option maxHeartbeats 4000000 in
theorem d30 (l : List Int) (n : Nat) (hn : n < 100000) : DetH Tryz.prog 30 [.bx 0] [srcP l n] [srcP l (rEnd l n)] (.pv (.agg [.sl ((rJs l n).map encJ),.sl ((rMs l n).map encM)])):=by
 have hx:=nx_range l n (k:=3) (by decide) (by decide)
 have hw1 : IntKind.i64.wrap (1+nx l n 3)=((rN l n : Nat) : Int):=by rw [IntKind.wrap_i64,rN];omega
 have hrN : rN l n≤3∧0 < rN l n:=by unfold rN;omega
 have hl1:=nn_le l n
 refine detH_of Tryz.func30 rfl (by kernel_rfl) (by simp [Tryz.f30]) rfl (by intro i j h;rcases i with _|_|_|i<;>simp_all) ?_
 intro C hP hN
 simp only [Tryz.f30] at hN ⊢
 with_reducible repeat' (first|refine Sp.h ?_|((first|refine Wd ?_|refine Ss.h ?_|refine Sc.h (d31 l n 3 (by decide) (by omega)) ?_|(refine Sb.h ?_ ?_ ?_<;>(try intro hgd)<;>try exact Xy))<;>simp -implicitDefEqProofs (maxSteps:=2000000) [hP,hN,srcP,hw1]<;>try refine Ya ?_)|refine X2 ?_ ?_|(refine Xd ?_ ?_<;>intro hcd<;>try exact Xx))
 refine WP.loopN [20] (rN l n) (fun i st=>st.t 0=.ptr (pk 0) 0∧st.t 2=.ptr 2 0∧st.t 3=.ptr 3 0∧st.t 4=.pv (Z (rN l n))∧st.t 5=.pv (Z i)∧
  st.h (pk 0)=some (.box [.pv (zs l),.pv (Z (jSt l (nn l n) i))] false false)∧st.h 2=some (.box [nilV,nilV] true false)∧st.h 20=none∧st.h 45=none∧st.h 46=none∧
  ((i=0∧st.h 3=some (.box [nilV,nilV] true false)∧st.h 21=none)∨(0 < i∧st.h 3=some (.box [.arr 21 i,nilV] true false)∧st.h 21=some (.row 62 12 ((jsF l (nn l n) i).map encJ) 0)))) (by simp [jSt]) ?_
 rintro i st hi ⟨h0,h2,h3,h4,h5,hp,hb2,hb20,hb45,hb46,hor⟩
 by_cases hlt : i < rN l n
 ·have hw : IntKind.i64.wrap ((i : Int)+1)=(i : Int)+1:=by rw [IntKind.wrap_i64];omega
  have hm:=jSt_le l (nn l n) i
  have hJ:=jsF_succ l (nn l n) i
  have hS : jSt l (nn l n) (i+1)=jEnd l (jSt l (nn l n) i) i:=rfl
  rcases hor with ⟨hi0,hb3,hb21⟩|⟨hi0,hb3,hb21⟩
  ·subst hi0
   with_reducible repeat' (first|refine Sp.h ?_|((first|refine Wd ?_|refine Ss.h ?_|refine Sc.h (d66 l _ 0 (by omega) (by omega)) ?_|(refine Sb.h ?_ ?_ ?_<;>(try intro hgd)<;>try exact Xy))<;>simp -implicitDefEqProofs (maxSteps:=2000000) [hP,hN,h0,h2,h3,h4,h5,hp,hb2,hb20,hb45,hb46,hb3,hb21,hlt,hw,hS]<;>try refine Ya ?_)|refine X2 ?_ ?_|(refine Xd ?_ ?_<;>intro hcd<;>try exact Xx))
   exact ⟨by decide,by simp [jsF]⟩
  ·have hz:=jsF_len l (nn l n) i
   with_reducible repeat' (first|refine Sp.h ?_|((first|refine Wd ?_|refine Ss.h ?_|refine Sc.h (d66 l _ i (by omega) (by omega)) ?_|(refine Sb.h ?_ ?_ ?_<;>(try intro hgd)<;>try exact Xy))<;>simp -implicitDefEqProofs (maxSteps:=2000000) [hP,hN,h0,h2,h3,h4,h5,hp,hb2,hb20,hb45,hb46,hb3,hb21,hlt,hw,hS,hz,show (i+1) * 104≤140737488355328 by omega,show i≤9223372036854775806 by omega]<;>try refine Ya ?_)|refine X2 ?_ ?_|(refine Xd ?_ ?_<;>intro hcd<;>try exact Xx))
   simp [hJ]
 ·have hir : i=rN l n:=by omega
  rcases hor with ⟨hi0,_⟩|⟨hi0,hb3,hb21⟩
  ·omega
  subst hir
  have hm:=jSt_le l (nn l n) (rN l n)
  have hx3:=nx_range l (rM l n) (k:=3) (by decide) (by decide)
  have hk : nx l (jSt l (nn l n) (rN l n)) 3=((rK l n : Nat) : Int):=by show nx l (rM l n) 3=_;unfold rK;omega
  have hk3 : rK l n < 3:=by unfold rK;omega
  have hz:=jsF_len l (nn l n) (rN l n)
  have hl2:=nn_le l (rM l n)
  have hmr : rM l n≤nn l n+9 * rN l n:=hm
  with_reducible repeat' (first|refine Sp.h ?_|((first|refine Wd ?_|refine Ss.h ?_|refine Sc.h (d31 l _ 3 (by decide) (by omega)) ?_|(refine Sb.h ?_ ?_ ?_<;>(try intro hgd)<;>try exact Xy))<;>simp -implicitDefEqProofs (maxSteps:=2000000) [hP,hN,h0,h2,h3,h4,h5,hp,hb2,hb20,hb45,hb46,hb3,hb21,hlt,hk]<;>try refine Ya ?_)|refine X2 ?_ ?_|(refine Xd ?_ ?_<;>intro hcd<;>try exact Xx))
  refine WP.loopN [] (rK l n) (fun i st=>st.t 0=.ptr (pk 0) 0∧st.t 2=.ptr 2 0∧st.t 3=.ptr 3 0∧st.t 4=.pv (Z (rN l n))∧st.t 6=.pv (Z ((rK l n : Int) - i))∧
   st.h (pk 0)=some (.box [.pv (zs l),.pv (Z (mSt l (nn l (rM l n)) i))] false false)∧st.h 2=some (.box [nilV,nilV] true false)∧st.h 45=none∧st.h 21=some (.row 62 12 ((rJs l n).map encJ) 0)∧
   ((i=0∧st.h 3=some (.box [.arr 21 (rN l n),nilV] true false)∧st.h 46=none)∨(0 < i∧st.h 3=some (.box [.arr 21 (rN l n),.arr 46 i] true false)∧st.h 46=some (.row 126 5 ((msF l (nn l (rM l n)) (rN l n) i).map encM) 0)))) (by simp [h0,h2,h3,h4,hb2,hb45,hb46,hb3,hb21,mSt,rM,rJs]) ?_
  clear hb2 hb20 hb45 hb46 hb3 hb21 hp h0 h2 h3 h4 h5
  rintro i st hi ⟨h0,h2,h3,h4,h6,hp,hb2,hb45,hb21,hor⟩
  by_cases hlt : i < rK l n
  ·have hw : IntKind.i64.wrap ((rK l n : Int) - i - 1)=(rK l n : Int) - ((i : Int)+1):=by rw [IntKind.wrap_i64];omega
   have hgt : (0 : Int) < (rK l n : Int) - i:=by omega
   have hm2:=mSt_le l (nn l (rM l n)) i
   have l1:=nn_le l (mSt l (nn l (rM l n)) i)
   have l2:=nn_le l (nn l (mSt l (nn l (rM l n)) i))
   have l3:=nn_le l (nn l (nn l (mSt l (nn l (rM l n)) i)))
   have hJ:=msF_succ l (nn l (rM l n)) (rN l n) i
   have hS : mSt l (nn l (rM l n)) (i+1)=nn l (nn l (nn l (nn l (mSt l (nn l (rM l n)) i)))):=rfl
   have hne : ((rN l n : Nat) : Int)≠0:=by omega
   rcases hor with ⟨hi0,hb3,hb46⟩|⟨hi0,hb3,hb46⟩
   ·subst hi0
    with_reducible repeat' (first|refine Sp.h ?_|((first|refine Wd ?_|refine Ss.h ?_|refine Sc.h (d31 l _ _ hne (by omega)) ?_|refine Sc.h (d31 l _ _ (by decide) (by omega)) ?_|refine Sc.h (d33 l _ _ (by decide) (by decide) (by omega)) ?_|(refine Sb.h ?_ ?_ ?_<;>(try intro hgd)<;>try exact Xy))<;>simp -implicitDefEqProofs (maxSteps:=2000000) [hP,hN,h0,h2,h3,h4,h6,hp,hb2,hb45,hb46,hb3,hb21,hlt,hw,hgt,hS]<;>try refine Ya ?_)|refine X2 ?_ ?_|(refine Xd ?_ ?_<;>intro hcd<;>try exact Xx))
    exact ⟨by rw [IntKind.wrap_i64];omega,by simp [msF,massF,mSt]⟩
   ·have hz:=msF_len l (nn l (rM l n)) (rN l n) i
    with_reducible repeat' (first|refine Sp.h ?_|((first|refine Wd ?_|refine Ss.h ?_|refine Sc.h (d31 l _ _ hne (by omega)) ?_|refine Sc.h (d31 l _ _ (by decide) (by omega)) ?_|refine Sc.h (d33 l _ _ (by decide) (by decide) (by omega)) ?_|(refine Sb.h ?_ ?_ ?_<;>(try intro hgd)<;>try exact Xy))<;>simp -implicitDefEqProofs (maxSteps:=2000000) [hP,hN,h0,h2,h3,h4,h6,hp,hb2,hb45,hb46,hb3,hb21,hlt,hw,hgt,hS,hz,show (i+1) * 40≤140737488355328 by omega,show i≤9223372036854775806 by omega]<;>try refine Ya ?_)|refine X2 ?_ ?_|(refine Xd ?_ ?_<;>intro hcd<;>try exact Xx))
    simp [hJ,massF]
  ·have hir : i=rK l n:=by omega
   subst hir
   have hzJ : (rJs l n).length=rN l n:=jsF_len l (nn l n) (rN l n)
   have hzM:=msF_len l (nn l (rM l n)) (rN l n) (rK l n)
   rcases hor with ⟨hi0,hb3,hb46⟩|⟨hi0,hb3,hb46⟩
   ·skip
    with_reducible repeat' (first|refine Sp.h ?_|((first|refine Wd ?_|refine Ss.h ?_|(refine Sb.h ?_ ?_ ?_<;>(try intro hgd)<;>try exact Xy))<;>simp -implicitDefEqProofs (maxSteps:=2000000) [hP,hN,h0,h2,h3,h4,h6,hp,hb2,hb45,hb46,hb3,hb21,hi0,hzJ]<;>try refine Ya ?_)|refine X2 ?_ ?_|(refine Xd ?_ ?_<;>intro hcd<;>try exact Xx))
    all_goals simp [rEnd,rMs,hi0,msF]
   ·skip
    with_reducible repeat' (first|refine Sp.h ?_|((first|refine Wd ?_|refine Ss.h ?_|(refine Sb.h ?_ ?_ ?_<;>(try intro hgd)<;>try exact Xy))<;>simp -implicitDefEqProofs (maxSteps:=2000000) [hP,hN,h0,h2,h3,h4,h6,hp,hb2,hb45,hb46,hb3,hb21,hzJ,hzM]<;>try refine Ya ?_)|refine X2 ?_ ?_|(refine Xd ?_ ?_<;>intro hcd<;>try exact Xx))
    all_goals simp [rEnd,rMs]
abbrev encR (js : List J) (ms : List Ms) : PV:=.agg [.sl (js.map encJ),.sl (ms.map encM)]
end Go.Ab
namespace Go.Ab
open Go.Proofs
def jOk (j : J) : Prop:=-1000000≤j.lo∧j.lo≤j.hi∧j.hi≤1000000
theorem joint_ok (l : List Int) (n i : Nat) : jOk (jointF l n i)∧(jointF l n i).lo≤0∧0≤(jointF l n i).hi:=by
 have h1:=nx_range l (jN5 l n i) (k:=3) (by decide) (by decide)
 have h2:=nx_range l (jN5 l n i) (k:=5) (by decide) (by decide)
 have h3:=nx_range l (nn l (jN5 l n i)) (k:=4) (by decide) (by decide)
 have h4:=nx_range l (nn l (nn l (jN5 l n i))) (k:=3) (by decide) (by decide)
 have hlo : -1000000≤jLo l n i∧jLo l n i≤0:=by
  unfold jLo
  generalize nx l (jN5 l n i) 3=a at *
  generalize nx l (jN5 l n i) 5=b at *
  split
  ·omega
  ·split
   ·simp only [wr,IntKind.wrap_i64];omega
   ·have : b=0∨b=1∨b=2∨b=3∨b=4:=by omega
    rcases this with rfl|rfl|rfl|rfl|rfl<;>decide
 have hhi : 0≤jHi l n i∧jHi l n i≤1000000:=by
  unfold jHi
  generalize nx l (nn l (jN5 l n i)) 4=a at *
  generalize nx l (nn l (nn l (jN5 l n i))) 3=b at *
  split
  ·omega
  ·split
   ·simp only [wr,IntKind.wrap_i64];omega
   ·have ha : ∀ c : Int,0≤c→c < 4→0≤wr ((wr (wr (1+c) * 65536)).tdiv 8)∧wr ((wr (wr (1+c) * 65536)).tdiv 8)≤32768:=by
     intro c h0 h4
     have : c=0∨c=1∨c=2∨c=3:=by omega
     rcases this with rfl|rfl|rfl|rfl<;>decide
    have:=ha a h3.1 h3.2
    rw [wr_id (n:=wr ((wr (wr (1+a) * 65536)).tdiv 8)+b) (by omega) (by omega)];omega
 simp only [jOk,jointF];omega
theorem rJs_ok (l : List Int) (n : Nat) : ∀ j ∈ rJs l n,jOk j:=by
 intro j hj
 simp only [rJs,jsF,List.mem_map] at hj
 obtain ⟨i,_,rfl⟩:=hj
 exact (joint_ok l _ i).1
theorem rJs_len (l : List Int) (n : Nat) : (rJs l n).length≤3∧0 < (rJs l n).length:=by
 have hx:=nx_range l n (k:=3) (by decide) (by decide)
 rw [rJs,jsF_len,rN];omega
theorem round_range (x : Int) {k : Int} (hk : 0 < k) (hk' : k < 4611686018427387904) : 0≤roundI x k∧roundI x k < k:=by
 have:=nx_range [x] 0 hk hk'
 simpa [nx] using this
end Go.Ab
namespace Go.Ab
open Go.Proofs
theorem rp_bool {P : Program} (d : Nat) (t : TypeId) (a b : Bool) (h : P.underlying t=some .bool) : runPure P (Op.equalIn (d+1) t (.bool a) (.bool b))=some (a==b):=by
 simp only [Op.equalIn,runPure_bind,runPure_underlying h,Option.bind_some];rfl
def bool2 (x y : AV) : Option (Bool × Bool):=match x,y with
 |.pv (.val (.bool a)),.pv (.val (.bool b))=>some (a,b)
 |_,_=>none
def cmpB (x y : AV) (fb : Option Eff) : Option Eff:=match bool2 x y with
 |some (a,b)=>some (.pv (.val (.bool (a==b))),[])
 |none=>fb
@[simp] theorem cmpB_some (a b : Bool) (fb : Option Eff) : cmpB (.pv (.val (.bool a))) (.pv (.val (.bool b))) fb=some (.pv (.val (.bool (a==b))),[]):=rfl
@[simp] theorem eqBool {dst : Option Nat} {ty : TypeId} {pos : String} {aft : Array Edge} {g : Option (Nat × Bool)} {ρ : Operand→AV} (x y : Operand) :
 evPure Tryz.prog ⟨dst,.binOp .eql 4 x y 4,ty,pos,aft,g⟩ ρ=cmpB (ρ x) (ρ y) (evPureX Tryz.prog ⟨dst,.binOp .eql 4 x y 4,ty,pos,aft,g⟩ ρ):=by
 unfold cmpB
 split
 ·rename_i a b h
  unfold bool2 at h
  split at h
  ·rename_i a' b' hx hy
   injection h with h;injection h with h1 h2;subst h1;subst h2
   refine evPure_of (by simp [Op.operands,hx,hy,valOf]) ?_
   unfold execOp
   simp only [(valOf_some hx).2,(valOf_some hy).2]
   have h1 : runPure Tryz.prog (eqGuard .eql 4 x y (.bool a') (.bool b'))=some ():=by kernel_rfl
   have h2 : runPure Tryz.prog (binOp .eql 4 (.bool a') (.bool b'))=some (.bool (a'==b')):=by
    simp only [binOp,runPure_bind]
    rw [show runPure Tryz.prog (Op.equal 4 (.bool a') (.bool b'))=some (a'==b') from rp_bool 9999 4 a' b' Tryz.underlying4]
    rfl
   simp only [runPure_bind,h1,h2,Option.bind_some];rfl
  ·cases h
 ·rfl
def middleL (xs : List (Int × Int)) : List Int:=if allB vI xs then xs.map midI else []
def hasC (xs : List (Int × Int)) (ys : List Int) : Bool:=decide (xs.length=ys.length) && allZ hasI xs ys
def touchI (x y : Int × Int) : Bool:=validB x.1 x.2 && validB y.1 y.2 && decide (max x.1 y.1≤min x.2 y.2)
def touchC (xs ys : List (Int × Int)) : Bool:=decide (xs.length=ys.length) && allZ touchI xs ys
end Go.Ab
