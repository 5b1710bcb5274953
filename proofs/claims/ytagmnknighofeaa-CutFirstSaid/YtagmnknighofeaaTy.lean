/- The facts on types that the evaluation asks for (written by wip/tools/types.py). -/
import Derived.Test.YtagmnknighofeaaAbB
import Derived.Test.YtagmnknighofeaaProg
set_option linter.all false
namespace Go.Ab
open Go.Proofs
@[simp] theorem ti2 : tiOf Try.prog 2 = some ⟨1, (some (.int .i64 0)), .one⟩ := by kernel_rfl
@[simp] theorem ik2 : intKindOf Try.prog 2 = some .i64 := by kernel_rfl
@[simp] theorem ti3 : tiOf Try.prog 3 = some ⟨1, (some (.int .i64 0)), .one⟩ := by kernel_rfl
@[simp] theorem ik3 : intKindOf Try.prog 3 = some .i64 := by kernel_rfl
@[simp] theorem ti4 : tiOf Try.prog 4 = some ⟨1, (some (.bool false)), .one⟩ := by kernel_rfl
@[simp] theorem ti5 : tiOf Try.prog 5 = some ⟨1, (some (.int .u8 0)), .one⟩ := by kernel_rfl
@[simp] theorem ik5 : intKindOf Try.prog 5 = some .u8 := by kernel_rfl
@[simp] theorem ti6 : tiOf Try.prog 6 = some ⟨1, (some (.int .u8 0)), .one⟩ := by kernel_rfl
@[simp] theorem ik6 : intKindOf Try.prog 6 = some .u8 := by kernel_rfl
@[simp] theorem ti7 : tiOf Try.prog 7 = some ⟨4, (some (.agg #[.int .i64 0, .int .i64 0, .bool false, .int .u8 0])), .struct [(0, 1), (1, 1), (2, 1), (3, 1)]⟩ := by kernel_rfl
@[simp] theorem ti8 : tiOf Try.prog 8 = some ⟨4, (some (.agg #[.int .i64 0, .int .i64 0, .bool false, .int .u8 0])), .struct [(0, 1), (1, 1), (2, 1), (3, 1)]⟩ := by kernel_rfl
@[simp] theorem ti9 : tiOf Try.prog 9 = some ⟨1, (some (.string ByteArray.empty)), .one⟩ := by kernel_rfl
@[simp] theorem ix9 : ixKind Try.prog 9 = some none := by kernel_rfl
@[simp] theorem ti10 : tiOf Try.prog 10 = some ⟨1, (some (.string ByteArray.empty)), .one⟩ := by kernel_rfl
@[simp] theorem ix10 : ixKind Try.prog 10 = some none := by kernel_rfl
@[simp] theorem ti11 : tiOf Try.prog 11 = some ⟨1, (some (.string ByteArray.empty)), .one⟩ := by kernel_rfl
@[simp] theorem ix11 : ixKind Try.prog 11 = some none := by kernel_rfl
@[simp] theorem ti12 : tiOf Try.prog 12 = some ⟨1, (some (.int .u64 0)), .one⟩ := by kernel_rfl
@[simp] theorem ik12 : intKindOf Try.prog 12 = some .u64 := by kernel_rfl
@[simp] theorem ti13 : tiOf Try.prog 13 = some ⟨2, (some (.agg #[.string ByteArray.empty, .int .u64 0])), .struct [(0, 1), (1, 1)]⟩ := by kernel_rfl
@[simp] theorem ti14 : tiOf Try.prog 14 = some ⟨2, (some (.agg #[.string ByteArray.empty, .int .u64 0])), .struct [(0, 1), (1, 1)]⟩ := by kernel_rfl
@[simp] theorem ti15 : tiOf Try.prog 15 = some ⟨1, (some (.pointer none)), .one⟩ := by kernel_rfl
@[simp] theorem ti16 : tiOf Try.prog 16 = some ⟨1, (some (.pointer none)), .one⟩ := by kernel_rfl
@[simp] theorem ti17 : tiOf Try.prog 17 = some ⟨1, (some (.pointer none)), .one⟩ := by kernel_rfl
@[simp] theorem ti18 : tiOf Try.prog 18 = some ⟨1, (some (.agg #[.pointer none])), .struct [(0, 1)]⟩ := by kernel_rfl
@[simp] theorem ti19 : tiOf Try.prog 19 = some ⟨1, (some (.agg #[.pointer none])), .struct [(0, 1)]⟩ := by kernel_rfl
@[simp] theorem ti21 : tiOf Try.prog 21 = some ⟨1, (some (.int .i32 0)), .one⟩ := by kernel_rfl
@[simp] theorem ik21 : intKindOf Try.prog 21 = some .i32 := by kernel_rfl
@[simp] theorem ti22 : tiOf Try.prog 22 = some ⟨1, (some (.slice none 0 0)), .slice 46 2 16 (some (.agg #[.int .i64 0, .int .i64 0]))⟩ := by kernel_rfl
@[simp] theorem ti23 : tiOf Try.prog 23 = some ⟨1, (some (.slice none 0 0)), .slice 92 8 112 (some (.agg #[.int .i64 0, .int .i64 0, .int .i64 0, .int .i64 0, .slice none 0 0, .int .i64 0, .slice none 0 0, .slice none 0 0]))⟩ := by kernel_rfl
@[simp] theorem ti24 : tiOf Try.prog 24 = some ⟨2, (some (.agg #[.slice none 0 0, .slice none 0 0])), .struct [(0, 1), (1, 1)]⟩ := by kernel_rfl
@[simp] theorem ti25 : tiOf Try.prog 25 = some ⟨2, (some (.agg #[.slice none 0 0, .slice none 0 0])), .struct [(0, 1), (1, 1)]⟩ := by kernel_rfl
@[simp] theorem ti26 : tiOf Try.prog 26 = some ⟨1, (some (.slice none 0 0)), .slice 3 1 8 (some (.int .i64 0))⟩ := by kernel_rfl
@[simp] theorem ti33 : tiOf Try.prog 33 = some ⟨1, (some (.slice none 0 0)), .slice 2 1 8 (some (.int .i64 0))⟩ := by kernel_rfl
@[simp] theorem ti45 : tiOf Try.prog 45 = some ⟨2, (some (.agg #[.int .i64 0, .int .i64 0])), .struct [(0, 1), (1, 1)]⟩ := by kernel_rfl
@[simp] theorem ti46 : tiOf Try.prog 46 = some ⟨2, (some (.agg #[.int .i64 0, .int .i64 0])), .struct [(0, 1), (1, 1)]⟩ := by kernel_rfl
@[simp] theorem ti48 : tiOf Try.prog 48 = some ⟨1, (some (.slice none 0 0)), .slice 118 3 24 (some (.agg #[.int .i64 0, .int .i64 0, .int .i64 0]))⟩ := by kernel_rfl
@[simp] theorem ti49 : tiOf Try.prog 49 = some ⟨3, (some (.agg #[.int .i64 0, .slice none 0 0, .slice none 0 0])), .struct [(0, 1), (1, 1), (2, 1)]⟩ := by kernel_rfl
@[simp] theorem ti50 : tiOf Try.prog 50 = some ⟨3, (some (.agg #[.int .i64 0, .slice none 0 0, .slice none 0 0])), .struct [(0, 1), (1, 1), (2, 1)]⟩ := by kernel_rfl
@[simp] theorem ti51 : tiOf Try.prog 51 = some ⟨5, (some (.agg #[.int .i64 0, .slice none 0 0, .int .i64 0, .slice none 0 0, .slice none 0 0])), .struct [(0, 1), (1, 1), (2, 3)]⟩ := by kernel_rfl
@[simp] theorem ti52 : tiOf Try.prog 52 = some ⟨5, (some (.agg #[.int .i64 0, .slice none 0 0, .int .i64 0, .slice none 0 0, .slice none 0 0])), .struct [(0, 1), (1, 1), (2, 3)]⟩ := by kernel_rfl
@[simp] theorem ti72 : tiOf Try.prog 72 = some ⟨1, (some (.slice none 0 0)), .slice 33 1 24 (some (.slice none 0 0))⟩ := by kernel_rfl
@[simp] theorem ti75 : tiOf Try.prog 75 = some ⟨1, (some (.slice none 0 0)), .slice 22 1 24 (some (.slice none 0 0))⟩ := by kernel_rfl
@[simp] theorem ti80 : tiOf Try.prog 80 = some ⟨1, (some (.int .u64 0)), .one⟩ := by kernel_rfl
@[simp] theorem ik80 : intKindOf Try.prog 80 = some .u64 := by kernel_rfl
@[simp] theorem ti87 : tiOf Try.prog 87 = some ⟨4, (some (.agg #[.int .i64 0, .int .i64 0, .int .i64 0, .int .i64 0])), .struct [(0, 1), (1, 1), (2, 1), (3, 1)]⟩ := by kernel_rfl
@[simp] theorem ti88 : tiOf Try.prog 88 = some ⟨4, (some (.agg #[.int .i64 0, .int .i64 0, .int .i64 0, .int .i64 0])), .struct [(0, 1), (1, 1), (2, 1), (3, 1)]⟩ := by kernel_rfl
@[simp] theorem ti91 : tiOf Try.prog 91 = some ⟨8, (some (.agg #[.int .i64 0, .int .i64 0, .int .i64 0, .int .i64 0, .slice none 0 0, .int .i64 0, .slice none 0 0, .slice none 0 0])), .struct [(0, 1), (1, 1), (2, 1), (3, 5)]⟩ := by kernel_rfl
@[simp] theorem ti92 : tiOf Try.prog 92 = some ⟨8, (some (.agg #[.int .i64 0, .int .i64 0, .int .i64 0, .int .i64 0, .slice none 0 0, .int .i64 0, .slice none 0 0, .slice none 0 0])), .struct [(0, 1), (1, 1), (2, 1), (3, 5)]⟩ := by kernel_rfl
@[simp] theorem ti97 : tiOf Try.prog 97 = some ⟨1, (some (.slice none 0 0)), .slice 4 1 1 (some (.bool false))⟩ := by kernel_rfl
@[simp] theorem ti106 : tiOf Try.prog 106 = some ⟨1, (some (.pointer none)), .one⟩ := by kernel_rfl
@[simp] theorem ti117 : tiOf Try.prog 117 = some ⟨3, (some (.agg #[.int .i64 0, .int .i64 0, .int .i64 0])), .array 3 1⟩ := by kernel_rfl
@[simp] theorem ix117 : ixKind Try.prog 117 = some (some 3) := by kernel_rfl
@[simp] theorem ti118 : tiOf Try.prog 118 = some ⟨3, (some (.agg #[.int .i64 0, .int .i64 0, .int .i64 0])), .array 3 1⟩ := by kernel_rfl
@[simp] theorem ix118 : ixKind Try.prog 118 = some (some 3) := by kernel_rfl
@[simp] theorem ti128 : tiOf Try.prog 128 = some ⟨3, (some (.agg #[.slice none 0 0, .slice none 0 0, .slice none 0 0])), .struct [(0, 1), (1, 1), (2, 1)]⟩ := by kernel_rfl
@[simp] theorem ti129 : tiOf Try.prog 129 = some ⟨3, (some (.agg #[.slice none 0 0, .slice none 0 0, .slice none 0 0])), .struct [(0, 1), (1, 1), (2, 1)]⟩ := by kernel_rfl
@[simp] theorem ti132 : tiOf Try.prog 132 = some ⟨1, (some (.slice none 0 0)), .slice 196 12 104 (some (.agg #[.string ByteArray.empty, .int .i64 0, .int .i64 0, .int .i64 0, .int .i64 0, .int .i64 0, .int .i64 0, .int .i64 0, .int .i64 0, .int .i64 0, .int .i64 0, .int .i64 0]))⟩ := by kernel_rfl
@[simp] theorem ti133 : tiOf Try.prog 133 = some ⟨1, (some (.slice none 0 0)), .slice 200 5 40 (some (.agg #[.int .i64 0, .int .i64 0, .int .i64 0, .int .i64 0, .int .i64 0]))⟩ := by kernel_rfl
@[simp] theorem ti134 : tiOf Try.prog 134 = some ⟨2, (some (.agg #[.slice none 0 0, .slice none 0 0])), .struct [(0, 1), (1, 1)]⟩ := by kernel_rfl
@[simp] theorem ti135 : tiOf Try.prog 135 = some ⟨2, (some (.agg #[.slice none 0 0, .slice none 0 0])), .struct [(0, 1), (1, 1)]⟩ := by kernel_rfl
@[simp] theorem ti147 : tiOf Try.prog 147 = some ⟨2, (some (.agg #[.slice none 0 0, .slice none 0 0])), .struct [(0, 1), (1, 1)]⟩ := by kernel_rfl
@[simp] theorem ti148 : tiOf Try.prog 148 = some ⟨2, (some (.agg #[.slice none 0 0, .slice none 0 0])), .struct [(0, 1), (1, 1)]⟩ := by kernel_rfl
@[simp] theorem ti153 : tiOf Try.prog 153 = some ⟨2, (some (.agg #[.int .i64 0, .int .i64 0])), .struct [(0, 1), (1, 1)]⟩ := by kernel_rfl
@[simp] theorem ti154 : tiOf Try.prog 154 = some ⟨2, (some (.agg #[.int .i64 0, .int .i64 0])), .struct [(0, 1), (1, 1)]⟩ := by kernel_rfl
@[simp] theorem ti163 : tiOf Try.prog 163 = some ⟨2, (some (.agg #[.slice none 0 0, .int .i64 0])), .struct [(0, 1), (1, 1)]⟩ := by kernel_rfl
@[simp] theorem ti164 : tiOf Try.prog 164 = some ⟨2, (some (.agg #[.slice none 0 0, .int .i64 0])), .struct [(0, 1), (1, 1)]⟩ := by kernel_rfl
@[simp] theorem ti177 : tiOf Try.prog 177 = some ⟨2, (some (.agg #[.int .i64 0, .int .i64 0])), .struct [(0, 1), (1, 1)]⟩ := by kernel_rfl
@[simp] theorem ti178 : tiOf Try.prog 178 = some ⟨2, (some (.agg #[.int .i64 0, .int .i64 0])), .struct [(0, 1), (1, 1)]⟩ := by kernel_rfl
@[simp] theorem ti183 : tiOf Try.prog 183 = some ⟨1, (some (.int .u64 0)), .one⟩ := by kernel_rfl
@[simp] theorem ik183 : intKindOf Try.prog 183 = some .u64 := by kernel_rfl
@[simp] theorem ti192 : tiOf Try.prog 192 = some ⟨1, (some (.int .i64 0)), .one⟩ := by kernel_rfl
@[simp] theorem ik192 : intKindOf Try.prog 192 = some .i64 := by kernel_rfl
@[simp] theorem ti195 : tiOf Try.prog 195 = some ⟨12, (some (.agg #[.string ByteArray.empty, .int .i64 0, .int .i64 0, .int .i64 0, .int .i64 0, .int .i64 0, .int .i64 0, .int .i64 0, .int .i64 0, .int .i64 0, .int .i64 0, .int .i64 0])), .struct [(0, 1), (1, 1), (2, 1), (3, 3), (6, 1), (7, 1), (8, 1), (9, 1), (10, 1), (11, 1)]⟩ := by kernel_rfl
@[simp] theorem ti196 : tiOf Try.prog 196 = some ⟨12, (some (.agg #[.string ByteArray.empty, .int .i64 0, .int .i64 0, .int .i64 0, .int .i64 0, .int .i64 0, .int .i64 0, .int .i64 0, .int .i64 0, .int .i64 0, .int .i64 0, .int .i64 0])), .struct [(0, 1), (1, 1), (2, 1), (3, 3), (6, 1), (7, 1), (8, 1), (9, 1), (10, 1), (11, 1)]⟩ := by kernel_rfl
@[simp] theorem ti199 : tiOf Try.prog 199 = some ⟨5, (some (.agg #[.int .i64 0, .int .i64 0, .int .i64 0, .int .i64 0, .int .i64 0])), .struct [(0, 1), (1, 1), (2, 3)]⟩ := by kernel_rfl
@[simp] theorem ti200 : tiOf Try.prog 200 = some ⟨5, (some (.agg #[.int .i64 0, .int .i64 0, .int .i64 0, .int .i64 0, .int .i64 0])), .struct [(0, 1), (1, 1), (2, 3)]⟩ := by kernel_rfl
@[simp] theorem ti205 : tiOf Try.prog 205 = some ⟨4, (some (.agg #[.pointer none, .pointer none, .pointer none, .string ByteArray.empty])), .struct [(0, 1), (1, 1), (2, 1), (3, 1)]⟩ := by kernel_rfl
@[simp] theorem ti206 : tiOf Try.prog 206 = some ⟨4, (some (.agg #[.pointer none, .pointer none, .pointer none, .string ByteArray.empty])), .struct [(0, 1), (1, 1), (2, 1), (3, 1)]⟩ := by kernel_rfl
@[simp] theorem ti207 : tiOf Try.prog 207 = some ⟨0, (some (.agg #[])), .array 0 1⟩ := by kernel_rfl
@[simp] theorem ix207 : ixKind Try.prog 207 = some (some 0) := by kernel_rfl
@[simp] theorem ti208 : tiOf Try.prog 208 = some ⟨0, (some (.agg #[])), .struct [(0, 0)]⟩ := by kernel_rfl
@[simp] theorem ti209 : tiOf Try.prog 209 = some ⟨0, (some (.agg #[])), .struct [(0, 0)]⟩ := by kernel_rfl
@[simp] theorem ti211 : tiOf Try.prog 211 = some ⟨1, (some (.int .u32 0)), .one⟩ := by kernel_rfl
@[simp] theorem ik211 : intKindOf Try.prog 211 = some .u32 := by kernel_rfl
@[simp] theorem ti212 : tiOf Try.prog 212 = some ⟨1, (some (.int .u8 0)), .one⟩ := by kernel_rfl
@[simp] theorem ik212 : intKindOf Try.prog 212 = some .u8 := by kernel_rfl
@[simp] theorem ti213 : tiOf Try.prog 213 = some ⟨1, (some (.int .u8 0)), .one⟩ := by kernel_rfl
@[simp] theorem ik213 : intKindOf Try.prog 213 = some .u8 := by kernel_rfl
@[simp] theorem ti215 : tiOf Try.prog 215 = some ⟨1, (some (.pointer none)), .one⟩ := by kernel_rfl
@[simp] theorem ti216 : tiOf Try.prog 216 = some ⟨1, (some (.int .i32 0)), .one⟩ := by kernel_rfl
@[simp] theorem ik216 : intKindOf Try.prog 216 = some .i32 := by kernel_rfl
@[simp] theorem ti217 : tiOf Try.prog 217 = some ⟨1, (some (.int .i32 0)), .one⟩ := by kernel_rfl
@[simp] theorem ik217 : intKindOf Try.prog 217 = some .i32 := by kernel_rfl
end Go.Ab
