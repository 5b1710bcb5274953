/- The facts on types that the evaluation asks for (written by wip/tools/types.py). -/
import Derived.Test.YtgamhginhckcpaaAbB
import Derived.Test.YtgamhginhckcpaaProg
set_option linter.all false
namespace Go.Ab
open Go.Proofs
@[simp] theorem ti2 : tiOf Try.prog 2 = some ⟨1, (some (.int .i64 0)), .one⟩ := by kernel_rfl
@[simp] theorem ik2 : intKindOf Try.prog 2 = some .i64 := by kernel_rfl
@[simp] theorem ti3 : tiOf Try.prog 3 = some ⟨1, (some (.int .i64 0)), .one⟩ := by kernel_rfl
@[simp] theorem ik3 : intKindOf Try.prog 3 = some .i64 := by kernel_rfl
@[simp] theorem ti4 : tiOf Try.prog 4 = some ⟨1, (some (.bool false)), .one⟩ := by kernel_rfl
@[simp] theorem ti5 : tiOf Try.prog 5 = some ⟨1, (some (.int .u8 0)), .one⟩ := by kernel_rfl
@[simp] theorem ik5 : intKindOf Try.prog 5 = some .u8 := by kernel_rfl
@[simp] theorem ti6 : tiOf Try.prog 6 = some ⟨1, (some (.int .u8 0)), .one⟩ := by kernel_rfl
@[simp] theorem ik6 : intKindOf Try.prog 6 = some .u8 := by kernel_rfl
@[simp] theorem ti7 : tiOf Try.prog 7 = some ⟨4, (some (.agg #[.int .i64 0, .int .i64 0, .bool false, .int .u8 0])), .struct [(0, 1), (1, 1), (2, 1), (3, 1)]⟩ := by kernel_rfl
@[simp] theorem ti8 : tiOf Try.prog 8 = some ⟨4, (some (.agg #[.int .i64 0, .int .i64 0, .bool false, .int .u8 0])), .struct [(0, 1), (1, 1), (2, 1), (3, 1)]⟩ := by kernel_rfl
@[simp] theorem ti9 : tiOf Try.prog 9 = some ⟨1, (some (.string ByteArray.empty)), .one⟩ := by kernel_rfl
@[simp] theorem ix9 : ixKind Try.prog 9 = some none := by kernel_rfl
@[simp] theorem ti10 : tiOf Try.prog 10 = some ⟨1, (some (.string ByteArray.empty)), .one⟩ := by kernel_rfl
@[simp] theorem ix10 : ixKind Try.prog 10 = some none := by kernel_rfl
@[simp] theorem ti11 : tiOf Try.prog 11 = some ⟨1, (some (.string ByteArray.empty)), .one⟩ := by kernel_rfl
@[simp] theorem ix11 : ixKind Try.prog 11 = some none := by kernel_rfl
@[simp] theorem ti12 : tiOf Try.prog 12 = some ⟨1, (some (.int .u64 0)), .one⟩ := by kernel_rfl
@[simp] theorem ik12 : intKindOf Try.prog 12 = some .u64 := by kernel_rfl
@[simp] theorem ti13 : tiOf Try.prog 13 = some ⟨2, (some (.agg #[.string ByteArray.empty, .int .u64 0])), .struct [(0, 1), (1, 1)]⟩ := by kernel_rfl
@[simp] theorem ti14 : tiOf Try.prog 14 = some ⟨2, (some (.agg #[.string ByteArray.empty, .int .u64 0])), .struct [(0, 1), (1, 1)]⟩ := by kernel_rfl
@[simp] theorem ti15 : tiOf Try.prog 15 = some ⟨1, (some (.pointer none)), .one⟩ := by kernel_rfl
@[simp] theorem ti16 : tiOf Try.prog 16 = some ⟨1, (some (.pointer none)), .one⟩ := by kernel_rfl
@[simp] theorem ti17 : tiOf Try.prog 17 = some ⟨1, (some (.pointer none)), .one⟩ := by kernel_rfl
@[simp] theorem ti18 : tiOf Try.prog 18 = some ⟨1, (some (.agg #[.pointer none])), .struct [(0, 1)]⟩ := by kernel_rfl
@[simp] theorem ti19 : tiOf Try.prog 19 = some ⟨1, (some (.agg #[.pointer none])), .struct [(0, 1)]⟩ := by kernel_rfl
@[simp] theorem ti21 : tiOf Try.prog 21 = some ⟨1, (some (.int .i32 0)), .one⟩ := by kernel_rfl
@[simp] theorem ik21 : intKindOf Try.prog 21 = some .i32 := by kernel_rfl
@[simp] theorem ti22 : tiOf Try.prog 22 = some ⟨1, (some (.slice none 0 0)), .slice 3 1 8 (some (.int .i64 0))⟩ := by kernel_rfl
@[simp] theorem ti23 : tiOf Try.prog 23 = some ⟨1, (some (.slice none 0 0)), .slice 2 1 8 (some (.int .i64 0))⟩ := by kernel_rfl
@[simp] theorem ti26 : tiOf Try.prog 26 = some ⟨1, (some (.slice none 0 0)), .slice 37 2 16 (some (.agg #[.int .i64 0, .int .i64 0]))⟩ := by kernel_rfl
@[simp] theorem ti30 : tiOf Try.prog 30 = some ⟨1, (some (.int .u64 0)), .one⟩ := by kernel_rfl
@[simp] theorem ik30 : intKindOf Try.prog 30 = some .u64 := by kernel_rfl
@[simp] theorem ti36 : tiOf Try.prog 36 = some ⟨2, (some (.agg #[.int .i64 0, .int .i64 0])), .struct [(0, 1), (1, 1)]⟩ := by kernel_rfl
@[simp] theorem ti37 : tiOf Try.prog 37 = some ⟨2, (some (.agg #[.int .i64 0, .int .i64 0])), .struct [(0, 1), (1, 1)]⟩ := by kernel_rfl
@[simp] theorem ti39 : tiOf Try.prog 39 = some ⟨1, (some (.slice none 0 0)), .slice 79 12 104 (some (.agg #[.string ByteArray.empty, .int .i64 0, .int .i64 0, .int .i64 0, .int .i64 0, .int .i64 0, .int .i64 0, .int .i64 0, .int .i64 0, .int .i64 0, .int .i64 0, .int .i64 0]))⟩ := by kernel_rfl
@[simp] theorem ti40 : tiOf Try.prog 40 = some ⟨1, (some (.slice none 0 0)), .slice 104 5 40 (some (.agg #[.int .i64 0, .int .i64 0, .int .i64 0, .int .i64 0, .int .i64 0]))⟩ := by kernel_rfl
@[simp] theorem ti41 : tiOf Try.prog 41 = some ⟨2, (some (.agg #[.slice none 0 0, .slice none 0 0])), .struct [(0, 1), (1, 1)]⟩ := by kernel_rfl
@[simp] theorem ti42 : tiOf Try.prog 42 = some ⟨2, (some (.agg #[.slice none 0 0, .slice none 0 0])), .struct [(0, 1), (1, 1)]⟩ := by kernel_rfl
@[simp] theorem ti74 : tiOf Try.prog 74 = some ⟨1, (some (.pointer none)), .one⟩ := by kernel_rfl
@[simp] theorem ti76 : tiOf Try.prog 76 = some ⟨3, (some (.agg #[.int .i64 0, .int .i64 0, .int .i64 0])), .array 3 1⟩ := by kernel_rfl
@[simp] theorem ix76 : ixKind Try.prog 76 = some (some 3) := by kernel_rfl
@[simp] theorem ti77 : tiOf Try.prog 77 = some ⟨3, (some (.agg #[.int .i64 0, .int .i64 0, .int .i64 0])), .array 3 1⟩ := by kernel_rfl
@[simp] theorem ix77 : ixKind Try.prog 77 = some (some 3) := by kernel_rfl
@[simp] theorem ti78 : tiOf Try.prog 78 = some ⟨12, (some (.agg #[.string ByteArray.empty, .int .i64 0, .int .i64 0, .int .i64 0, .int .i64 0, .int .i64 0, .int .i64 0, .int .i64 0, .int .i64 0, .int .i64 0, .int .i64 0, .int .i64 0])), .struct [(0, 1), (1, 1), (2, 1), (3, 3), (6, 1), (7, 1), (8, 1), (9, 1), (10, 1), (11, 1)]⟩ := by kernel_rfl
@[simp] theorem ti79 : tiOf Try.prog 79 = some ⟨12, (some (.agg #[.string ByteArray.empty, .int .i64 0, .int .i64 0, .int .i64 0, .int .i64 0, .int .i64 0, .int .i64 0, .int .i64 0, .int .i64 0, .int .i64 0, .int .i64 0, .int .i64 0])), .struct [(0, 1), (1, 1), (2, 1), (3, 3), (6, 1), (7, 1), (8, 1), (9, 1), (10, 1), (11, 1)]⟩ := by kernel_rfl
@[simp] theorem ti94 : tiOf Try.prog 94 = some ⟨1, (some (.int .i64 0)), .one⟩ := by kernel_rfl
@[simp] theorem ik94 : intKindOf Try.prog 94 = some .i64 := by kernel_rfl
@[simp] theorem ti103 : tiOf Try.prog 103 = some ⟨5, (some (.agg #[.int .i64 0, .int .i64 0, .int .i64 0, .int .i64 0, .int .i64 0])), .struct [(0, 1), (1, 1), (2, 3)]⟩ := by kernel_rfl
@[simp] theorem ti104 : tiOf Try.prog 104 = some ⟨5, (some (.agg #[.int .i64 0, .int .i64 0, .int .i64 0, .int .i64 0, .int .i64 0])), .struct [(0, 1), (1, 1), (2, 3)]⟩ := by kernel_rfl
@[simp] theorem ti105 : tiOf Try.prog 105 = some ⟨2, (some (.agg #[.slice none 0 0, .int .i64 0])), .struct [(0, 1), (1, 1)]⟩ := by kernel_rfl
@[simp] theorem ti106 : tiOf Try.prog 106 = some ⟨2, (some (.agg #[.slice none 0 0, .int .i64 0])), .struct [(0, 1), (1, 1)]⟩ := by kernel_rfl
@[simp] theorem ti126 : tiOf Try.prog 126 = some ⟨8, (some (.agg #[.int .i64 0, .int .i64 0, .int .i64 0, .int .i64 0, .int .i64 0, .int .i64 0, .int .i64 0, .int .i64 0])), .array 8 1⟩ := by kernel_rfl
@[simp] theorem ix126 : ixKind Try.prog 126 = some (some 8) := by kernel_rfl
@[simp] theorem ti137 : tiOf Try.prog 137 = some ⟨4, (some (.agg #[.pointer none, .pointer none, .pointer none, .string ByteArray.empty])), .struct [(0, 1), (1, 1), (2, 1), (3, 1)]⟩ := by kernel_rfl
@[simp] theorem ti138 : tiOf Try.prog 138 = some ⟨4, (some (.agg #[.pointer none, .pointer none, .pointer none, .string ByteArray.empty])), .struct [(0, 1), (1, 1), (2, 1), (3, 1)]⟩ := by kernel_rfl
@[simp] theorem ti139 : tiOf Try.prog 139 = some ⟨0, (some (.agg #[])), .array 0 1⟩ := by kernel_rfl
@[simp] theorem ix139 : ixKind Try.prog 139 = some (some 0) := by kernel_rfl
@[simp] theorem ti140 : tiOf Try.prog 140 = some ⟨0, (some (.agg #[])), .struct [(0, 0)]⟩ := by kernel_rfl
@[simp] theorem ti141 : tiOf Try.prog 141 = some ⟨0, (some (.agg #[])), .struct [(0, 0)]⟩ := by kernel_rfl
@[simp] theorem ti143 : tiOf Try.prog 143 = some ⟨1, (some (.int .u32 0)), .one⟩ := by kernel_rfl
@[simp] theorem ik143 : intKindOf Try.prog 143 = some .u32 := by kernel_rfl
@[simp] theorem ti144 : tiOf Try.prog 144 = some ⟨1, (some (.int .u8 0)), .one⟩ := by kernel_rfl
@[simp] theorem ik144 : intKindOf Try.prog 144 = some .u8 := by kernel_rfl
@[simp] theorem ti145 : tiOf Try.prog 145 = some ⟨1, (some (.int .u8 0)), .one⟩ := by kernel_rfl
@[simp] theorem ik145 : intKindOf Try.prog 145 = some .u8 := by kernel_rfl
@[simp] theorem ti147 : tiOf Try.prog 147 = some ⟨1, (some (.pointer none)), .one⟩ := by kernel_rfl
@[simp] theorem ti148 : tiOf Try.prog 148 = some ⟨1, (some (.int .i32 0)), .one⟩ := by kernel_rfl
@[simp] theorem ik148 : intKindOf Try.prog 148 = some .i32 := by kernel_rfl
@[simp] theorem ti149 : tiOf Try.prog 149 = some ⟨1, (some (.int .i32 0)), .one⟩ := by kernel_rfl
@[simp] theorem ik149 : intKindOf Try.prog 149 = some .i32 := by kernel_rfl
end Go.Ab
