/- The seat's program: what the rows' closing asks of it. -/
import Derived.Test.YtgamhginhckcpaaRows
import Derived.Test.YtgamhginhckcpaaCl3
import Derived.Test.YtgamhginhckcpaaCf9
set_option linter.all false
namespace Go.Ab
open Go.Proofs Go.Proofs.Ytgamhginhckcpaa
theorem own : ownKnob Try.prog.godebug = none := by kernel_rfl
theorem kids : Kids Try.prog (· < Try.prog.types.size) := kids_rows (by kernel_rfl) (by kernel_rfl)
theorem full : ∀ t e, t < Try.prog.types.size → Try.prog.underlying t = some (.slice e) → 0 < Try.prog.cellsOf e := slices_full_of Try.prog (by kernel_rfl)
mutual
theorem bulk_le {H : Type} : ∀ d : DataW H, bulk d ≤ Rows.uptoBulk d
  | .lit (.string _) => by simp [bulk, Rows.uptoBulk]
  | .lit (.bool _) => by simp [bulk, Rows.uptoBulk]
  | .lit (.int _ _) => by simp [bulk, Rows.uptoBulk]
  | .lit (.float _ _) => by simp [bulk, Rows.uptoBulk]
  | .lit .nil => by simp [bulk, Rows.uptoBulk]
  | .nil => by simp [bulk, Rows.uptoBulk]
  | .ptr _ => by simp [bulk, Rows.uptoBulk]
  | .slice es sp => by have := bulkL_le es; have := bulkL_le sp; simp only [bulk, Rows.uptoBulk]; omega
  | .agg ds => by have := bulkL_le ds; simp only [bulk, Rows.uptoBulk]; omega
  | .iface _ _ => by simp [bulk, Rows.uptoBulk]
  | .map _ => by simp [bulk, Rows.uptoBulk]
  | .held _ => by simp [bulk, Rows.uptoBulk]
theorem bulkL_le {H : Type} : ∀ ds : List (DataW H), bulkL ds ≤ Rows.uptoBulkAll ds
  | [] => by simp [bulkL, Rows.uptoBulkAll]
  | d :: ds => by have := bulk_le d; have := bulkL_le ds; simp only [bulkL, Rows.uptoBulkAll]; omega
end
theorem uptoAll_append {H : Type} (l r : List (DataW H)) : Rows.uptoBulkAll (l ++ r) = Rows.uptoBulkAll l + Rows.uptoBulkAll r := by
  induction l with
  | nil => simp [Rows.uptoBulkAll]
  | cons x l ih => simp only [List.cons_append, Rows.uptoBulkAll, ih]; omega
theorem bulk_small {H : Type} {ds gs : List (DataW H)} (hk : Rows.uptoSmall H (ds ++ gs) = true) : bulkL ds ≤ 1048576 := by
  have h : Rows.uptoBulkAll (ds ++ gs) ≤ 1048576 := of_decide_eq_true hk
  rw [uptoAll_append] at h
  have := bulkL_le ds
  omega
section
variable {H : Type}
theorem rd_int : Reads H Try.prog 3 (fun i => .val (.int .i64 i)) (fun i => IntKind.i64.min ≤ i ∧ i ≤ IntKind.i64.max) (fun _ => 1) := reads_int Try.underlying3
theorem rd_ints : Reads H Try.prog 22 (fun l : List Int => .sl (l.map fun i => .val (.int .i64 i))) (fun l => l.length ≤ 9223372036854775807 ∧ ∀ a ∈ l, IntKind.i64.min ≤ a ∧ a ≤ IntKind.i64.max) (fun l => (l.map fun _ => 1).sum + 1) := reads_slice Try.underlying22 rd_int
theorem rd_int64 : Reads H Try.prog 2 (fun i => .val (.int .i64 i)) (fun i => IntKind.i64.min ≤ i ∧ i ≤ IntKind.i64.max) (fun _ => 1) := reads_int Try.underlying2
theorem rd_int64s : Reads H Try.prog 23 (fun l : List Int => .sl (l.map fun i => .val (.int .i64 i))) (fun l => l.length ≤ 9223372036854775807 ∧ ∀ a ∈ l, IntKind.i64.min ≤ a ∧ a ≤ IntKind.i64.max) (fun l => (l.map fun _ => 1).sum + 1) := reads_slice Try.underlying23 rd_int64
end
end Go.Ab
