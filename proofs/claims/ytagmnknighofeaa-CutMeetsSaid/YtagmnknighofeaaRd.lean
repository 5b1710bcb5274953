/- The seat's program: what the rows' closing asks of it. -/
import Derived.Test.YtagmnknighofeaaRows
import Derived.Test.YtagmnknighofeaaClA
import Derived.Test.YtagmnknighofeaaCfA
set_option linter.all false
namespace Go.Ab
open Go.Proofs Go.Proofs.Ytagmnknighofeaa
theorem own : ownKnob Try.prog.godebug = none := by kernel_rfl
theorem kids : Kids Try.prog (· < Try.prog.types.size) := kids_rows (by kernel_rfl) (by kernel_rfl)
theorem full : ∀ t e, t < Try.prog.types.size → Try.prog.underlying t = some (.slice e) → 0 < Try.prog.cellsOf e := slices_full_of Try.prog (by kernel_rfl)
mutual
theorem bulk_le {H : Type} : ∀ d : DataW H, bulk d ≤ Rows.uptoBulk d
  | .lit (.string _) => by simp [bulk, Rows.uptoBulk]
  | .lit (.bool _) => by simp [bulk, Rows.uptoBulk]
  | .lit (.int _ _) => by simp [bulk, Rows.uptoBulk]
  | .lit (.float _ _) => by simp [bulk, Rows.uptoBulk]
  | .lit .nil => by simp [bulk, Rows.uptoBulk]
  | .nil => by simp [bulk, Rows.uptoBulk]
  | .ptr _ => by simp [bulk, Rows.uptoBulk]
  | .slice es sp => by have := bulkL_le es; have := bulkL_le sp; simp only [bulk, Rows.uptoBulk]; omega
  | .agg ds => by have := bulkL_le ds; simp only [bulk, Rows.uptoBulk]; omega
  | .iface _ _ => by simp [bulk, Rows.uptoBulk]
  | .map _ => by simp [bulk, Rows.uptoBulk]
  | .held _ => by simp [bulk, Rows.uptoBulk]
theorem bulkL_le {H : Type} : ∀ ds : List (DataW H), bulkL ds ≤ Rows.uptoBulkAll ds
  | [] => by simp [bulkL, Rows.uptoBulkAll]
  | d :: ds => by have := bulk_le d; have := bulkL_le ds; simp only [bulkL, Rows.uptoBulkAll]; omega
end
theorem uptoAll_append {H : Type} (l r : List (DataW H)) : Rows.uptoBulkAll (l ++ r) = Rows.uptoBulkAll l + Rows.uptoBulkAll r := by
  induction l with
  | nil => simp [Rows.uptoBulkAll]
  | cons x l ih => simp only [List.cons_append, Rows.uptoBulkAll, ih]; omega
theorem bulk_small {H : Type} {ds gs : List (DataW H)} (hk : Rows.uptoSmall H (ds ++ gs) = true) : bulkL ds ≤ 1048576 := by
  have h : Rows.uptoBulkAll (ds ++ gs) ≤ 1048576 := of_decide_eq_true hk
  rw [uptoAll_append] at h
  have := bulkL_le ds
  omega
section
variable {H : Type}
theorem rd_int : Reads H Try.prog 3 (fun i => .val (.int .i64 i)) (fun i => IntKind.i64.min ≤ i ∧ i ≤ IntKind.i64.max) (fun _ => 1) := reads_int Try.underlying3
theorem rd_ints : Reads H Try.prog 26 (fun l : List Int => .sl (l.map fun i => .val (.int .i64 i))) (fun l => l.length ≤ 9223372036854775807 ∧ ∀ a ∈ l, IntKind.i64.min ≤ a ∧ a ≤ IntKind.i64.max) (fun l => (l.map fun _ => 1).sum + 1) := reads_slice Try.underlying26 rd_int
theorem rd_int64 : Reads H Try.prog 2 (fun i => .val (.int .i64 i)) (fun i => IntKind.i64.min ≤ i ∧ i ≤ IntKind.i64.max) (fun _ => 1) := reads_int Try.underlying2
theorem rd_int64s : Reads H Try.prog 33 (fun l : List Int => .sl (l.map fun i => .val (.int .i64 i))) (fun l => l.length ≤ 9223372036854775807 ∧ ∀ a ∈ l, IntKind.i64.min ≤ a ∧ a ≤ IntKind.i64.max) (fun l => (l.map fun _ => 1).sum + 1) := reads_slice Try.underlying33 rd_int64
theorem rd_iv : Reads H Try.prog 46 encI (fun x => (IntKind.i64.min ≤ x.1 ∧ x.1 ≤ IntKind.i64.max) ∧ IntKind.i64.min ≤ x.2 ∧ x.2 ≤ IntKind.i64.max) (fun _ => 1) := by
  intro d h
  obtain ⟨ds, rfl, h1, h2⟩ := fit_struct Try.underlying46 h
  obtain ⟨a, b, rfl⟩ := len2 h1
  obtain ⟨x, rfl, hx⟩ := fit_int (H := H) Try.underlying2 (h2 0 _ _ rfl rfl)
  obtain ⟨y, rfl, hy⟩ := fit_int (H := H) Try.underlying2 (h2 1 _ _ rfl rfl)
  exact ⟨(x, y), by simp [rd1, rdA, rdC, mkAgg, vals?], ⟨hx, hy⟩, by simp [bulk]⟩
theorem rd_ivs : Reads H Try.prog 22 (fun l : List (Int × Int) => .sl (l.map encI)) (fun l => l.length ≤ 9223372036854775807 ∧ ∀ x ∈ l, (IntKind.i64.min ≤ x.1 ∧ x.1 ≤ IntKind.i64.max) ∧ IntKind.i64.min ≤ x.2 ∧ x.2 ≤ IntKind.i64.max) (fun l => (l.map fun _ => 1).sum + 1) := reads_slice Try.underlying22 rd_iv
theorem rd_joint : Reads H Try.prog 196 encJ (fun _ => True) (fun _ => 1) := by
  intro d h
  obtain ⟨ds, rfl, h1, h2⟩ := fit_struct Try.underlying196 h
  obtain ⟨a0, a1, a2, a3, a4, a5, a6, a7, a8, a9, rfl⟩ := len10 h1
  obtain ⟨x0, rfl⟩ := fit_string (H := H) Try.underlying9 (h2 0 _ _ rfl rfl)
  obtain ⟨x1, rfl, _⟩ := fit_int (H := H) Try.underlying3 (h2 1 _ _ rfl rfl)
  obtain ⟨x2, rfl, _⟩ := fit_int (H := H) Try.underlying3 (h2 2 _ _ rfl rfl)
  obtain ⟨vx, vy, vz, rfl⟩ := fit_vec (H := H) Try.underlying118 Try.underlying2 (d := a3) (h2 3 _ _ rfl rfl)
  obtain ⟨x4, rfl, _⟩ := fit_int (H := H) Try.underlying2 (h2 4 _ _ rfl rfl)
  obtain ⟨x5, rfl, _⟩ := fit_int (H := H) Try.underlying2 (h2 5 _ _ rfl rfl)
  obtain ⟨x6, rfl, _⟩ := fit_int (H := H) Try.underlying2 (h2 6 _ _ rfl rfl)
  obtain ⟨x7, rfl, _⟩ := fit_int (H := H) Try.underlying2 (h2 7 _ _ rfl rfl)
  obtain ⟨x8, rfl, _⟩ := fit_int (H := H) Try.underlying2 (h2 8 _ _ rfl rfl)
  obtain ⟨x9, rfl, _⟩ := fit_int (H := H) Try.underlying2 (h2 9 _ _ rfl rfl)
  exact ⟨⟨⟨x0.toArray⟩, x1, x2, vx, vy, vz, x4, x5, x6, x7, x8, x9⟩, by simp [rd1, rdA, rdC, mkAgg, vals?], trivial, by simp [bulk]⟩
theorem rd_mass : Reads H Try.prog 200 encM (fun _ => True) (fun _ => 1) := by
  intro d h
  obtain ⟨ds, rfl, h1, h2⟩ := fit_struct Try.underlying200 h
  obtain ⟨a0, a1, a2, rfl⟩ := len3 h1
  obtain ⟨x0, rfl, _⟩ := fit_int (H := H) Try.underlying3 (h2 0 _ _ rfl rfl)
  obtain ⟨x1, rfl, _⟩ := fit_int (H := H) Try.underlying2 (h2 1 _ _ rfl rfl)
  obtain ⟨vx, vy, vz, rfl⟩ := fit_vec (H := H) Try.underlying118 Try.underlying2 (d := a2) (h2 2 _ _ rfl rfl)
  exact ⟨⟨x0, x1, vx, vy, vz⟩, by simp [rd1, rdA, rdC, mkAgg, vals?], trivial, by simp [bulk]⟩
theorem one_nil {H : Type} (d : DataW H) (l : List PV) (h : rd1 d = .sl l) (hf : ∃ n, FitD Try.prog n 132 d ∨ FitD Try.prog n 133 d) : rdC d = [.sl l] := by
  obtain ⟨n, hf⟩ := hf
  cases n with
  | zero => rcases hf with hf | hf <;> exact hf.elim
  | succ n =>
    have key : d = .nil ∨ ∃ es sp, d = .slice es sp := by
      rcases hf with hf | hf
      · simp only [FitD, Try.underlying132] at hf
        rcases hf with rfl | ⟨es, sp, rfl, _⟩
        · exact .inl rfl
        · exact .inr ⟨es, sp, rfl⟩
      · simp only [FitD, Try.underlying133] at hf
        rcases hf with rfl | ⟨es, sp, rfl, _⟩
        · exact .inl rfl
        · exact .inr ⟨es, sp, rfl⟩
    rcases key with rfl | ⟨es, sp, rfl⟩
    · simp only [rd1] at h; simp [rdC, ← h]
    · simp only [rd1] at h; simp [rdC, ← h]
theorem rd_robot : Reads H Try.prog 135 (fun r : List J × List Ms => encR r.1 r.2) (fun r => r.1.length ≤ 9223372036854775807 ∧ r.2.length ≤ 9223372036854775807) (fun r => r.1.length + r.2.length) := by
  intro d h
  obtain ⟨ds, rfl, h1, h2⟩ := fit_struct Try.underlying135 h
  obtain ⟨a, b, rfl⟩ := len2 h1
  have ha : Fit Try.prog 132 a := h2 0 _ _ rfl rfl
  have hb : Fit Try.prog 133 b := h2 1 _ _ rfl rfl
  obtain ⟨js, e1, q1, s1⟩ := reads_slice (H := H) Try.underlying132 rd_joint a ha
  obtain ⟨ms, e2, q2, s2⟩ := reads_slice (H := H) Try.underlying133 rd_mass b hb
  have f1 := one_nil a _ e1 ⟨ha.choose, .inl ha.choose_spec⟩
  have f2 := one_nil b _ e2 ⟨hb.choose, .inr hb.choose_spec⟩
  have l1 := sum_len (fun _ : J => 1) (fun _ => Nat.le_refl _) js
  have l2 := sum_len (fun _ : Ms => 1) (fun _ => Nat.le_refl _) ms
  refine ⟨(js, ms), by simp [rd1, rdA, f1, f2, mkAgg, vals?], ⟨q1.1, q2.1⟩, ?_⟩
  simp only at s1 s2
  simp only [bulk, bulkL]; omega
end
end Go.Ab
