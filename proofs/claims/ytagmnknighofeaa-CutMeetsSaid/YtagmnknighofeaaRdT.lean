/- Trees as arguments. -/
import Derived.Test.YtagmnknighofeaaRd
import Derived.Test.YtagmnknighofeaaTrA
set_option linter.all false
namespace Go.Ab
open Go.Proofs Go.Proofs.Ytagmnknighofeaa
section
variable {H : Type}
theorem one_sl {t te : TypeId} {d : DataW H} {l : List PV} (hu : Try.prog.underlying t = some (.slice te)) (hf : Fit Try.prog t d) (h : rd1 d = .sl l) : rdC d = [.sl l] := by
  obtain ⟨n, hf⟩ := hf
  cases n with
  | zero => exact hf.elim
  | succ n =>
    simp only [FitD, hu] at hf
    rcases hf with rfl | ⟨es, sp, rfl, _⟩
    · simp only [rd1] at h; simp [rdC, ← h]
    · simp only [rd1] at h; simp [rdC, ← h]
theorem len4 {α : Type} {l : List α} (h : l.length = 4) : ∃ a b c d, l = [a, b, c, d] := by
  match l, h with
  | [a, b, c, d], _ => exact ⟨a, b, c, d, rfl⟩
theorem rd_vec : Reads H Try.prog 118 encVec (fun _ => True) (fun _ => 1) := by
  intro d h
  obtain ⟨x, y, z, rfl⟩ := fit_vec (H := H) Try.underlying118 Try.underlying2 (d := d) h
  exact ⟨(x, y, z), by simp [rd1, rdA, rdC, mkAgg, vals?], trivial, by simp [bulk]⟩
def vSz (v : Verd) : Nat := v.nor.length + v.left.length + v.right.length + 1
def vQ (v : Verd) : Prop := v.nor.length ≤ 9223372036854775807 ∧ v.left.length ≤ 9223372036854775807 ∧ v.right.length ≤ 9223372036854775807
theorem rdc_verd {d : DataW H} (h : Fit Try.prog 52 d) : ∃ v : Verd, rdC d = [Z v.kind, vecs v.nor, Z v.pair, zs v.left, zs v.right] ∧ rd1 d = encVd v ∧ vQ v ∧ vSz v ≤ bulk d := by
  obtain ⟨ds, rfl, h1, h2⟩ := fit_struct Try.underlying52 h
  obtain ⟨a0, a1, a2, rfl⟩ := len3 h1
  obtain ⟨k, rfl, _⟩ := fit_int (H := H) Try.underlying3 (h2 0 _ _ rfl rfl)
  have f1 : Fit Try.prog 48 a1 := h2 1 _ _ rfl rfl
  have f2 : Fit Try.prog 50 a2 := h2 2 _ _ rfl rfl
  obtain ⟨nor, e1, q1, s1⟩ := reads_slice (H := H) Try.underlying48 rd_vec a1 f1
  obtain ⟨ws, rfl, w1, w2⟩ := fit_struct Try.underlying50 f2
  obtain ⟨b0, b1, b2, rfl⟩ := len3 w1
  obtain ⟨pr, rfl, _⟩ := fit_int (H := H) Try.underlying3 (w2 0 _ _ rfl rfl)
  have f3 : Fit Try.prog 33 b1 := w2 1 _ _ rfl rfl
  have f4 : Fit Try.prog 33 b2 := w2 2 _ _ rfl rfl
  obtain ⟨l1, e3, q3, s3⟩ := rd_int64s (H := H) b1 f3
  obtain ⟨l2, e4, q4, s4⟩ := rd_int64s (H := H) b2 f4
  have c1 := one_sl Try.underlying48 f1 e1
  have c3 := one_sl Try.underlying33 f3 e3
  have c4 := one_sl Try.underlying33 f4 e4
  have n1 := sum_len (fun _ : Int × Int × Int => 1) (fun _ => Nat.le_refl _) nor
  have n3 := sum_len (fun _ : Int => 1) (fun _ => Nat.le_refl _) l1
  have n4 := sum_len (fun _ : Int => 1) (fun _ => Nat.le_refl _) l2
  refine ⟨⟨k, nor, pr, l1, l2⟩, by simp [rdC, rdA, c1, c3, c4], by simp [rd1, rdC, rdA, c1, c3, c4, mkAgg, vals?], ⟨q1.1, q3.1, q4.1⟩, ?_⟩
  simp only [vSz, bulk, bulkL] at *
  omega
theorem rd_verdict : Reads H Try.prog 52 encVd vQ vSz := fun _ h => by
  obtain ⟨v, _, h2, h3, h4⟩ := rdc_verd h
  exact ⟨v, h2, h3, h4⟩
theorem rd_cell : Reads H Try.prog 92 encC (fun c => vQ c.v) (fun c => vSz c.v) := by
  intro d h
  obtain ⟨ds, rfl, h1, h2⟩ := fit_struct Try.underlying92 h
  obtain ⟨a0, a1, a2, a3, rfl⟩ := len4 h1
  obtain ⟨x0, rfl, _⟩ := fit_int (H := H) Try.underlying3 (h2 0 _ _ rfl rfl)
  obtain ⟨x1, rfl, _⟩ := fit_int (H := H) Try.underlying3 (h2 1 _ _ rfl rfl)
  obtain ⟨x2, rfl, _⟩ := fit_int (H := H) Try.underlying3 (h2 2 _ _ rfl rfl)
  obtain ⟨v, e1, _, q, s⟩ := rdc_verd (H := H) (h2 3 _ _ rfl rfl)
  refine ⟨⟨x0, x1, x2, v⟩, by simp [rd1, rdC, rdA, e1, mkAgg, vals?], q, ?_⟩
  simp only [bulk, bulkL]; omega
def tQ (t : Tr) : Prop := t.root.length ≤ 9223372036854775807 ∧ t.cells.length ≤ 9223372036854775807 ∧ ∀ c ∈ t.cells, vQ c.v
def tSz (t : Tr) : Nat := t.root.length + (t.cells.map fun c => vSz c.v).sum
theorem rd_tree : Reads H Try.prog 25 encT tQ tSz := by
  intro d h
  obtain ⟨ds, rfl, h1, h2⟩ := fit_struct Try.underlying25 h
  obtain ⟨a, b, rfl⟩ := len2 h1
  have ha : Fit Try.prog 22 a := h2 0 _ _ rfl rfl
  have hb : Fit Try.prog 23 b := h2 1 _ _ rfl rfl
  obtain ⟨r, e1, q1, s1⟩ := rd_ivs (H := H) a ha
  obtain ⟨cs, e2, q2, s2⟩ := reads_slice (H := H) Try.underlying23 rd_cell b hb
  have f1 := one_sl Try.underlying22 ha e1
  have f2 := one_sl Try.underlying23 hb e2
  have l1 := sum_len (fun _ : Int × Int => 1) (fun _ => Nat.le_refl _) r
  refine ⟨⟨r, cs⟩, by simp [rd1, rdA, f1, f2, mkAgg, vals?], ⟨q1.1, q2.1, q2.2⟩, ?_⟩
  simp only at s1 s2
  simp only [bulk, bulkL, tSz]; omega
end
end Go.Ab
