/- TreeChanges: for every input of bulk at most 1048576 the law returns true, and its arguments read as before. -/
import Derived.Test.YtagmnknighofeaaRdT
import Derived.Test.YtagmnknighofeaaL28f
set_option linter.all false
namespace Go.Ab
theorem le_sum {α : Type} {f : α → Nat} : ∀ {l : List α} {x : α}, x ∈ l → f x ≤ (l.map f).sum
  | y :: l, x, h => by
    rcases List.mem_cons.1 h with rfl | h
    · simp
    · have := le_sum (f := f) h
      simp; omega
theorem tle_of {t : Tr} {b : Nat} (h : tSz t ≤ b) (hb : b ≤ 1048576) : TLe 16777216 t := by
  unfold tSz at h
  have h1 := sum_len (fun c : Cel => vSz c.v) (fun c => by unfold vSz; omega) t.cells
  refine ⟨by omega, by omega, fun c hc => ?_⟩
  have h2 : vSz c.v ≤ (t.cells.map fun c => vSz c.v).sum := le_sum (f := fun c : Cel => vSz c.v) hc
  have h3 : vSz c.v = c.v.nor.length + c.v.left.length + c.v.right.length + 1 := rfl
  exact ⟨by omega, by omega, by omega⟩
theorem vle_of {v : Verd} {b : Nat} (h : vSz v ≤ b) (hb : b ≤ 1048576) : vLe 16777216 v := by
  unfold vSz at h
  exact ⟨by omega, by omega, by omega⟩
end Go.Ab
namespace Go.Proofs.Ytagmnknighofeaa.treeChanges
open Go.Ab Go.ChangeShapes Go.WideShapes Go.ChangeAt Go.RowKit
theorem det {H : Type} (ds : List (DataW H)) (h : FitAll Try.prog [25, 3, 3, 52, 26, 3, 3, 3, 3] ds) (hb : bulkL ds ≤ 1048576) : DetH Try.prog 6 (ds.map fun d => .pv (rd1 d)) [] [] (.pv (.val (.bool true))) := by
  match ds, h, hb with
  | [x1, x2, x3, x4, x5, x6, x7, x8, x9], ⟨f1, f2, f3, f4, f5, f6, f7, f8, f9, _⟩, hb =>
    simp only [bulkL] at hb
    obtain ⟨a1, e1, q1, s1⟩ := rd_tree x1 f1
    obtain ⟨a2, e2, q2, s2⟩ := rd_int x2 f2
    obtain ⟨a3, e3, q3, s3⟩ := rd_int x3 f3
    obtain ⟨a4, e4, q4, s4⟩ := rd_verdict x4 f4
    obtain ⟨a5, e5, q5, s5⟩ := rd_ints x5 f5
    obtain ⟨a6, e6, q6, s6⟩ := rd_int x6 f6
    obtain ⟨a7, e7, q7, s7⟩ := rd_int x7 f7
    obtain ⟨a8, e8, q8, s8⟩ := rd_int x8 f8
    obtain ⟨a9, e9, q9, s9⟩ := rd_int x9 f9
    simp only [List.map, e1, e2, e3, e4, e5, e6, e7, e8, e9]
    exact d6 a1 a2 a3 a4 a5 a6 a7 a8 a9 (tle_of s1 (by omega)) (vle_of s4 (by omega))
set_option maxRecDepth 100000 in
theorem contract (H : Type) (enc : TypeId × Value → H) (W : World) (base : Nat) (args : Array Value) (ds gs : List (DataW H)) (before : List MemPlace)
    (hval : ∀ (j : Nat) t v, Try.f6.params[j]? = some t → args[j]? = some v → Value.okWide Try.prog W .any base t v)
    (hW : DataW.Whole enc Try.prog Try.f6.params.toList Rows.treeChangesSpec.vars false W args.toList ds gs before) (hk : Rows.uptoSmall H (ds ++ gs) = true) :
    Calls Try.prog 6 args W fun e W' => ∃ v, e = .returned v ∧ Rows.treeChangesSpec.post enc Try.prog Try.f6 false true false false W args v W' := by
  have hp : Try.f6.params.toList = [25, 3, 3, 52, 26, 3, 3, 3, 3] := by rw [Try.params6]
  refine law_contract (P := Try.prog) (f := 6) (fn := Try.f6) (s := Rows.treeChangesSpec) (tb := 4) kids full (by kernel_rfl) (by kernel_rfl) Try.underlying4 rfl W base args ds gs before hval hW (fun h => ?_) (fun h => ?_)
  · rw [hp] at h
    match ds, h with
    | [x1, x2, x3, x4, x5, x6, x7, x8, x9], _ => rfl
  · rw [hp] at h
    exact det ds h (bulk_small hk)
set_option maxRecDepth 100000 in
theorem lifted (os : Os) (started : os.Started) (H : Type) (enc : TypeId × Value → H) (F : Stop.Interp) :
    ReturnsInHanded {} Try.checked os 6 .any ((Rows.OpenSpec.upto Rows.treeChangesSpec).pre6 enc Try.prog Try.f6 Rows.treeChangesUptoRow.domain false) (((Rows.OpenSpec.upto Rows.treeChangesSpec).at F).post enc Try.prog Try.f6 false true false false) := by
  refine returnsInHanded_of_cond (C := Try.checked) (s := Rows.OpenSpec.upto Rows.treeChangesSpec) (k := Rows.uptoSmall) rfl own started (by kernel_rfl) Try.func6
    (OpenSpec.witness (enc := enc) (C := Try.checked) (s := Rows.OpenSpec.upto Rows.treeChangesSpec) (k := Rows.uptoSmall) rfl false ⟨#[], #[.agg #[.slice none 0 0, .slice none 0 0], .int .i64 0, .int .i64 0, .agg #[.int .i64 0, .slice none 0 0, .int .i64 0, .slice none 0 0, .slice none 0 0], .slice none 0 0, .int .i64 0, .int .i64 0, .int .i64 0, .int .i64 0], []⟩ 8 (by kernel_rfl) (by kernel_rfl) (by kernel_rfl)
      (x := ([.agg [.nil, .nil], .lit (.int .i64 0), .lit (.int .i64 0), .agg [.lit (.int .i64 0), .nil, .agg [.lit (.int .i64 0), .nil, .nil]], .nil, .lit (.int .i64 0), .lit (.int .i64 0), .lit (.int .i64 0), .lit (.int .i64 0)], [], [])) (by kernel_rfl) rfl (by kernel_rfl)) ?_
  intro W base args ds gs before hval hW _ hk _
  exact contract H enc W base args ds gs before hval hW hk
theorem over : Rows.treeChangesUptoRow.holds Try.pinned (Rows.OpenSpec.upto Rows.treeChangesSpec) :=
  OpenClaim.holds_of_cond 6 Try.f6 rfl rfl rfl rfl rfl rfl rfl ⟨rfl, rfl, rfl, rfl, rfl⟩ rfl rfl rfl rfl rfl (by kernel_rfl) Try.func6 (by kernel_rfl)
    (of_decide_eq_true (by kernel_rfl)) (by unfold Func.isWrapper; first | (rw [if_pos (by decide +kernel)]; kernel_rfl) | (rw [if_neg (by decide +kernel)]; exact ⟨rfl, rfl⟩))
    (fun os started H enc _ F => lifted os started H enc F)
theorem proved : Rows.TreeChangesUptoSaid := over
end Go.Proofs.Ytagmnknighofeaa.treeChanges
