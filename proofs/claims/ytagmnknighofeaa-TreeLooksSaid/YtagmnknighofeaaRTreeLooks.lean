/- TreeLooks: for every input the law returns true, and its arguments read as before. No condition. -/
import Derived.Test.YtagmnknighofeaaRdT
import Derived.Test.YtagmnknighofeaaL28d
set_option linter.all false
namespace Go.Proofs.Ytagmnknighofeaa.treeLooks
open Go.Ab Go.ChangeShapes Go.WideShapes Go.ChangeAt Go.RowKit
theorem det {H : Type} (ds : List (DataW H)) (h : FitAll Try.prog [25, 3, 33, 26, 26, 3, 3, 3] ds) : DetH Try.prog 8 (ds.map fun d => .pv (rd1 d)) [] [] (.pv (.val (.bool true))) := by
  match ds, h with
  | [x1, x2, x3, x4, x5, x6, x7, x8], ⟨f1, f2, f3, f4, f5, f6, f7, f8, _⟩ =>
    obtain ⟨a1, e1, q1, s1⟩ := rd_tree x1 f1
    obtain ⟨a2, e2, q2, s2⟩ := rd_int x2 f2
    obtain ⟨a3, e3, q3, s3⟩ := rd_int64s x3 f3
    obtain ⟨a4, e4, q4, s4⟩ := rd_ints x4 f4
    obtain ⟨a5, e5, q5, s5⟩ := rd_ints x5 f5
    obtain ⟨a6, e6, q6, s6⟩ := rd_int x6 f6
    obtain ⟨a7, e7, q7, s7⟩ := rd_int x7 f7
    obtain ⟨a8, e8, q8, s8⟩ := rd_int x8 f8
    simp only [List.map, e1, e2, e3, e4, e5, e6, e7, e8]
    exact d8 a1 a2 a3 a4 a5 a6 a7 a8
set_option maxRecDepth 100000 in
theorem contract (H : Type) (enc : TypeId × Value → H) (W : World) (base : Nat) (args : Array Value) (ds gs : List (DataW H)) (before : List MemPlace)
    (hval : ∀ (j : Nat) t v, Try.f8.params[j]? = some t → args[j]? = some v → Value.okWide Try.prog W .any base t v)
    (hW : DataW.Whole enc Try.prog Try.f8.params.toList Rows.treeLooksSpec.vars false W args.toList ds gs before) :
    Calls Try.prog 8 args W fun e W' => ∃ v, e = .returned v ∧ Rows.treeLooksSpec.post enc Try.prog Try.f8 false true false false W args v W' := by
  have hp : Try.f8.params.toList = [25, 3, 33, 26, 26, 3, 3, 3] := by rw [Try.params8]
  refine law_contract (P := Try.prog) (f := 8) (fn := Try.f8) (s := Rows.treeLooksSpec) (tb := 4) kids full (by kernel_rfl) (by kernel_rfl) Try.underlying4 rfl W base args ds gs before hval hW (fun h => ?_) (fun h => ?_)
  · rw [hp] at h
    match ds, h with
    | [x1, x2, x3, x4, x5, x6, x7, x8], _ => rfl
  · rw [hp] at h
    exact det ds h
set_option maxRecDepth 100000 in
theorem lifted (os : Os) (started : os.Started) (H : Type) (enc : TypeId × Value → H) :
    ReturnsInHanded {} Try.checked os 8 .any (Rows.treeLooksSpec.pre6 enc Try.prog Try.f8 Rows.treeLooksRow.domain false) (Rows.treeLooksSpec.post enc Try.prog Try.f8 false true false false) := by
  refine returnsInHanded_of_change (C := Try.checked) own started (by kernel_rfl) Try.func8
    (ChangeSpec.witness6 (enc := enc) (C := Try.checked) false ⟨#[], #[.agg #[.slice none 0 0, .slice none 0 0], .int .i64 0, .slice none 0 0, .slice none 0 0, .slice none 0 0, .int .i64 0, .int .i64 0, .int .i64 0], []⟩ 8 (by kernel_rfl) (by kernel_rfl) (by kernel_rfl) (by kernel_rfl)) ?_
  intro W base args ds gs before hval hW _ _
  exact contract H enc W base args ds gs before hval hW
theorem proved : Rows.TreeLooksSaid :=
  OpenClaim.holds_of_wide 8 Try.f8 rfl rfl rfl rfl rfl rfl rfl ⟨rfl, rfl, rfl, rfl, rfl⟩ rfl rfl rfl rfl rfl (by kernel_rfl) Try.func8 (by kernel_rfl)
    (of_decide_eq_true (by kernel_rfl)) (by unfold Func.isWrapper; first | (rw [if_pos (by decide +kernel)]; kernel_rfl) | (rw [if_neg (by decide +kernel)]; exact ⟨rfl, rfl⟩))
    (fun os started H enc _ => lifted os started H enc)
end Go.Proofs.Ytagmnknighofeaa.treeLooks
