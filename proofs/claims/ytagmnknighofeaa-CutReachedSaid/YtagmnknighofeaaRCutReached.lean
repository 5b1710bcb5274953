/- CutReached: for every input the law returns true, and its arguments read as before. No condition. -/
import Derived.Test.YtagmnknighofeaaRdT
import Derived.Test.YtagmnknighofeaaCu14
set_option linter.all false
namespace Go.Proofs.Ytagmnknighofeaa.cutReached
open Go.Ab Go.ChangeShapes Go.WideShapes Go.ChangeAt Go.RowKit
theorem det {H : Type} (ds : List (DataW H)) (h : FitAll Try.prog [26, 26, 3, 3] ds) : DetH Try.prog 17 (ds.map fun d => .pv (rd1 d)) [] [] (.pv (.val (.bool true))) := by
  match ds, h with
  | [x1, x2, x3, x4], ⟨f1, f2, f3, f4, _⟩ =>
    obtain ⟨a1, e1, q1, s1⟩ := rd_ints x1 f1
    obtain ⟨a2, e2, q2, s2⟩ := rd_ints x2 f2
    obtain ⟨a3, e3, q3, s3⟩ := rd_int x3 f3
    obtain ⟨a4, e4, q4, s4⟩ := rd_int x4 f4
    simp only [List.map, e1, e2, e3, e4]
    exact d17 a1 a2 a3 a4
set_option maxRecDepth 100000 in
theorem contract (H : Type) (enc : TypeId × Value → H) (W : World) (base : Nat) (args : Array Value) (ds gs : List (DataW H)) (before : List MemPlace)
    (hval : ∀ (j : Nat) t v, Try.f17.params[j]? = some t → args[j]? = some v → Value.okWide Try.prog W .any base t v)
    (hW : DataW.Whole enc Try.prog Try.f17.params.toList Rows.cutReachedSpec.vars false W args.toList ds gs before) :
    Calls Try.prog 17 args W fun e W' => ∃ v, e = .returned v ∧ Rows.cutReachedSpec.post enc Try.prog Try.f17 false true false false W args v W' := by
  have hp : Try.f17.params.toList = [26, 26, 3, 3] := by rw [Try.params17]
  refine law_contract (P := Try.prog) (f := 17) (fn := Try.f17) (s := Rows.cutReachedSpec) (tb := 4) kids full (by kernel_rfl) (by kernel_rfl) Try.underlying4 rfl W base args ds gs before hval hW (fun h => ?_) (fun h => ?_)
  · rw [hp] at h
    match ds, h with
    | [x1, x2, x3, x4], _ => rfl
  · rw [hp] at h
    exact det ds h
set_option maxRecDepth 100000 in
theorem lifted (os : Os) (started : os.Started) (H : Type) (enc : TypeId × Value → H) :
    ReturnsInHanded {} Try.checked os 17 .any (Rows.cutReachedSpec.pre6 enc Try.prog Try.f17 Rows.cutReachedRow.domain false) (Rows.cutReachedSpec.post enc Try.prog Try.f17 false true false false) := by
  refine returnsInHanded_of_change (C := Try.checked) own started (by kernel_rfl) Try.func17
    (ChangeSpec.witness6 (enc := enc) (C := Try.checked) false ⟨#[], #[.slice none 0 0, .slice none 0 0, .int .i64 0, .int .i64 0], []⟩ 8 (by kernel_rfl) (by kernel_rfl) (by kernel_rfl) (by kernel_rfl)) ?_
  intro W base args ds gs before hval hW _ _
  exact contract H enc W base args ds gs before hval hW
theorem proved : Rows.CutReachedSaid :=
  OpenClaim.holds_of_wide 17 Try.f17 rfl rfl rfl rfl rfl rfl rfl ⟨rfl, rfl, rfl, rfl, rfl⟩ rfl rfl rfl rfl rfl (by kernel_rfl) Try.func17 (by kernel_rfl)
    (of_decide_eq_true (by kernel_rfl)) (by unfold Func.isWrapper; first | (rw [if_pos (by decide +kernel)]; kernel_rfl) | (rw [if_neg (by decide +kernel)]; exact ⟨rfl, rfl⟩))
    (fun os started H enc _ => lifted os started H enc)
end Go.Proofs.Ytagmnknighofeaa.cutReached
