/- ConfigReverse: for every input the law returns true, and its arguments read as before. No condition. -/
import Derived.Test.YtgamhginhckcpaaRd
import Derived.Test.YtgamhginhckcpaaPl2
set_option linter.all false
namespace Go.Proofs.Ytgamhginhckcpaa.configReverse
open Go.Ab Go.ChangeShapes Go.WideShapes Go.ChangeAt Go.RowKit
theorem det {H : Type} (ds : List (DataW H)) (h : FitAll Try.prog [22, 22, 22, 3, 3] ds) : DetH Try.prog 4 (ds.map fun d => .pv (rd1 d)) [] [] (.pv (.val (.bool true))) := by
  match ds, h with
  | [x1, x2, x3, x4, x5], ⟨f1, f2, f3, f4, f5, _⟩ =>
    have ri := reads_int (H := H) (P := Try.prog) (t := 3) (k := .i64) Try.underlying3
    have rl := reads_slice (t := 22) Try.underlying22 (reads_int (H := H) (P := Try.prog) (t := 3) (k := .i64) Try.underlying3)
    obtain ⟨l, e1, _, _⟩ := rl x1 f1
    obtain ⟨m, e2, _, _⟩ := rl x2 f2
    obtain ⟨n, e3, _, _⟩ := rl x3 f3
    obtain ⟨a, e4, _, _⟩ := ri x4 f4
    obtain ⟨b, e5, _, _⟩ := ri x5 f5
    have := d4 l m n a b
    simp only [List.map, e1, e2, e3, e4, e5]
    rw [rev_true (mot_mot l m n a b)] at this
    exact this
set_option maxRecDepth 100000 in
theorem contract (H : Type) (enc : TypeId × Value → H) (W : World) (base : Nat) (args : Array Value) (ds gs : List (DataW H)) (before : List MemPlace)
    (hval : ∀ (j : Nat) t v, Try.f4.params[j]? = some t → args[j]? = some v → Value.okWide Try.prog W .any base t v)
    (hW : DataW.Whole enc Try.prog Try.f4.params.toList Rows.configReverseSpec.vars false W args.toList ds gs before) :
    Calls Try.prog 4 args W fun e W' => ∃ v, e = .returned v ∧ Rows.configReverseSpec.post enc Try.prog Try.f4 false true false false W args v W' := by
  have hp : Try.f4.params.toList = [22, 22, 22, 3, 3] := by rw [Try.params4]
  refine law_contract (P := Try.prog) (f := 4) (fn := Try.f4) (s := Rows.configReverseSpec) (tb := 4) kids full (by kernel_rfl) (by kernel_rfl) Try.underlying4 rfl W base args ds gs before hval hW (fun h => ?_) (fun h => ?_)
  · rw [hp] at h
    match ds, h with
    | [d1, d2, d3, d4, d5], _ => rfl
  · rw [hp] at h
    exact det ds h
set_option maxRecDepth 100000 in
theorem lifted (os : Os) (started : os.Started) (H : Type) (enc : TypeId × Value → H) :
    ReturnsInHanded {} Try.checked os 4 .any (Rows.configReverseSpec.pre6 enc Try.prog Try.f4 Rows.configReverseRow.domain false) (Rows.configReverseSpec.post enc Try.prog Try.f4 false true false false) := by
  refine returnsInHanded_of_change (C := Try.checked) own started (by kernel_rfl) Try.func4
    (ChangeSpec.witness6 (enc := enc) (C := Try.checked) false ⟨#[], #[.slice none 0 0, .slice none 0 0, .slice none 0 0, .int .i64 0, .int .i64 0], []⟩ 8 (by kernel_rfl) (by kernel_rfl) (by kernel_rfl) (by kernel_rfl)) ?_
  intro W base args ds gs before hval hW _ _
  exact contract H enc W base args ds gs before hval hW
theorem proved : Rows.ConfigReverseSaid :=
  OpenClaim.holds_of_wide 4 Try.f4 rfl rfl rfl rfl rfl rfl rfl ⟨rfl, rfl, rfl, rfl, rfl⟩ rfl rfl rfl rfl rfl (by kernel_rfl) Try.func4 (by kernel_rfl)
    (of_decide_eq_true (by kernel_rfl)) (by unfold Func.isWrapper; first | (rw [if_pos (by decide +kernel)]; kernel_rfl) | (rw [if_neg (by decide +kernel)]; exact ⟨rfl, rfl⟩))
    (fun os started H enc _ => lifted os started H enc)
end Go.Proofs.Ytgamhginhckcpaa.configReverse
