/- CutFirst: for every input the law returns true, and its arguments read as before. No condition. -/
import Derived.Test.YtagmnknighofeaaRdT
import Derived.Test.YtagmnknighofeaaCu20
set_option linter.all false
namespace Go.Proofs.Ytagmnknighofeaa.cutFirst
open Go.Ab Go.ChangeShapes Go.WideShapes Go.ChangeAt Go.RowKit
theorem det {H : Type} (ds : List (DataW H)) (h : FitAll Try.prog [26, 26, 3, 3, 3, 3] ds) : DetH Try.prog 15 (ds.map fun d => .pv (rd1 d)) [] [] (.pv (.val (.bool true))) := by
  match ds, h with
  | [x1, x2, x3, x4, x5, x6], ⟨f1, f2, f3, f4, f5, f6, _⟩ =>
    obtain ⟨a1, e1, q1, s1⟩ := rd_ints x1 f1
    obtain ⟨a2, e2, q2, s2⟩ := rd_ints x2 f2
    obtain ⟨a3, e3, q3, s3⟩ := rd_int x3 f3
    obtain ⟨a4, e4, q4, s4⟩ := rd_int x4 f4
    obtain ⟨a5, e5, q5, s5⟩ := rd_int x5 f5
    obtain ⟨a6, e6, q6, s6⟩ := rd_int x6 f6
    simp only [List.map, e1, e2, e3, e4, e5, e6]
    exact d15 a1 a2 a3 a4 a5 a6
set_option maxRecDepth 100000 in
theorem contract (H : Type) (enc : TypeId × Value → H) (W : World) (base : Nat) (args : Array Value) (ds gs : List (DataW H)) (before : List MemPlace)
    (hval : ∀ (j : Nat) t v, Try.f15.params[j]? = some t → args[j]? = some v → Value.okWide Try.prog W .any base t v)
    (hW : DataW.Whole enc Try.prog Try.f15.params.toList Rows.cutFirstSpec.vars false W args.toList ds gs before) :
    Calls Try.prog 15 args W fun e W' => ∃ v, e = .returned v ∧ Rows.cutFirstSpec.post enc Try.prog Try.f15 false true false false W args v W' := by
  have hp : Try.f15.params.toList = [26, 26, 3, 3, 3, 3] := by rw [Try.params15]
  refine law_contract (P := Try.prog) (f := 15) (fn := Try.f15) (s := Rows.cutFirstSpec) (tb := 4) kids full (by kernel_rfl) (by kernel_rfl) Try.underlying4 rfl W base args ds gs before hval hW (fun h => ?_) (fun h => ?_)
  · rw [hp] at h
    match ds, h with
    | [x1, x2, x3, x4, x5, x6], _ => rfl
  · rw [hp] at h
    exact det ds h
set_option maxRecDepth 100000 in
theorem lifted (os : Os) (started : os.Started) (H : Type) (enc : TypeId × Value → H) :
    ReturnsInHanded {} Try.checked os 15 .any (Rows.cutFirstSpec.pre6 enc Try.prog Try.f15 Rows.cutFirstRow.domain false) (Rows.cutFirstSpec.post enc Try.prog Try.f15 false true false false) := by
  refine returnsInHanded_of_change (C := Try.checked) own started (by kernel_rfl) Try.func15
    (ChangeSpec.witness6 (enc := enc) (C := Try.checked) false ⟨#[], #[.slice none 0 0, .slice none 0 0, .int .i64 0, .int .i64 0, .int .i64 0, .int .i64 0], []⟩ 8 (by kernel_rfl) (by kernel_rfl) (by kernel_rfl) (by kernel_rfl)) ?_
  intro W base args ds gs before hval hW _ _
  exact contract H enc W base args ds gs before hval hW
theorem proved : Rows.CutFirstSaid :=
  OpenClaim.holds_of_wide 15 Try.f15 rfl rfl rfl rfl rfl rfl rfl ⟨rfl, rfl, rfl, rfl, rfl⟩ rfl rfl rfl rfl rfl (by kernel_rfl) Try.func15 (by kernel_rfl)
    (of_decide_eq_true (by kernel_rfl)) (by unfold Func.isWrapper; first | (rw [if_pos (by decide +kernel)]; kernel_rfl) | (rw [if_neg (by decide +kernel)]; exact ⟨rfl, rfl⟩))
    (fun os started H enc _ => lifted os started H enc)
end Go.Proofs.Ytagmnknighofeaa.cutFirst
