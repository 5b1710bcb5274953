/- CutMeets: for every input the law returns true, and its arguments read as before. No condition. -/
import Derived.Test.YtagmnknighofeaaRdT
import Derived.Test.YtagmnknighofeaaCu15
set_option linter.all false
namespace Go.Ab
open Go.Proofs Go.Proofs.Ytagmnknighofeaa
section
variable {H : Type}
theorem rd_lists : Reads H Try.prog 72 (fun l : List (List Int) => .sl (l.map fun x => .sl (x.map fun i => .val (.int .i64 i)))) (fun l => l.length ≤ 9223372036854775807 ∧ ∀ x ∈ l, (x.length ≤ 9223372036854775807 ∧ ∀ a ∈ x, IntKind.i64.min ≤ a ∧ a ≤ IntKind.i64.max)) (fun l => (l.map fun x => (x.map fun _ => 1).sum + 1).sum + 1) := reads_slice Try.underlying72 rd_int64s
end
end Go.Ab
namespace Go.Proofs.Ytagmnknighofeaa.cutMeets
open Go.Ab Go.ChangeShapes Go.WideShapes Go.ChangeAt Go.RowKit
theorem det {H : Type} (ds : List (DataW H)) (h : FitAll Try.prog [25, 72, 26, 26, 3] ds) : DetH Try.prog 13 (ds.map fun d => .pv (rd1 d)) [] [] (.pv (.val (.bool true))) := by
  match ds, h with
  | [x1, x2, x3, x4, x5], ⟨f1, f2, f3, f4, f5, _⟩ =>
    obtain ⟨a1, e1, q1, s1⟩ := rd_tree x1 f1
    obtain ⟨a2, e2, q2, s2⟩ := rd_lists x2 f2
    obtain ⟨a3, e3, q3, s3⟩ := rd_ints x3 f3
    obtain ⟨a4, e4, q4, s4⟩ := rd_ints x4 f4
    obtain ⟨a5, e5, q5, s5⟩ := rd_int x5 f5
    simp only [List.map, e1, e2, e3, e4, e5]
    exact d13 a1 a2 a3 a4 a5 q2.1 (fun x hx => (q2.2 x hx).1)
set_option maxRecDepth 100000 in
theorem contract (H : Type) (enc : TypeId × Value → H) (W : World) (base : Nat) (args : Array Value) (ds gs : List (DataW H)) (before : List MemPlace)
    (hval : ∀ (j : Nat) t v, Try.f13.params[j]? = some t → args[j]? = some v → Value.okWide Try.prog W .any base t v)
    (hW : DataW.Whole enc Try.prog Try.f13.params.toList Rows.cutMeetsSpec.vars false W args.toList ds gs before) :
    Calls Try.prog 13 args W fun e W' => ∃ v, e = .returned v ∧ Rows.cutMeetsSpec.post enc Try.prog Try.f13 false true false false W args v W' := by
  have hp : Try.f13.params.toList = [25, 72, 26, 26, 3] := by rw [Try.params13]
  refine law_contract (P := Try.prog) (f := 13) (fn := Try.f13) (s := Rows.cutMeetsSpec) (tb := 4) kids full (by kernel_rfl) (by kernel_rfl) Try.underlying4 rfl W base args ds gs before hval hW (fun h => ?_) (fun h => ?_)
  · rw [hp] at h
    match ds, h with
    | [x1, x2, x3, x4, x5], _ => rfl
  · rw [hp] at h
    exact det ds h
set_option maxRecDepth 100000 in
theorem lifted (os : Os) (started : os.Started) (H : Type) (enc : TypeId × Value → H) :
    ReturnsInHanded {} Try.checked os 13 .any (Rows.cutMeetsSpec.pre6 enc Try.prog Try.f13 Rows.cutMeetsRow.domain false) (Rows.cutMeetsSpec.post enc Try.prog Try.f13 false true false false) := by
  refine returnsInHanded_of_change (C := Try.checked) own started (by kernel_rfl) Try.func13
    (ChangeSpec.witness6 (enc := enc) (C := Try.checked) false ⟨#[], #[.agg #[.slice none 0 0, .slice none 0 0], .slice none 0 0, .slice none 0 0, .slice none 0 0, .int .i64 0], []⟩ 8 (by kernel_rfl) (by kernel_rfl) (by kernel_rfl) (by kernel_rfl)) ?_
  intro W base args ds gs before hval hW _ _
  exact contract H enc W base args ds gs before hval hW
theorem proved : Rows.CutMeetsSaid :=
  OpenClaim.holds_of_wide 13 Try.f13 rfl rfl rfl rfl rfl rfl rfl ⟨rfl, rfl, rfl, rfl, rfl⟩ rfl rfl rfl rfl rfl (by kernel_rfl) Try.func13 (by kernel_rfl)
    (of_decide_eq_true (by kernel_rfl)) (by unfold Func.isWrapper; first | (rw [if_pos (by decide +kernel)]; kernel_rfl) | (rw [if_neg (by decide +kernel)]; exact ⟨rfl, rfl⟩))
    (fun os started H enc _ => lifted os started H enc)
end Go.Proofs.Ytagmnknighofeaa.cutMeets
