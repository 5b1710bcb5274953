/- ConfigLists: for every input of bulk at most 1048576 the law returns true, and its arguments read as before. -/
import Derived.Test.YtgamhginhckcpaaRd
import Derived.Test.YtgamhginhckcpaaL11
set_option linter.all false
namespace Go.Ab
theorem ivs_len {l : List (Int × Int)} {b : Nat} (h : (l.map fun _ => 1).sum + 1 ≤ b) : l.length ≤ b := by
  have := sum_len (fun _ : Int × Int => 1) (fun _ => Nat.le_refl _) l
  omega
theorem ints_len {l : List Int} {b : Nat} (h : (l.map fun _ => 1).sum + 1 ≤ b) : l.length ≤ b := by
  have := sum_len (fun _ : Int => 1) (fun _ => Nat.le_refl _) l
  omega
end Go.Ab
namespace Go.Proofs.Ytgamhginhckcpaa.configLists
open Go.Ab Go.ChangeShapes Go.WideShapes Go.ChangeAt Go.RowKit
theorem det {H : Type} (ds : List (DataW H)) (h : FitAll Try.prog [42, 23, 26, 22, 22, 22, 3, 2] ds) (hb : bulkL ds ≤ 1048576) : DetH Try.prog 12 (ds.map fun d => .pv (rd1 d)) [] [] (.pv (.val (.bool true))) := by
  match ds, h, hb with
  | [x1, x2, x3, x4, x5, x6, x7, x8], ⟨f1, f2, f3, f4, f5, f6, f7, f8, _⟩, hb =>
    simp only [bulkL] at hb
    obtain ⟨a1, e1, q1, s1⟩ := rd_robot x1 f1
    obtain ⟨a2, e2, q2, s2⟩ := rd_int64s x2 f2
    obtain ⟨a3, e3, q3, s3⟩ := rd_ivs x3 f3
    obtain ⟨a4, e4, q4, s4⟩ := rd_ints x4 f4
    obtain ⟨a5, e5, q5, s5⟩ := rd_ints x5 f5
    obtain ⟨a6, e6, q6, s6⟩ := rd_ints x6 f6
    obtain ⟨a7, e7, q7, s7⟩ := rd_int x7 f7
    obtain ⟨a8, e8, q8, s8⟩ := rd_int64 x8 f8
    simp only [List.map, e1, e2, e3, e4, e5, e6, e7, e8]
    exact d12 a1.1 a1.2 a2 a3 a4 a5 a6 a7 a8 q1.1 q1.2 (by have := ints_len s2; omega) (by have := ivs_len s3; omega)
set_option maxRecDepth 100000 in
theorem contract (H : Type) (enc : TypeId × Value → H) (W : World) (base : Nat) (args : Array Value) (ds gs : List (DataW H)) (before : List MemPlace)
    (hval : ∀ (j : Nat) t v, Try.f12.params[j]? = some t → args[j]? = some v → Value.okWide Try.prog W .any base t v)
    (hW : DataW.Whole enc Try.prog Try.f12.params.toList Rows.configListsSpec.vars false W args.toList ds gs before) (hk : Rows.uptoSmall H (ds ++ gs) = true) :
    Calls Try.prog 12 args W fun e W' => ∃ v, e = .returned v ∧ Rows.configListsSpec.post enc Try.prog Try.f12 false true false false W args v W' := by
  have hp : Try.f12.params.toList = [42, 23, 26, 22, 22, 22, 3, 2] := by rw [Try.params12]
  refine law_contract (P := Try.prog) (f := 12) (fn := Try.f12) (s := Rows.configListsSpec) (tb := 4) kids full (by kernel_rfl) (by kernel_rfl) Try.underlying4 rfl W base args ds gs before hval hW (fun h => ?_) (fun h => ?_)
  · rw [hp] at h
    match ds, h with
    | [x1, x2, x3, x4, x5, x6, x7, x8], _ => rfl
  · rw [hp] at h
    exact det ds h (bulk_small hk)
set_option maxRecDepth 100000 in
theorem lifted (os : Os) (started : os.Started) (H : Type) (enc : TypeId × Value → H) (F : Stop.Interp) :
    ReturnsInHanded {} Try.checked os 12 .any ((Rows.OpenSpec.upto Rows.configListsSpec).pre6 enc Try.prog Try.f12 Rows.configListsUptoRow.domain false) (((Rows.OpenSpec.upto Rows.configListsSpec).at F).post enc Try.prog Try.f12 false true false false) := by
  refine returnsInHanded_of_cond (C := Try.checked) (s := Rows.OpenSpec.upto Rows.configListsSpec) (k := Rows.uptoSmall) rfl own started (by kernel_rfl) Try.func12
    (OpenSpec.witness (enc := enc) (C := Try.checked) (s := Rows.OpenSpec.upto Rows.configListsSpec) (k := Rows.uptoSmall) rfl false ⟨#[], #[.agg #[.slice none 0 0, .slice none 0 0], .slice none 0 0, .slice none 0 0, .slice none 0 0, .slice none 0 0, .slice none 0 0, .int .i64 0, .int .i64 0], []⟩ 8 (by kernel_rfl) (by kernel_rfl) (by kernel_rfl)
      (x := ([.agg [.nil, .nil], .nil, .nil, .nil, .nil, .nil, .lit (.int .i64 0), .lit (.int .i64 0)], [], [])) (by kernel_rfl) rfl (by kernel_rfl)) ?_
  intro W base args ds gs before hval hW _ hk _
  exact contract H enc W base args ds gs before hval hW hk
theorem over : Rows.configListsUptoRow.holds Try.pinned (Rows.OpenSpec.upto Rows.configListsSpec) :=
  OpenClaim.holds_of_cond 12 Try.f12 rfl rfl rfl rfl rfl rfl rfl ⟨rfl, rfl, rfl, rfl, rfl⟩ rfl rfl rfl rfl rfl (by kernel_rfl) Try.func12 (by kernel_rfl)
    (of_decide_eq_true (by kernel_rfl)) (by unfold Func.isWrapper; first | (rw [if_pos (by decide +kernel)]; kernel_rfl) | (rw [if_neg (by decide +kernel)]; exact ⟨rfl, rfl⟩))
    (fun os started H enc _ F => lifted os started H enc F)
theorem proved : Rows.ConfigListsUptoSaid := over
end Go.Proofs.Ytgamhginhckcpaa.configLists
