/- Contracts: floods, V: the reference. -/
import Derived.Test.YtagmnknighofeaaCu5
set_option linter.all false
namespace Go.Ab
open Go.Proofs
theorem touchC_sw {a b : Bx} (ha : allB vI a = true) (hb : allB vI b = true) : touchC a b = touchC b a := by
  rw [Bool.eq_iff_iff, touchC_vi ha hb, touchC_vi hb ha]
  exact ⟨fun ⟨h1, h2⟩ => ⟨h1.symm, fun i x y hx hy => (h2 i y x hy hx).symm⟩, fun ⟨h1, h2⟩ => ⟨h1.symm, fun i x y hx hy => (h2 i y x hy hx).symm⟩⟩
theorem touchT_swap {t : Tr} (hv : validT t = true) {i j : Nat} (hi : i < t.cells.length) (hj : j < t.cells.length) : tchT t i j = tchT t j i := by
  obtain ⟨_, _, v1⟩ := boxAt_ok hv (c := (i : Int)) (by simpa using hi)
  obtain ⟨_, _, v2⟩ := boxAt_ok hv (c := (j : Int)) (by simpa using hj)
  exact touchC_sw v1 v2
end Go.Ab
