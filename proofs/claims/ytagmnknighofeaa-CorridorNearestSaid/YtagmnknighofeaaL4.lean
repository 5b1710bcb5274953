/- The walk of ConfigReverse. -/
import Derived.Test.YtagmnknighofeaaCf10
set_option linter.all false
namespace Go.Ab
open Go.Proofs
theorem cfgL_len (l : List Int) (js : List J) : (cfgL l js).length = js.length := by simp [cfgL]
theorem piece_len (xs ys : List Int) (d i : Int) : (pieceL xs ys d i).1.length ≤ xs.length := by
  unfold pieceL; split <;> simp; omega
theorem mot_facts (depth index : Int) : 0 ≤ motD depth ∧ motD depth < 20 ∧ 0 ≤ motI depth index ∧ motI depth index < 2 ^ (motD depth).toNat ∧ (2 : Int) ^ (motD depth).toNat ≤ 524288 := by
  have h := round_range depth (k := 20) (by decide) (by decide)
  have hp : ∀ n : Nat, n < 20 → (2 : Int) ^ n ≤ 524288 ∧ 0 < (2 : Int) ^ n := by decide
  have hp' := hp (motD depth).toNat (by unfold motD; omega)
  have h2 := round_range index (k := 2 ^ (motD depth).toNat) hp'.2 (by omega)
  exact ⟨h.1, h.2, h2.1, h2.2, hp'.1⟩
def revB (p q : List Int) (d i : Int) : Bool := (pieceL p q d i).2 && (pieceL q p d (2 ^ d.toNat - 1 - i)).2 && sameX (pieceL p q d i).1 (pieceL q p d (2 ^ d.toNat - 1 - i)).1
end Go.Ab
