/- Contracts: names. -/
import Derived.Test.YtagmnknighofeaaCf12
import Derived.Laws.RangeString
import Derived.Laws.RangeAny
import Derived.LoopTactic
set_option linter.all false
namespace Go.Ab
open Go.Proofs
def lowB (b : Nat) : Bool := decide (97 ≤ b) && decide (b ≤ 122)
def digB (b : Nat) : Bool := decide (48 ≤ b) && decide (b ≤ 57)
/-- A letter of a name at a place. -/
def okAt (k b : Nat) : Bool := lowB b || (decide (k ≠ 0) && (digB b || decide (b = 95)))
def lettersB (s : ByteArray) : Bool := (List.range s.size).all fun i => okAt i (s[i]!).toNat
def nameB (s : ByteArray) : Bool := decide (1 ≤ s.size) && decide (s.size ≤ 16) && !(s.toList == [119, 111, 114, 108, 100]) && lettersB s
theorem letters_no {s : ByteArray} {i : Nat} (h : i < s.size) (hb : okAt i (s[i]'h).toNat = false) : lettersB s = false := by
  rw [lettersB, List.all_eq_false]
  exact ⟨i, by simpa using h, by rw [getElem!_pos s i h, hb]; simp⟩
theorem letters_yes {s : ByteArray} (h : ∀ i (hi : i < s.size), okAt i (s[i]'hi).toNat = true) : lettersB s = true := by
  rw [lettersB, List.all_eq_true]
  intro i hi
  have hi' : i < s.size := by simpa using hi
  rw [getElem!_pos s i hi']; exact h i hi'
theorem width_pos' (s : ByteArray) (pos : Nat) (h : pos < s.size) : 1 ≤ (Utf8.decode s pos).2 := by
  by_cases ha : (s[pos]'h).toNat < 128
  · rw [decode_ascii s pos h ha]
    exact Nat.le_refl _
  · exact (decode_high s pos h (by omega)).2
theorem step_ok {s : ByteArray} {pos c : Nat} {hp : pos < s.size} (hc : (s[pos]'hp).toNat = c) (hc' : okAt pos c = true) (hok : ∀ i (hi : i < s.size), i < pos → okAt i (s[i]'hi).toNat = true) : ∀ i (hi : i < s.size), i < pos + 1 → okAt i (s[i]'hi).toNat = true := by
  intro i hi h
  by_cases e : i = pos
  · subst e; rw [hc]; exact hc'
  · exact hok i hi (by omega)
end Go.Ab
