/- Plain facts: what the boxes of a valid tree are to one another. -/
import Derived.Test.YtagmnknighofeaaTrA
set_option linter.all false
namespace Go.Ab
open Go.Proofs
theorem boxAt_of {t : Tr} {L : OL} (h : boxesO t = some L) {i : Nat} {b : Bx} (hb : L[i]? = some (some b)) : boxAt t (i : Int) = b := by
  rw [boxesO_map h] at hb
  rw [List.getElem?_map, Option.map_eq_some_iff] at hb
  obtain ⟨x, h1, h2⟩ := hb
  injection h2 with h2; subst h2
  simp [boxAt, h1]
/-- An inner cell: its two halves. -/
theorem inner_facts {t : Tr} (hv : validT t = true) {i : Nat} {c : Cel} (hc : t.cells[i]? = some c) (hlf : leafB c = false) :
    innerB t.cells.length i c = true ∧ halveOk (boxAt t (i : Int)) c.joint = true ∧ boxAt t c.low = halveA (boxAt t (i : Int)) c.joint ∧ boxAt t c.high = halveZ (boxAt t (i : Int)) c.joint := by
  obtain ⟨L, hL⟩ := Option.isSome_iff_exists.1 hv
  have hlt := (List.getElem?_eq_some_iff.1 hc).1
  have hP := boxes_ind (P := fun k M => BOk t k M ∧ (i < k → ∃ b, M[i]? = some (some b) ∧ innerB t.cells.length i c = true ∧ halveOk b c.joint = true ∧ M[c.low.toNat]? = some (some (halveA b c.joint)) ∧ M[c.high.toNat]? = some (some (halveZ b c.joint)))) hL ⟨bok_init (boxesO_size hL), by omega⟩ (by
    rintro k d M M' hk ⟨hbo, hp⟩ hm
    refine ⟨bok_step hbo hm, fun hik => ?_⟩
    by_cases e : k = i
    · subst e
      rw [hc] at hk; injection hk with hk; subst hk
      obtain ⟨b, hb, ⟨h1, _⟩ | ⟨_, hi, hh, hlo, hhi, rfl⟩⟩ := bStep_some hm
      · rw [hlf] at h1; cases h1
      · have hin := innerB_iff.1 hi
        refine ⟨b, ?_, hi, hh, ?_, ?_⟩
        · rw [step_get hbo.len hi, if_neg (by omega), if_neg (by omega)]; exact hb
        · rw [step_get hbo.len hi, if_neg (by omega), if_pos rfl]
        · rw [step_get hbo.len hi, if_pos rfl]
    · obtain ⟨b, h1, h2, h3, h4, h5⟩ := hp (by omega)
      exact ⟨b, bStep_mono hm h1, h2, h3, bStep_mono hm h4, bStep_mono hm h5⟩)
  obtain ⟨b, h1, h2, h3, h4, h5⟩ := hP.2 hlt
  have hin := innerB_iff.1 h2
  have e0 := boxAt_of hL h1
  have e1 := boxAt_of hL h4
  have e2 := boxAt_of hL h5
  rw [Int.toNat_of_nonneg (by omega)] at e1 e2
  rw [e0, e1, e2]
  exact ⟨h2, h3, rfl, rfl⟩
theorem root_box {t : Tr} (hv : validT t = true) : boxAt t 0 = t.root := by
  obtain ⟨L, hL⟩ := Option.isSome_iff_exists.1 hv
  have hP := boxes_ind (P := fun _ M => M[0]? = some (some t.root)) hL (by simp [bInit]) (fun k d M M' _ hp hm => bStep_mono hm hp)
  exact boxAt_of hL hP
/-! leaves are apart -/
def apart (a b : Bx) : Prop := ∃ (j : Nat) (x y : Int × Int), a[j]? = some x ∧ b[j]? = some y ∧ (x.2 ≤ y.1 ∨ y.2 ≤ x.1)
theorem apart.symm {a b : Bx} (h : apart a b) : apart b a := by
  obtain ⟨j, x, y, h1, h2, h3⟩ := h
  exact ⟨j, y, x, h2, h1, h3.symm⟩
/-- The cells that are still to be looked at, and the leaves before. -/
def live (t : Tr) (k j : Nat) : Prop := k ≤ j ∨ leafN t j = true
end Go.Ab
