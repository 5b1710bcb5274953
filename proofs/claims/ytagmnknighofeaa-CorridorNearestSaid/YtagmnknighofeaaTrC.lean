/- Plain facts: chains of leaves. -/
import Derived.Test.YtagmnknighofeaaTrQ
set_option linter.all false
namespace Go.Ab
open Go.Proofs
theorem cell_low {t : Tr} (hv : validT t = true) {i : Nat} {c : Cel} (hc : t.cells[i]? = some c) : (c.low == -1) = leafB c ∧ (leafB c = false → innerB t.cells.length i c = true) := by
  obtain ⟨L, hL⟩ := Option.isSome_iff_exists.1 hv
  have hp := boxes_ind (P := fun k _ => i < k → (c.low == -1) = leafB c ∧ (leafB c = false → innerB t.cells.length i c = true)) hL (by intro h; omega) (fun k d M M' hk hp hm hi => by
    by_cases e : k = i
    · subst e
      rw [hc] at hk; injection hk with hk; subst hk
      obtain ⟨b, hb, ⟨h1, _, _⟩ | ⟨h1, h2, _⟩⟩ := bStep_some hm
      · refine ⟨?_, fun h => by rw [h1] at h; cases h⟩
        rw [h1]; simp [leafB] at h1; simp [h1]
      · refine ⟨?_, fun _ => h2⟩
        rw [h1]
        have := innerB_iff.1 h2
        simp; omega
    · exact hp (by omega))
  exact hp (List.getElem?_eq_some_iff.1 hc).1
def boxAt (t : Tr) (c : Int) : Bx := (boxesL t)[c.toNat]?.getD []
theorem boxAt_ok {t : Tr} (hv : validT t = true) {c : Int} (h : c.toNat < t.cells.length) : (boxesL t)[c.toNat]? = some (boxAt t c) ∧ (boxAt t c).length = t.root.length ∧ allB vI (boxAt t c) = true := by
  have hl : c.toNat < (boxesL t).length := by rw [boxesL_len hv]; exact h
  have e : (boxesL t)[c.toNat]? = some (boxAt t c) := by simp [boxAt, List.getElem?_eq_getElem hl]
  exact ⟨e, boxesL_ok e⟩
def chStep (t : Tr) (chain : List Int) (j : Nat) : Bool := match chain[j]? with
  | some c => decide (0 ≤ c) && decide (c < t.cells.length) && leafN t c.toNat && !((chain.take j).contains c) && (decide (j = 0) || touchC (boxAt t (chain[j - 1]?.getD 0)) (boxAt t c))
  | none => false
def chB (t : Tr) (chain : List Int) (n : Nat) : Bool := (List.range n).all (chStep t chain)
theorem chB_zero (t : Tr) (chain : List Int) : chB t chain 0 = true := by simp [chB]
theorem chB_iff {t : Tr} {chain : List Int} {n : Nat} : chB t chain n = true ↔ ∀ j, j < n → chStep t chain j = true := by
  simp [chB, List.all_eq_true]
theorem chB_step {t : Tr} {chain : List Int} {n : Nat} (h : chB t chain n = true) (hs : chStep t chain n = true) : chB t chain (n + 1) = true := by
  rw [chB_iff] at h ⊢
  intro j hj
  by_cases e : j = n
  · rw [e]; exact hs
  · exact h j (by omega)
theorem chB_false {t : Tr} {chain : List Int} {j : Nat} (hj : j < chain.length) (hs : chStep t chain j = false) : chB t chain chain.length = false := by
  cases h : chB t chain chain.length with
  | false => rfl
  | true => rw [chB_iff.1 h j hj] at hs; cases hs
theorem chStep_iff {t : Tr} {chain : List Int} {j : Nat} {c : Int} (hc : chain[j]? = some c) : chStep t chain j = true ↔ 0 ≤ c ∧ c < t.cells.length ∧ leafN t c.toNat = true ∧ c ∉ chain.take j ∧ (j = 0 ∨ touchC (boxAt t (chain[j - 1]?.getD 0)) (boxAt t c) = true) := by
  simp [chStep, hc, and_assoc]
def chPre (t : Tr) (chain p q : List Int) : Bool := validT t && hasC t.root p && hasC t.root q && decide (chain ≠ []) && chB t chain chain.length
def chEnds (t : Tr) (chain p q : List Int) : Bool := hasC (boxAt t (chain[0]?.getD 0)) p && hasC (boxAt t (chain[chain.length - 1]?.getD 0)) q
def chainOk (t : Tr) (chain p q : List Int) : Bool := chPre t chain p q && chEnds t chain p q
def ptS (t : Tr) (chain p : List Int) : Nat → List Int
  | 0 => p
  | k + 1 => portalL (boxAt t (chain[k]?.getD 0)) (boxAt t (chain[k + 1]?.getD 0)) (ptS t chain p k)
def ptsL (t : Tr) (chain p q : List Int) : List (List Int) := if chainOk t chain p q then (List.range chain.length).map (ptS t chain p) ++ [q] else []
structure ChOk (t : Tr) (chain p q : List Int) : Prop where
  valid : validT t = true
  hp : hasC t.root p = true
  hq : hasC t.root q = true
  ne : chain ≠ []
  all : ∀ j, j < chain.length → chStep t chain j = true
theorem chPre_iff {t : Tr} {chain p q : List Int} : chPre t chain p q = true ↔ ChOk t chain p q := by
  simp only [chPre, Bool.and_eq_true, decide_eq_true_eq, chB_iff]
  exact ⟨fun ⟨⟨⟨⟨a, b⟩, c⟩, d⟩, e⟩ => ⟨a, b, c, d, e⟩, fun ⟨a, b, c, d, e⟩ => ⟨⟨⟨⟨a, b⟩, c⟩, d⟩, e⟩⟩
namespace ChOk
variable {t : Tr} {chain p q : List Int}
theorem get (h : ChOk t chain p q) {j : Nat} (hj : j < chain.length) : 0 ≤ chain[j] ∧ chain[j] < t.cells.length ∧ leafN t chain[j].toNat = true ∧ chain[j] ∉ chain.take j ∧ (j = 0 ∨ touchC (boxAt t (chain[j - 1]?.getD 0)) (boxAt t chain[j]) = true) :=
  (chStep_iff (List.getElem?_eq_getElem hj)).1 (h.all j hj)
theorem box (h : ChOk t chain p q) {j : Nat} (hj : j < chain.length) : (boxesL t)[chain[j].toNat]? = some (boxAt t chain[j]) ∧ (boxAt t chain[j]).length = t.root.length ∧ allB vI (boxAt t chain[j]) = true := by
  have := h.get hj
  exact boxAt_ok h.valid (by omega)
theorem touch (h : ChOk t chain p q) {j : Nat} (hj : j + 1 < chain.length) : touchC (boxAt t chain[j]) (boxAt t chain[j + 1]) = true := by
  have := (h.get hj).2.2.2.2
  rcases this with e | e
  · omega
  · rw [Nat.add_sub_cancel, List.getElem?_eq_getElem (by omega)] at e; exact e
theorem plen (h : ChOk t chain p q) : p.length = t.root.length := by
  have := h.hp
  simp only [hasC, Bool.and_eq_true, decide_eq_true_eq] at this
  exact this.1.symm
theorem pt_len (h : ChOk t chain p q) : ∀ {k : Nat}, k < chain.length → (ptS t chain p k).length = t.root.length
  | 0, _ => h.plen
  | k + 1, hk => by
    have ih := pt_len h (k := k) (by omega)
    simp only [ptS]
    rw [List.getElem?_eq_getElem (by omega : k < chain.length), List.getElem?_eq_getElem hk]
    simp only [Option.getD_some]
    rw [portal_len (h.touch hk) (by rw [ih, (h.box (by omega)).2.1])]
    exact (h.box (by omega)).2.1
theorem pt_ok (h : ChOk t chain p q) {k : Nat} (hk : k + 1 < chain.length) : portalOk (boxAt t chain[k]) (boxAt t chain[k + 1]) (ptS t chain p k) = true := by
  simp [portalOk, h.touch hk, h.pt_len (by omega : k < chain.length), (h.box (by omega : k < chain.length)).2.1]
theorem pt_succ (h : ChOk t chain p q) {k : Nat} (hk : k + 1 < chain.length) : ptS t chain p (k + 1) = portalL (boxAt t chain[k]) (boxAt t chain[k + 1]) (ptS t chain p k) := by
  simp only [ptS]
  rw [List.getElem?_eq_getElem (by omega : k < chain.length), List.getElem?_eq_getElem hk]
  rfl
end ChOk
end Go.Ab
