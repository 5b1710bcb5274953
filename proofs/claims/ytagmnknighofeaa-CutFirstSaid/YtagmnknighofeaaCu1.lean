/- Plain facts: what is reached. -/
import Derived.Test.YtagmnknighofeaaTrA
set_option linter.all false
namespace Go.Ab
open Go.Proofs
def mk1 (U : List Bool) (i : Nat) : Prop := U[i]? = some true
/-- What is reached from a set, by steps to open ones that touch. -/
inductive Rch (n : Nat) (opn : Nat → Bool) (tch : Nat → Nat → Bool) (S : Nat → Prop) : Nat → Prop
  | base {i : Nat} (h : S i) : Rch n opn tch S i
  | step {i k : Nat} (h : Rch n opn tch S i) (hk : k < n) (ho : opn k = true) (ht : tch i k = true) : Rch n opn tch S k
structure IsR (n : Nat) (opn : Nat → Bool) (tch : Nat → Nat → Bool) (S : Nat → Prop) (U : List Bool) : Prop where
  len : U.length = n
  iff : ∀ i, i < n → (mk1 U i ↔ Rch n opn tch S i)
theorem isR_ex (n : Nat) (opn : Nat → Bool) (tch : Nat → Nat → Bool) (S : Nat → Prop) : ∃ U, IsR n opn tch S U := by
  classical
  refine ⟨(List.range n).map fun i => decide (Rch n opn tch S i), by simp, fun i hi => ?_⟩
  simp [mk1, hi]
theorem isR_unique {n : Nat} {opn : Nat → Bool} {tch : Nat → Nat → Bool} {S : Nat → Prop} {U V : List Bool} (h : IsR n opn tch S U) (h' : IsR n opn tch S V) : U = V := by
  apply List.ext_getElem (by rw [h.len, h'.len])
  intro i hi hi'
  have e1 := h.iff i (by rw [← h.len]; exact hi)
  have e2 := h'.iff i (by rw [← h.len]; exact hi)
  simp only [mk1, List.getElem?_eq_getElem hi, List.getElem?_eq_getElem hi', Option.some.injEq] at e1 e2
  cases hu : U[i] <;> cases hv : V[i] <;> simp_all
section
variable {n : Nat} {opn : Nat → Bool} {tch : Nat → Nat → Bool} {S : Nat → Prop} {U : List Bool} {F : List Nat}
/-- All marked ones are to be looked at still, or all that they touch is marked. -/
structure FI (n : Nat) (opn : Nat → Bool) (tch : Nat → Nat → Bool) (S : Nat → Prop) (U : List Bool) (F : List Nat) : Prop where
  len : U.length = n
  base : ∀ i, S i → mk1 U i
  sound : ∀ i, mk1 U i → Rch n opn tch S i
  mem : ∀ i ∈ F, mk1 U i
  clo : ∀ i, mk1 U i → i ∈ F ∨ ∀ k, k < n → opn k = true → tch i k = true → mk1 U k
/-- The same while x is looked at. -/
structure FJ (n : Nat) (opn : Nat → Bool) (tch : Nat → Nat → Bool) (S : Nat → Prop) (U : List Bool) (F : List Nat) (x j : Nat) : Prop where
  len : U.length = n
  base : ∀ i, S i → mk1 U i
  sound : ∀ i, mk1 U i → Rch n opn tch S i
  mem : ∀ i ∈ F, mk1 U i
  mx : mk1 U x
  clo : ∀ i, mk1 U i → i ∈ F ∨ i = x ∨ ∀ k, k < n → opn k = true → tch i k = true → mk1 U k
  part : ∀ k, k < j → k < n → opn k = true → tch x k = true → mk1 U k
theorem mk1_lt (hl : U.length = n) {i : Nat} (h : mk1 U i) : i < n := by
  rw [← hl]; exact (List.getElem?_eq_some_iff.1 h).1
theorem mk1_set {j i : Nat} (hj : j < U.length) : mk1 (U.set j true) i ↔ i = j ∨ mk1 U i := by
  unfold mk1
  rw [List.getElem?_set]
  by_cases h : j = i
  · subst h; simp [hj]
  · rw [if_neg h]
    constructor
    · exact .inr
    · rintro (rfl | h')
      · exact absurd rfl h
      · exact h'
theorem FI.fin (h : FI n opn tch S U []) : IsR n opn tch S U := by
  refine ⟨h.len, fun i hi => ⟨h.sound i, fun hr => ?_⟩⟩
  clear hi
  induction hr with
  | base hs => exact h.base _ hs
  | step _ hk ho ht ih =>
    rcases h.clo _ ih with hF | hc
    · cases hF
    · exact hc _ hk ho ht
theorem FI.pop {F' : List Nat} {x : Nat} (h : FI n opn tch S U F) (hx : x ∈ F) (h1 : ∀ m ∈ F, m ∈ F' ∨ m = x) (h2 : ∀ m ∈ F', m ∈ F) : FJ n opn tch S U F' x 0 :=
  ⟨h.len, h.base, h.sound, fun i hi => h.mem i (h2 i hi), h.mem x hx, fun i hi => by
    rcases h.clo i hi with hF | hc
    · rcases h1 i hF with h3 | h3
      · exact .inl h3
      · exact .inr (.inl h3)
    · exact .inr (.inr hc), fun k hk => by omega⟩
theorem FJ.skip {x j : Nat} (h : FJ n opn tch S U F x j) (hn : opn j = true → tch x j = true → mk1 U j) : FJ n opn tch S U F x (j + 1) :=
  ⟨h.len, h.base, h.sound, h.mem, h.mx, h.clo, fun k hk hkn ho ht => by
    by_cases e : k = j
    · subst e; exact hn ho ht
    · exact h.part k (by omega) hkn ho ht⟩
theorem FJ.add {x j : Nat} (h : FJ n opn tch S U F x j) (hj : j < n) (ho : opn j = true) (ht : tch x j = true) : FJ n opn tch S (U.set j true) (F ++ [j]) x (j + 1) := by
  have hjl : j < U.length := by rw [h.len]; exact hj
  have up : ∀ i, mk1 U i → mk1 (U.set j true) i := fun i hi => (mk1_set hjl).2 (.inr hi)
  refine ⟨by simpa using h.len, fun i hi => up i (h.base i hi), fun i hi => ?_, fun i hi => ?_, up x h.mx, fun i hi => ?_, fun k hk hkn hok htk => ?_⟩
  · rcases (mk1_set hjl).1 hi with rfl | hi
    · exact .step (h.sound x h.mx) hj ho ht
    · exact h.sound i hi
  · rcases List.mem_append.1 hi with hi | hi
    · exact up i (h.mem i hi)
    · simp at hi; subst hi; exact (mk1_set hjl).2 (.inl rfl)
  · rcases (mk1_set hjl).1 hi with rfl | hi
    · exact .inl (by simp)
    · rcases h.clo i hi with h1 | h1 | h1
      · exact .inl (by simp [h1])
      · exact .inr (.inl h1)
      · exact .inr (.inr fun k hk hok htk => up k (h1 k hk hok htk))
  · by_cases e : k = j
    · subst e; exact (mk1_set hjl).2 (.inl rfl)
    · exact up k (h.part k (by omega) hkn hok htk)
theorem FJ.done {x : Nat} (h : FJ n opn tch S U F x n) : FI n opn tch S U F :=
  ⟨h.len, h.base, h.sound, h.mem, fun i hi => by
    rcases h.clo i hi with h1 | h1 | h1
    · exact .inl h1
    · subst h1; exact .inr fun k hk ho ht => h.part k hk hk ho ht
    · exact .inr h1⟩
/-- How many are not marked. -/
def unm (U : List Bool) : Nat := U.countP fun b => !b
theorem unm_set : ∀ {U : List Bool} {j : Nat}, U[j]? = some false → unm (U.set j true) + 1 = unm U
  | [], j, h => by simp at h
  | b :: U, 0, h => by simp at h; subst h; simp [unm]
  | b :: U, j + 1, h => by
    have ih := unm_set (U := U) (j := j) (by simpa using h)
    unfold unm at ih ⊢
    rw [List.set_cons_succ, List.countP_cons, List.countP_cons]
    omega
theorem unm_le (U : List Bool) : unm U ≤ U.length := List.countP_le_length
/-- The first round. -/
def fU (n : Nat) (s : Nat → Bool) (i : Nat) : List Bool := (List.range n).map fun m => decide (m < i) && s m
def fF (s : Nat → Bool) (i : Nat) : List Nat := (List.range i).filter s
theorem fU_zero (n : Nat) (s : Nat → Bool) : fU n s 0 = List.replicate n false := by
  apply List.ext_getElem (by simp [fU])
  intro i h1 h2
  simp [fU]
theorem fU_len (n : Nat) (s : Nat → Bool) (i : Nat) : (fU n s i).length = n := by simp [fU]
theorem fF_len (s : Nat → Bool) (i : Nat) : (fF s i).length ≤ i := by
  have := List.length_filter_le s (List.range i)
  simpa [fF] using this
theorem fU_yes {n : Nat} {s : Nat → Bool} {i : Nat} (hi : i < n) (hs : s i = true) : (fU n s i).set i true = fU n s (i + 1) := by
  apply List.ext_getElem (by simp [fU])
  intro j h1 h2
  have hj : j < n := by simpa [fU] using h2
  rw [List.getElem_set]
  by_cases e : i = j
  · subst e; simp [fU, hs]
  · rw [if_neg e]
    simp only [fU, List.getElem_map, List.getElem_range]
    have : decide (j < i) = decide (j < i + 1) := by simp; omega
    rw [this]
theorem fU_no {n : Nat} {s : Nat → Bool} {i : Nat} (hs : s i = false) : fU n s i = fU n s (i + 1) := by
  unfold fU
  apply List.map_congr_left
  intro j _
  by_cases e : j = i
  · subst e; simp [hs]
  · have : decide (j < i) = decide (j < i + 1) := by simp; omega
    rw [this]
theorem fF_yes {s : Nat → Bool} {i : Nat} (hs : s i = true) : fF s (i + 1) = fF s i ++ [i] := by simp [fF, List.range_succ, hs]
theorem fF_no {s : Nat → Bool} {i : Nat} (hs : s i = false) : fF s (i + 1) = fF s i := by simp [fF, List.range_succ, hs]
theorem fi_init (n : Nat) (opn : Nat → Bool) (tch : Nat → Nat → Bool) (s : Nat → Bool) : FI n opn tch (fun i => i < n ∧ s i = true) (fU n s n) (fF s n) := by
  have key : ∀ i, mk1 (fU n s n) i ↔ i < n ∧ s i = true := by
    intro i
    by_cases hi : i < n
    · simp [mk1, fU, hi]
    · simp [mk1, fU, hi]
  refine ⟨fU_len _ _ _, fun i hi => (key i).2 hi, fun i hi => .base ((key i).1 hi), fun i hi => ?_, fun i hi => .inl ?_⟩
  · rw [key]
    simp only [fF, List.mem_filter, List.mem_range] at hi
    exact hi
  · have := (key i).1 hi
    simp only [fF, List.mem_filter, List.mem_range]
    exact this
end
/-! The flood of a tree. -/
def colB (c : Cel) : Bool := leafB c && c.v.kind == 2
def opnB (c : Cel) : Bool := leafB c && !(colB c)
def opnT (t : Tr) (i : Nat) : Bool := match t.cells[i]? with
  | some c => opnB c
  | none => false
def tchT (t : Tr) (i j : Nat) : Bool := touchC (boxAt t (i : Int)) (boxAt t (j : Int))
def hasT (t : Tr) (p : List Int) (i : Nat) : Bool := hasC (boxAt t (i : Int)) p
def strT (t : Tr) (p : List Int) (i : Nat) : Prop := i < t.cells.length ∧ (opnT t i && hasT t p i) = true
/-- U: the leaves that are reached. -/
def IsF (t : Tr) (p : List Int) (U : List Bool) : Prop := IsR t.cells.length (opnT t) (tchT t) (strT t p) U
def floodOk (t : Tr) (p : List Int) : Bool := validT t && hasC t.root p
def sepB (t : Tr) (U : List Bool) (q : List Int) : Bool := (List.range t.cells.length).all fun i => !((U[i]?.getD false) && hasT t q i)
def sepOk (t : Tr) (p q : List Int) (U : List Bool) : Bool := validT t && hasC t.root p && hasC t.root q && sepB t U q
theorem isF_ex (t : Tr) (p : List Int) : ∃ U, IsF t p U := isR_ex _ _ _ _
end Go.Ab
