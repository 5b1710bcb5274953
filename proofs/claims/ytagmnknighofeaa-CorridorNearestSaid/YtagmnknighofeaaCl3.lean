/- Data of the laws' types. -/
import Derived.Test.YtagmnknighofeaaCl2
set_option linter.all false
namespace Go.Ab
mutual
def bulk {H : Type} : DataW H → Nat
  | .lit (.string bytes) => bytes.length + 1
  | .lit _ => 1
  | .nil => 1
  | .slice elems spare => bulkL elems + bulkL spare + 1
  | .agg parts => bulkL parts + 1
  | _ => 1
def bulkL {H : Type} : List (DataW H) → Nat
  | [] => 0
  | d :: r => bulk d + bulkL r
end
section
variable {H : Type} {P : Program}
def Fit (P : Program) (t : TypeId) (d : DataW H) : Prop := ∃ n, FitD P n t d
/-- Data of type 't' are the contents 'e a' of the 'a' with 'Q a'. -/
def Reads (H : Type) (P : Program) (t : TypeId) {α : Type} (e : α → PV) (Q : α → Prop) (sz : α → Nat) : Prop := ∀ d : DataW H, Fit P t d → ∃ a, rd1 d = e a ∧ Q a ∧ sz a ≤ bulk d
theorem reads_int {t : TypeId} {k : IntKind} (hu : P.underlying t = some (.int k)) : Reads H P t (fun i => .val (.int k i)) (fun i => k.min ≤ i ∧ i ≤ k.max) (fun _ => 1) := by
  rintro d ⟨n, h⟩
  cases n with
  | zero => exact h.elim
  | succ n =>
    simp only [FitD, hu] at h
    obtain ⟨i, rfl, hw⟩ := h
    simp only [Lit.wf, Bool.and_eq_true, decide_eq_true_eq] at hw
    exact ⟨i, by simp [rd1], hw, by simp [bulk]⟩
theorem reads_bool {t : TypeId} (hu : P.underlying t = some .bool) : Reads H P t (fun b => .val (.bool b)) (fun _ => True) (fun _ => 1) := by
  rintro d ⟨n, h⟩
  cases n with
  | zero => exact h.elim
  | succ n =>
    simp only [FitD, hu] at h
    obtain ⟨i, rfl⟩ := h
    exact ⟨i, by simp [rd1], trivial, by simp [bulk]⟩
theorem reads_string {t : TypeId} (hu : P.underlying t = some .string) : Reads H P t (fun b : ByteArray => .val (.string b)) (fun _ => True) (fun b => b.size + 1) := by
  rintro d ⟨n, h⟩
  cases n with
  | zero => exact h.elim
  | succ n =>
    simp only [FitD, hu] at h
    obtain ⟨s, rfl⟩ := h
    exact ⟨⟨s.toArray⟩, by simp [rd1], trivial, by simp [bulk, ByteArray.size]⟩
theorem reads_slice {t te : TypeId} {α : Type} {e : α → PV} {Q : α → Prop} {sz : α → Nat} (hu : P.underlying t = some (.slice te)) (h : Reads H P te e Q sz) :
    Reads H P t (fun l : List α => .sl (l.map e)) (fun l => l.length ≤ 9223372036854775807 ∧ ∀ a ∈ l, Q a) (fun l => (l.map sz).sum + 1) := by
  rintro d ⟨n, hf⟩
  cases n with
  | zero => exact hf.elim
  | succ n =>
    simp only [FitD, hu] at hf
    rcases hf with rfl | ⟨es, sp, rfl, hlen, hes⟩
    · exact ⟨[], by simp [rd1], by simp, by simp [bulk]⟩
    · have aux : ∀ es : List (DataW H), (∀ x ∈ es, FitD P n te x) → ∃ l : List α, rdE es = l.map e ∧ l.length = es.length ∧ (∀ a ∈ l, Q a) ∧ (l.map sz).sum ≤ bulkL es := by
        intro es
        induction es with
        | nil => intro _; exact ⟨[], by simp [rdE], rfl, by simp, by simp⟩
        | cons x r ih =>
          intro hx
          obtain ⟨l, h1, hl, h2, h3⟩ := ih (fun y hy => hx y (by simp [hy]))
          obtain ⟨a, g1, g2, g3⟩ := h x ⟨n, hx x (by simp)⟩
          refine ⟨a :: l, by simp [rdE, h1, g1], by simp [hl], by simpa using ⟨g2, h2⟩, ?_⟩
          simp only [List.map_cons, List.sum_cons, bulkL]; omega
      obtain ⟨l, h1, hl, h2, h3⟩ := aux es hes
      refine ⟨l, by simp [rd1, h1], ⟨by rw [hl]; exact hlen, h2⟩, ?_⟩
      simp only [bulk]; omega
theorem fit_int {t : TypeId} {k : IntKind} {d : DataW H} (hu : P.underlying t = some (.int k)) (h : Fit P t d) : ∃ i, d = .lit (.int k i) ∧ k.min ≤ i ∧ i ≤ k.max := by
  obtain ⟨n, h⟩ := h
  cases n with
  | zero => exact h.elim
  | succ n =>
    simp only [FitD, hu] at h
    obtain ⟨i, rfl, hw⟩ := h
    simp only [Lit.wf, Bool.and_eq_true, decide_eq_true_eq] at hw
    exact ⟨i, rfl, hw⟩
theorem fit_string {t : TypeId} {d : DataW H} (hu : P.underlying t = some .string) (h : Fit P t d) : ∃ s, d = .lit (.string s) := by
  obtain ⟨n, h⟩ := h
  cases n with
  | zero => exact h.elim
  | succ n =>
    simp only [FitD, hu] at h
    exact h
theorem fit_bool {t : TypeId} {d : DataW H} (hu : P.underlying t = some .bool) (h : Fit P t d) : ∃ b, d = .lit (.bool b) := by
  obtain ⟨n, h⟩ := h
  cases n with
  | zero => exact h.elim
  | succ n =>
    simp only [FitD, hu] at h
    exact h
theorem len3 {α : Type} {l : List α} (h : l.length = 3) : ∃ a b c, l = [a, b, c] := by
  match l, h with
  | [a, b, c], _ => exact ⟨a, b, c, rfl⟩
theorem len2 {α : Type} {l : List α} (h : l.length = 2) : ∃ a b, l = [a, b] := by
  match l, h with
  | [a, b], _ => exact ⟨a, b, rfl⟩
theorem len10 {α : Type} {l : List α} (h : l.length = 10) : ∃ a0 a1 a2 a3 a4 a5 a6 a7 a8 a9, l = [a0, a1, a2, a3, a4, a5, a6, a7, a8, a9] := by
  match l, h with
  | [a0, a1, a2, a3, a4, a5, a6, a7, a8, a9], _ => exact ⟨a0, a1, a2, a3, a4, a5, a6, a7, a8, a9, rfl⟩
theorem fit_vec {t te : TypeId} {d : DataW H} (hu : P.underlying t = some (.array 3 te)) (he : P.underlying te = some (.int .i64)) {d : DataW H} (h : Fit P t d) : ∃ x y z, d = .agg [.lit (.int .i64 x), .lit (.int .i64 y), .lit (.int .i64 z)] := by
  obtain ⟨n, hf⟩ := h
  cases n with
  | zero => exact hf.elim
  | succ n =>
    simp only [FitD, hu] at hf
    obtain ⟨ds, rfl, h1, h2⟩ := hf
    obtain ⟨a, b, c, rfl⟩ := len3 h1
    obtain ⟨x, rfl, _⟩ := fit_int (H := H) he ⟨n, h2 a (by simp)⟩
    obtain ⟨y, rfl, _⟩ := fit_int (H := H) he ⟨n, h2 b (by simp)⟩
    obtain ⟨z, rfl, _⟩ := fit_int (H := H) he ⟨n, h2 c (by simp)⟩
    exact ⟨x, y, z, rfl⟩
/-- The parts of a struct. -/
theorem sum_len {α : Type} (sz : α → Nat) (h : ∀ a, 1 ≤ sz a) : ∀ l : List α, l.length ≤ (l.map sz).sum
  | [] => by simp
  | a :: l => by have := sum_len sz h l; have := h a; simp only [List.map_cons, List.sum_cons, List.length_cons]; omega
theorem sum_mem {α : Type} (sz : α → Nat) {a : α} : ∀ {l : List α}, a ∈ l → sz a ≤ (l.map sz).sum
  | b :: l, h => by
    simp only [List.map_cons, List.sum_cons]
    rcases List.mem_cons.1 h with rfl | h
    · omega
    · have := sum_mem sz h; omega
theorem fit_struct {t : TypeId} {fs : Array Field} {d : DataW H} (hu : P.underlying t = some (.struct fs)) (h : Fit P t d) :
    ∃ ds, d = .agg ds ∧ ds.length = fs.size ∧ ∀ (i : Nat) f x, fs[i]? = some f → ds[i]? = some x → Fit P f.type x := by
  obtain ⟨n, hf⟩ := h
  cases n with
  | zero => exact hf.elim
  | succ n =>
    simp only [FitD, hu] at hf
    obtain ⟨ds, rfl, h1, h2⟩ := hf
    exact ⟨ds, rfl, h1, fun i f x h h' => ⟨n, h2 i f x h h'⟩⟩
theorem fit_array {t te : TypeId} {m : Nat} {d : DataW H} (hu : P.underlying t = some (.array m te)) (h : Fit P t d) :
    ∃ ds, d = .agg ds ∧ ds.length = m ∧ ∀ x ∈ ds, Fit P te x := by
  obtain ⟨n, hf⟩ := h
  cases n with
  | zero => exact hf.elim
  | succ n =>
    simp only [FitD, hu] at hf
    obtain ⟨ds, rfl, h1, h2⟩ := hf
    exact ⟨ds, rfl, h1, fun x h => ⟨n, h2 x h⟩⟩
end
end Go.Ab
