/- Contracts: searching lists. -/
import Derived.Test.YtgamhginhckcpaaCf1
set_option linter.all false
namespace Go.Ab
open Go.Proofs
abbrev zs (xs : List Int) : PV := .sl (xs.map Z)
abbrev iv (xs : List (Int × Int)) : PV := .sl (xs.map encI)
abbrev Fv (f : FuncId) : PV := .val (.func (.func f) #[] #[])
theorem big {n : Nat} (h : n ≤ 16777216) : n ≤ 9223372036854775807 := by omega
theorem wr_succ {i n : Nat} (h : i < n) (hn : n ≤ 9223372036854775807) : IntKind.i64.wrap ((i : Int) + 1) = (i : Int) + 1 := by rw [IntKind.wrap_i64]; omega
def idxB {α : Type} (p : α → Bool) (xs : List α) : Int := match xs.findIdx? p with
  | some i => i
  | none => -1
theorem idxB_found {α : Type} {p : α → Bool} {xs : List α} {i : Nat} (hlt : i < xs.length) (hq : ∀ j x, j < i → xs[j]? = some x → p x = false) (hp : p xs[i] = true) : idxB p xs = i := by
  have : xs.findIdx? p = some i := by
    rw [List.findIdx?_eq_some_iff_getElem]
    refine ⟨hlt, hp, fun j hj => ?_⟩
    have hjl : j < xs.length := by omega
    rw [hq j xs[j] hj (List.getElem?_eq_getElem hjl)]; simp
  simp [idxB, this]
theorem idxB_none {α : Type} {p : α → Bool} {xs : List α} (hq : ∀ (j : Nat) x, xs[j]? = some x → p x = false) : idxB p xs = -1 := by
  have : xs.findIdx? p = none := by
    rw [List.findIdx?_eq_none_iff]
    intro x hx
    obtain ⟨j, hj, rfl⟩ := List.mem_iff_getElem.1 hx
    exact hq j _ (List.getElem?_eq_getElem hj)
  simp [idxB, this]
theorem idxB_any {α : Type} (p : α → Bool) (xs : List α) : decide (0 ≤ idxB p xs) = xs.any p := by
  unfold idxB
  cases h : xs.findIdx? p with
  | none =>
    rw [List.findIdx?_eq_none_iff] at h
    have : xs.any p = false := by
      rw [List.any_eq_false]; intro x hx; rw [h x hx]; simp
    simp [this]
  | some i =>
    rw [List.findIdx?_eq_some_iff_getElem] at h
    obtain ⟨hl, hp, _⟩ := h
    have : xs.any p = true := List.any_eq_true.2 ⟨xs[i], List.getElem_mem hl, hp⟩
    simp [this]
theorem prev_step {α : Type} {p : α → Bool} {xs : List α} {i : Nat} (hlt : i < xs.length) (hq : ∀ j x, j < i → xs[j]? = some x → p x = false) (hp : p xs[i] = false) : ∀ j x, j < i + 1 → xs[j]? = some x → p x = false := by
  intro j x hj hx
  by_cases e : j = i
  · subst e; rw [List.getElem?_eq_getElem hlt] at hx; injection hx with hx; subst hx; exact hp
  · exact hq j x (by omega) hx
theorem prev_all {α : Type} {p : α → Bool} {xs : List α} {i : Nat} (hlt : ¬ i < xs.length) (hq : ∀ j x, j < i → xs[j]? = some x → p x = false) : ∀ (j : Nat) x, xs[j]? = some x → p x = false := by
  intro j x hx
  have := (List.getElem?_eq_some_iff.1 hx).1
  exact hq j x (by omega) hx


theorem d119 (f : FuncId) (p : Int × Int → Bool) (xs : List (Int × Int)) (hl : xs.length ≤ 9223372036854775807) (hf : ∀ x, DetH Try.prog f [.pv (encI x)] [] [] (.pv (B (p x)))) : DetH Try.prog 119 [.pv (iv xs), .pv (Fv f)] [] [] (.pv (Z (idxB p xs))) := by
  refine detP_of Try.func119 rfl (by kernel_rfl) (by simp [Try.f119]) rfl ?_
  intro C hP hN
  simp only [Try.f119] at hN ⊢
  repeat' (first
    | with_reducible refine WP.seq ?_
    | (with_reducible refine WP.region (hn := []) ?_; simp [hP, hN])
    | (with_reducible refine WP.draw (hn := []) (by rw [hP]; kernel_rfl) (by kernel_rfl) ?_; simp [hP, hN]; (try refine ⟨by kernel_rfl, ?_⟩))
    | (with_reducible refine xB_split (by simp) (fun hgd => ?_) (fun hgd => ?_) <;> first | (exfalso; simp at hgd; done) | (exfalso; simp at hgd; omega) | simp [hP, hN])
    | (with_reducible refine yB_split (by simp) (fun hgd => ?_) (fun hgd => ?_) <;> first | (exfalso; simp at hgd; done) | (exfalso; simp at hgd; omega) | (simp [hP, hN] <;> (try refine ⟨by kernel_rfl, ?_⟩)))
    | with_reducible refine xTwo_intro ?_ ?_
    | (with_reducible refine WP.cond' ?_; simp [hP, hN])
    | (with_reducible refine xCond_split (fun hcd => ?_) (fun hcd => ?_) <;> (try (exfalso; clear hP hN; simp_all; done)) <;> (try (exfalso; simp at *; omega)))
    | with_reducible refine WP.block ?_
    | (with_reducible refine WP.skip ?_; simp)
    | (with_reducible refine WP.exit ?_; simp)
    | (with_reducible refine WP.ret ?_; simp))
  refine WP.loopN [] xs.length (fun i st => st.t 0 = .pv (iv xs) ∧ st.t 1 = .pv (Fv f) ∧ st.t 7 = .pv (Z xs.length) ∧ st.t 8 = .pv (Z i) ∧ ∀ j x, j < i → xs[j]? = some x → p x = false) (by simp) ?_
  rintro i st hi ⟨h0, h1, h7, h8, hq⟩
  by_cases hlt : i < xs.length
  · have hw := wr_succ hlt hl
    repeat' (first
      | with_reducible refine WP.seq ?_
      | (with_reducible refine WP.region (hn := []) ?_; simp [hP, hN, h0, h1, h7, h8, hlt, hw])
      | (with_reducible refine WP.draw (hn := []) (by rw [hP]; kernel_rfl) (by kernel_rfl) ?_; simp [hP, hN, h0, h1, h7, h8, hlt, hw]; (try refine ⟨by kernel_rfl, ?_⟩))
      | (with_reducible refine xB_split (by simp [h0, h1, h7, h8, hlt, hw]) (fun hgd => ?_) (fun hgd => ?_) <;> first | (exfalso; simp at hgd; done) | (exfalso; simp at hgd; omega) | simp [hP, hN, h0, h1, h7, h8, hlt, hw])
      | (with_reducible refine yB_split (by simp [h0, h1, h7, h8, hlt, hw]) (fun hgd => ?_) (fun hgd => ?_) <;> first | (exfalso; simp at hgd; done) | (exfalso; simp at hgd; omega) | (simp [hP, hN, h0, h1, h7, h8, hlt, hw] <;> (try refine ⟨by kernel_rfl, ?_⟩)))
      | (with_reducible refine xC_intro (hf _) ?_; simp [hP, hN, h0, h1, h7, h8, hlt, hw])
      | (with_reducible refine yC_intro (hf _) ?_; simp [hP, hN, h0, h1, h7, h8, hlt, hw]; (try refine ⟨by kernel_rfl, ?_⟩))
      | with_reducible refine xTwo_intro ?_ ?_
      | (with_reducible refine WP.cond' ?_; simp [hP, hN, h0, h1, h7, h8, hlt, hw])
      | (with_reducible refine xCond_split (fun hcd => ?_) (fun hcd => ?_) <;> (try (exfalso; clear hP hN; simp_all; done)) <;> (try (exfalso; simp at *; omega)))
      | with_reducible refine WP.block ?_
      | (with_reducible refine WP.skip ?_; simp [h0, h1, h7, h8, hlt, hw])
      | (with_reducible refine WP.exit ?_; simp [h0, h1, h7, h8, hlt, hw])
      | (with_reducible refine WP.ret ?_; simp [h0, h1, h7, h8, hlt, hw]))
    · exact (idxB_found hlt hq hcd).symm
    · simpa using prev_step hlt hq hcd
  · skip
    repeat' (first
      | with_reducible refine WP.seq ?_
      | (with_reducible refine WP.region (hn := []) ?_; simp [hP, hN, h0, h1, h7, h8, hlt])
      | (with_reducible refine WP.draw (hn := []) (by rw [hP]; kernel_rfl) (by kernel_rfl) ?_; simp [hP, hN, h0, h1, h7, h8, hlt]; (try refine ⟨by kernel_rfl, ?_⟩))
      | (with_reducible refine xB_split (by simp [h0, h1, h7, h8, hlt]) (fun hgd => ?_) (fun hgd => ?_) <;> first | (exfalso; simp at hgd; done) | (exfalso; simp at hgd; omega) | simp [hP, hN, h0, h1, h7, h8, hlt])
      | (with_reducible refine yB_split (by simp [h0, h1, h7, h8, hlt]) (fun hgd => ?_) (fun hgd => ?_) <;> first | (exfalso; simp at hgd; done) | (exfalso; simp at hgd; omega) | (simp [hP, hN, h0, h1, h7, h8, hlt] <;> (try refine ⟨by kernel_rfl, ?_⟩)))
      | with_reducible refine xTwo_intro ?_ ?_
      | (with_reducible refine WP.cond' ?_; simp [hP, hN, h0, h1, h7, h8, hlt])
      | (with_reducible refine xCond_split (fun hcd => ?_) (fun hcd => ?_) <;> (try (exfalso; clear hP hN; simp_all; done)) <;> (try (exfalso; simp at *; omega)))
      | with_reducible refine WP.block ?_
      | (with_reducible refine WP.skip ?_; simp [h0, h1, h7, h8, hlt])
      | (with_reducible refine WP.exit ?_; simp [h0, h1, h7, h8, hlt])
      | (with_reducible refine WP.ret ?_; simp [h0, h1, h7, h8, hlt]))
    exact (idxB_none (prev_all hlt hq)).symm


theorem d120 (f : FuncId) (p : Int → Bool) (xs : List (Int)) (hl : xs.length ≤ 9223372036854775807) (hf : ∀ x, DetH Try.prog f [.pv (Z x)] [] [] (.pv (B (p x)))) : DetH Try.prog 120 [.pv (zs xs), .pv (Fv f)] [] [] (.pv (Z (idxB p xs))) := by
  refine detP_of Try.func120 rfl (by kernel_rfl) (by simp [Try.f120]) rfl ?_
  intro C hP hN
  simp only [Try.f120] at hN ⊢
  repeat' (first
    | with_reducible refine WP.seq ?_
    | (with_reducible refine WP.region (hn := []) ?_; simp [hP, hN])
    | (with_reducible refine WP.draw (hn := []) (by rw [hP]; kernel_rfl) (by kernel_rfl) ?_; simp [hP, hN]; (try refine ⟨by kernel_rfl, ?_⟩))
    | (with_reducible refine xB_split (by simp) (fun hgd => ?_) (fun hgd => ?_) <;> first | (exfalso; simp at hgd; done) | (exfalso; simp at hgd; omega) | simp [hP, hN])
    | (with_reducible refine yB_split (by simp) (fun hgd => ?_) (fun hgd => ?_) <;> first | (exfalso; simp at hgd; done) | (exfalso; simp at hgd; omega) | (simp [hP, hN] <;> (try refine ⟨by kernel_rfl, ?_⟩)))
    | with_reducible refine xTwo_intro ?_ ?_
    | (with_reducible refine WP.cond' ?_; simp [hP, hN])
    | (with_reducible refine xCond_split (fun hcd => ?_) (fun hcd => ?_) <;> (try (exfalso; clear hP hN; simp_all; done)) <;> (try (exfalso; simp at *; omega)))
    | with_reducible refine WP.block ?_
    | (with_reducible refine WP.skip ?_; simp)
    | (with_reducible refine WP.exit ?_; simp)
    | (with_reducible refine WP.ret ?_; simp))
  refine WP.loopN [] xs.length (fun i st => st.t 0 = .pv (zs xs) ∧ st.t 1 = .pv (Fv f) ∧ st.t 7 = .pv (Z xs.length) ∧ st.t 8 = .pv (Z i) ∧ ∀ j x, j < i → xs[j]? = some x → p x = false) (by simp) ?_
  rintro i st hi ⟨h0, h1, h7, h8, hq⟩
  by_cases hlt : i < xs.length
  · have hw := wr_succ hlt hl
    repeat' (first
      | with_reducible refine WP.seq ?_
      | (with_reducible refine WP.region (hn := []) ?_; simp [hP, hN, h0, h1, h7, h8, hlt, hw])
      | (with_reducible refine WP.draw (hn := []) (by rw [hP]; kernel_rfl) (by kernel_rfl) ?_; simp [hP, hN, h0, h1, h7, h8, hlt, hw]; (try refine ⟨by kernel_rfl, ?_⟩))
      | (with_reducible refine xB_split (by simp [h0, h1, h7, h8, hlt, hw]) (fun hgd => ?_) (fun hgd => ?_) <;> first | (exfalso; simp at hgd; done) | (exfalso; simp at hgd; omega) | simp [hP, hN, h0, h1, h7, h8, hlt, hw])
      | (with_reducible refine yB_split (by simp [h0, h1, h7, h8, hlt, hw]) (fun hgd => ?_) (fun hgd => ?_) <;> first | (exfalso; simp at hgd; done) | (exfalso; simp at hgd; omega) | (simp [hP, hN, h0, h1, h7, h8, hlt, hw] <;> (try refine ⟨by kernel_rfl, ?_⟩)))
      | (with_reducible refine xC_intro (hf _) ?_; simp [hP, hN, h0, h1, h7, h8, hlt, hw])
      | (with_reducible refine yC_intro (hf _) ?_; simp [hP, hN, h0, h1, h7, h8, hlt, hw]; (try refine ⟨by kernel_rfl, ?_⟩))
      | with_reducible refine xTwo_intro ?_ ?_
      | (with_reducible refine WP.cond' ?_; simp [hP, hN, h0, h1, h7, h8, hlt, hw])
      | (with_reducible refine xCond_split (fun hcd => ?_) (fun hcd => ?_) <;> (try (exfalso; clear hP hN; simp_all; done)) <;> (try (exfalso; simp at *; omega)))
      | with_reducible refine WP.block ?_
      | (with_reducible refine WP.skip ?_; simp [h0, h1, h7, h8, hlt, hw])
      | (with_reducible refine WP.exit ?_; simp [h0, h1, h7, h8, hlt, hw])
      | (with_reducible refine WP.ret ?_; simp [h0, h1, h7, h8, hlt, hw]))
    · exact (idxB_found hlt hq hcd).symm
    · simpa using prev_step hlt hq hcd
  · skip
    repeat' (first
      | with_reducible refine WP.seq ?_
      | (with_reducible refine WP.region (hn := []) ?_; simp [hP, hN, h0, h1, h7, h8, hlt])
      | (with_reducible refine WP.draw (hn := []) (by rw [hP]; kernel_rfl) (by kernel_rfl) ?_; simp [hP, hN, h0, h1, h7, h8, hlt]; (try refine ⟨by kernel_rfl, ?_⟩))
      | (with_reducible refine xB_split (by simp [h0, h1, h7, h8, hlt]) (fun hgd => ?_) (fun hgd => ?_) <;> first | (exfalso; simp at hgd; done) | (exfalso; simp at hgd; omega) | simp [hP, hN, h0, h1, h7, h8, hlt])
      | (with_reducible refine yB_split (by simp [h0, h1, h7, h8, hlt]) (fun hgd => ?_) (fun hgd => ?_) <;> first | (exfalso; simp at hgd; done) | (exfalso; simp at hgd; omega) | (simp [hP, hN, h0, h1, h7, h8, hlt] <;> (try refine ⟨by kernel_rfl, ?_⟩)))
      | with_reducible refine xTwo_intro ?_ ?_
      | (with_reducible refine WP.cond' ?_; simp [hP, hN, h0, h1, h7, h8, hlt])
      | (with_reducible refine xCond_split (fun hcd => ?_) (fun hcd => ?_) <;> (try (exfalso; clear hP hN; simp_all; done)) <;> (try (exfalso; simp at *; omega)))
      | with_reducible refine WP.block ?_
      | (with_reducible refine WP.skip ?_; simp [h0, h1, h7, h8, hlt])
      | (with_reducible refine WP.exit ?_; simp [h0, h1, h7, h8, hlt])
      | (with_reducible refine WP.ret ?_; simp [h0, h1, h7, h8, hlt]))
    exact (idxB_none (prev_all hlt hq)).symm


theorem d93 (f : FuncId) (p : Int × Int → Bool) (xs : List (Int × Int)) (hl : xs.length ≤ 9223372036854775807) (hf : ∀ x, DetH Try.prog f [.pv (encI x)] [] [] (.pv (B (p x)))) : DetH Try.prog 93 [.pv (iv xs), .pv (Fv f)] [] [] (.pv (B (xs.any p))) := by
  refine detP_of Try.func93 rfl (by kernel_rfl) (by simp [Try.f93]) rfl ?_
  intro C hP hN
  simp only [Try.f93] at hN ⊢
  repeat' (first
    | with_reducible refine WP.seq ?_
    | (with_reducible refine WP.region (hn := []) ?_; simp [hP, hN])
    | (with_reducible refine WP.draw (hn := []) (by rw [hP]; kernel_rfl) (by kernel_rfl) ?_; simp [hP, hN]; (try refine ⟨by kernel_rfl, ?_⟩))
    | (with_reducible refine xB_split (by simp) (fun hgd => ?_) (fun hgd => ?_) <;> first | (exfalso; simp at hgd; done) | (exfalso; simp at hgd; omega) | simp [hP, hN])
    | (with_reducible refine yB_split (by simp) (fun hgd => ?_) (fun hgd => ?_) <;> first | (exfalso; simp at hgd; done) | (exfalso; simp at hgd; omega) | (simp [hP, hN] <;> (try refine ⟨by kernel_rfl, ?_⟩)))
    | (with_reducible refine xC_intro (d119 _ _ _ hl hf) ?_; simp [hP, hN])
    | (with_reducible refine yC_intro (d119 _ _ _ hl hf) ?_; simp [hP, hN]; (try refine ⟨by kernel_rfl, ?_⟩))
    | with_reducible refine xTwo_intro ?_ ?_
    | (with_reducible refine WP.cond' ?_; simp [hP, hN])
    | (with_reducible refine xCond_split (fun hcd => ?_) (fun hcd => ?_) <;> (try (exfalso; clear hP hN; simp_all; done)) <;> (try (exfalso; simp at *; omega)))
    | with_reducible refine WP.block ?_
    | (with_reducible refine WP.skip ?_; simp)
    | (with_reducible refine WP.exit ?_; simp)
    | (with_reducible refine WP.ret ?_; simp))
  all_goals (first | (simp_all [idxB_any]; done) | ((try simp_all [idxB_any]) <;> (try omega) <;> grind))


theorem d98 (f : FuncId) (p : Int → Bool) (xs : List (Int)) (hl : xs.length ≤ 9223372036854775807) (hf : ∀ x, DetH Try.prog f [.pv (Z x)] [] [] (.pv (B (p x)))) : DetH Try.prog 98 [.pv (zs xs), .pv (Fv f)] [] [] (.pv (B (xs.any p))) := by
  refine detP_of Try.func98 rfl (by kernel_rfl) (by simp [Try.f98]) rfl ?_
  intro C hP hN
  simp only [Try.f98] at hN ⊢
  repeat' (first
    | with_reducible refine WP.seq ?_
    | (with_reducible refine WP.region (hn := []) ?_; simp [hP, hN])
    | (with_reducible refine WP.draw (hn := []) (by rw [hP]; kernel_rfl) (by kernel_rfl) ?_; simp [hP, hN]; (try refine ⟨by kernel_rfl, ?_⟩))
    | (with_reducible refine xB_split (by simp) (fun hgd => ?_) (fun hgd => ?_) <;> first | (exfalso; simp at hgd; done) | (exfalso; simp at hgd; omega) | simp [hP, hN])
    | (with_reducible refine yB_split (by simp) (fun hgd => ?_) (fun hgd => ?_) <;> first | (exfalso; simp at hgd; done) | (exfalso; simp at hgd; omega) | (simp [hP, hN] <;> (try refine ⟨by kernel_rfl, ?_⟩)))
    | (with_reducible refine xC_intro (d120 _ _ _ hl hf) ?_; simp [hP, hN])
    | (with_reducible refine yC_intro (d120 _ _ _ hl hf) ?_; simp [hP, hN]; (try refine ⟨by kernel_rfl, ?_⟩))
    | with_reducible refine xTwo_intro ?_ ?_
    | (with_reducible refine WP.cond' ?_; simp [hP, hN])
    | (with_reducible refine xCond_split (fun hcd => ?_) (fun hcd => ?_) <;> (try (exfalso; clear hP hN; simp_all; done)) <;> (try (exfalso; simp at *; omega)))
    | with_reducible refine WP.block ?_
    | (with_reducible refine WP.skip ?_; simp)
    | (with_reducible refine WP.exit ?_; simp)
    | (with_reducible refine WP.ret ?_; simp))
  all_goals (first | (simp_all [idxB_any]; done) | ((try simp_all [idxB_any]) <;> (try omega) <;> grind))


def allB {α : Type} (p : α → Bool) (xs : List α) : Bool := xs.all p
theorem any_not {α : Type} (p : α → Bool) (xs : List α) : (xs.any fun x => !p x) = !allB p xs := by simp [allB, List.any_eq_not_all_not]
abbrev vI (x : Int × Int) : Bool := validB x.1 x.2
theorem d94 (x : Int × Int) : DetH Try.prog 94 [.pv (encI x)] [] [] (.pv (B (!validB x.1 x.2))) := by
  refine detP_of Try.func94 rfl (by kernel_rfl) (by simp [Try.f94]) rfl ?_
  intro C hP hN
  simp only [Try.f94] at hN ⊢
  repeat' (first
    | with_reducible refine WP.seq ?_
    | (with_reducible refine WP.region (hn := []) ?_; simp [hP, hN])
    | (with_reducible refine WP.draw (hn := []) (by rw [hP]; kernel_rfl) (by kernel_rfl) ?_; simp [hP, hN]; (try refine ⟨by kernel_rfl, ?_⟩))
    | (with_reducible refine xB_split (by simp) (fun hgd => ?_) (fun hgd => ?_) <;> first | (exfalso; simp at hgd; done) | (exfalso; simp at hgd; omega) | simp [hP, hN])
    | (with_reducible refine yB_split (by simp) (fun hgd => ?_) (fun hgd => ?_) <;> first | (exfalso; simp at hgd; done) | (exfalso; simp at hgd; omega) | (simp [hP, hN] <;> (try refine ⟨by kernel_rfl, ?_⟩)))
    | (with_reducible refine xC_intro (d95 _ _) ?_; simp [hP, hN])
    | (with_reducible refine yC_intro (d95 _ _) ?_; simp [hP, hN]; (try refine ⟨by kernel_rfl, ?_⟩))
    | with_reducible refine xTwo_intro ?_ ?_
    | (with_reducible refine WP.cond' ?_; simp [hP, hN])
    | (with_reducible refine xCond_split (fun hcd => ?_) (fun hcd => ?_) <;> (try (exfalso; clear hP hN; simp_all; done)) <;> (try (exfalso; simp at *; omega)))
    | with_reducible refine WP.block ?_
    | (with_reducible refine WP.skip ?_; simp)
    | (with_reducible refine WP.exit ?_; simp)
    | (with_reducible refine WP.ret ?_; simp))
  all_goals (first | (simp_all; done) | ((try simp_all) <;> (try omega) <;> grind))
theorem d56 (xs : List (Int × Int)) (hl : xs.length ≤ 9223372036854775807) : DetH Try.prog 56 [.pv (iv xs)] [] [] (.pv (B (allB vI xs))) := by
  refine detP_of Try.func56 rfl (by kernel_rfl) (by simp [Try.f56]) rfl ?_
  intro C hP hN
  simp only [Try.f56] at hN ⊢
  repeat' (first
    | with_reducible refine WP.seq ?_
    | (with_reducible refine WP.region (hn := []) ?_; simp [hP, hN, any_not vI xs])
    | (with_reducible refine WP.draw (hn := []) (by rw [hP]; kernel_rfl) (by kernel_rfl) ?_; simp [hP, hN, any_not vI xs]; (try refine ⟨by kernel_rfl, ?_⟩))
    | (with_reducible refine xB_split (by simp [any_not vI xs]) (fun hgd => ?_) (fun hgd => ?_) <;> first | (exfalso; simp at hgd; done) | (exfalso; simp at hgd; omega) | simp [hP, hN, any_not vI xs])
    | (with_reducible refine yB_split (by simp [any_not vI xs]) (fun hgd => ?_) (fun hgd => ?_) <;> first | (exfalso; simp at hgd; done) | (exfalso; simp at hgd; omega) | (simp [hP, hN, any_not vI xs] <;> (try refine ⟨by kernel_rfl, ?_⟩)))
    | (with_reducible refine xC_intro (d93 _ _ _ hl d94) ?_; simp [hP, hN, any_not vI xs])
    | (with_reducible refine yC_intro (d93 _ _ _ hl d94) ?_; simp [hP, hN, any_not vI xs]; (try refine ⟨by kernel_rfl, ?_⟩))
    | with_reducible refine xTwo_intro ?_ ?_
    | (with_reducible refine WP.cond' ?_; simp [hP, hN, any_not vI xs])
    | (with_reducible refine xCond_split (fun hcd => ?_) (fun hcd => ?_) <;> (try (exfalso; clear hP hN; simp_all; done)) <;> (try (exfalso; simp at *; omega)))
    | with_reducible refine WP.block ?_
    | (with_reducible refine WP.skip ?_; simp [any_not vI xs])
    | (with_reducible refine WP.exit ?_; simp [any_not vI xs])
    | (with_reducible refine WP.ret ?_; simp [any_not vI xs]))
  all_goals (first | (simp_all; done) | ((try simp_all) <;> (try omega) <;> grind))
def smallB (x : Int) : Bool := decide (-2147483648 ≤ x) && decide (x ≤ 2147483648)
theorem d99 (x : Int) : DetH Try.prog 99 [.pv (Z x)] [] [] (.pv (B (!smallB x))) := by
  refine detP_of Try.func99 rfl (by kernel_rfl) (by simp [Try.f99]) rfl ?_
  intro C hP hN
  simp only [Try.f99] at hN ⊢
  repeat' (first
    | with_reducible refine WP.seq ?_
    | (with_reducible refine WP.region (hn := []) ?_; simp [hP, hN])
    | (with_reducible refine WP.draw (hn := []) (by rw [hP]; kernel_rfl) (by kernel_rfl) ?_; simp [hP, hN]; (try refine ⟨by kernel_rfl, ?_⟩))
    | (with_reducible refine xB_split (by simp) (fun hgd => ?_) (fun hgd => ?_) <;> first | (exfalso; simp at hgd; done) | (exfalso; simp at hgd; omega) | simp [hP, hN])
    | (with_reducible refine yB_split (by simp) (fun hgd => ?_) (fun hgd => ?_) <;> first | (exfalso; simp at hgd; done) | (exfalso; simp at hgd; omega) | (simp [hP, hN] <;> (try refine ⟨by kernel_rfl, ?_⟩)))
    | with_reducible refine xTwo_intro ?_ ?_
    | (with_reducible refine WP.cond' ?_; simp [hP, hN])
    | (with_reducible refine xCond_split (fun hcd => ?_) (fun hcd => ?_) <;> (try (exfalso; clear hP hN; simp_all; done)) <;> (try (exfalso; simp at *; omega)))
    | with_reducible refine WP.block ?_
    | (with_reducible refine WP.skip ?_; simp)
    | (with_reducible refine WP.exit ?_; simp)
    | (with_reducible refine WP.ret ?_; simp))
  all_goals (first | (simp_all [smallB]; done) | ((try simp_all [smallB]) <;> (try omega) <;> grind))
theorem d71 (xs : List Int) (hl : xs.length ≤ 9223372036854775807) : DetH Try.prog 71 [.pv (zs xs)] [] [] (.pv (B (allB smallB xs))) := by
  refine detP_of Try.func71 rfl (by kernel_rfl) (by simp [Try.f71]) rfl ?_
  intro C hP hN
  simp only [Try.f71] at hN ⊢
  repeat' (first
    | with_reducible refine WP.seq ?_
    | (with_reducible refine WP.region (hn := []) ?_; simp [hP, hN, any_not smallB xs])
    | (with_reducible refine WP.draw (hn := []) (by rw [hP]; kernel_rfl) (by kernel_rfl) ?_; simp [hP, hN, any_not smallB xs]; (try refine ⟨by kernel_rfl, ?_⟩))
    | (with_reducible refine xB_split (by simp [any_not smallB xs]) (fun hgd => ?_) (fun hgd => ?_) <;> first | (exfalso; simp at hgd; done) | (exfalso; simp at hgd; omega) | simp [hP, hN, any_not smallB xs])
    | (with_reducible refine yB_split (by simp [any_not smallB xs]) (fun hgd => ?_) (fun hgd => ?_) <;> first | (exfalso; simp at hgd; done) | (exfalso; simp at hgd; omega) | (simp [hP, hN, any_not smallB xs] <;> (try refine ⟨by kernel_rfl, ?_⟩)))
    | (with_reducible refine xC_intro (d98 _ _ _ hl d99) ?_; simp [hP, hN, any_not smallB xs])
    | (with_reducible refine yC_intro (d98 _ _ _ hl d99) ?_; simp [hP, hN, any_not smallB xs]; (try refine ⟨by kernel_rfl, ?_⟩))
    | with_reducible refine xTwo_intro ?_ ?_
    | (with_reducible refine WP.cond' ?_; simp [hP, hN, any_not smallB xs])
    | (with_reducible refine xCond_split (fun hcd => ?_) (fun hcd => ?_) <;> (try (exfalso; clear hP hN; simp_all; done)) <;> (try (exfalso; simp at *; omega)))
    | with_reducible refine WP.block ?_
    | (with_reducible refine WP.skip ?_; simp [any_not smallB xs])
    | (with_reducible refine WP.exit ?_; simp [any_not smallB xs])
    | (with_reducible refine WP.ret ?_; simp [any_not smallB xs]))
  all_goals (first | (simp_all; done) | ((try simp_all) <;> (try omega) <;> grind))
def motionB (xs ys : List Int) (d : Int) : Bool := decide (xs.length = ys.length) && allB smallB xs && allB smallB ys && decide (0 ≤ d) && decide (d ≤ 20)
theorem d40 (xs ys : List Int) (d : Int) (hl : xs.length ≤ 9223372036854775807) (hm : ys.length ≤ 9223372036854775807) : DetH Try.prog 40 [.pv (zs xs), .pv (zs ys), .pv (Z d)] [] [] (.pv (B (motionB xs ys d))) := by
  refine detP_of Try.func40 rfl (by kernel_rfl) (by simp [Try.f40]) rfl ?_
  intro C hP hN
  simp only [Try.f40] at hN ⊢
  repeat' (first
    | with_reducible refine WP.seq ?_
    | (with_reducible refine WP.region (hn := []) ?_; simp [hP, hN])
    | (with_reducible refine WP.draw (hn := []) (by rw [hP]; kernel_rfl) (by kernel_rfl) ?_; simp [hP, hN]; (try refine ⟨by kernel_rfl, ?_⟩))
    | (with_reducible refine xB_split (by simp) (fun hgd => ?_) (fun hgd => ?_) <;> first | (exfalso; simp at hgd; done) | (exfalso; simp at hgd; omega) | simp [hP, hN])
    | (with_reducible refine yB_split (by simp) (fun hgd => ?_) (fun hgd => ?_) <;> first | (exfalso; simp at hgd; done) | (exfalso; simp at hgd; omega) | (simp [hP, hN] <;> (try refine ⟨by kernel_rfl, ?_⟩)))
    | (with_reducible refine xC_intro (d71 _ hl) ?_; simp [hP, hN])
    | (with_reducible refine yC_intro (d71 _ hl) ?_; simp [hP, hN]; (try refine ⟨by kernel_rfl, ?_⟩))
    | (with_reducible refine xC_intro (d71 _ hm) ?_; simp [hP, hN])
    | (with_reducible refine yC_intro (d71 _ hm) ?_; simp [hP, hN]; (try refine ⟨by kernel_rfl, ?_⟩))
    | with_reducible refine xTwo_intro ?_ ?_
    | (with_reducible refine WP.cond' ?_; simp [hP, hN])
    | (with_reducible refine xCond_split (fun hcd => ?_) (fun hcd => ?_) <;> (try (exfalso; clear hP hN; simp_all; done)) <;> (try (exfalso; simp at *; omega)))
    | with_reducible refine WP.block ?_
    | (with_reducible refine WP.skip ?_; simp)
    | (with_reducible refine WP.exit ?_; simp)
    | (with_reducible refine WP.ret ?_; simp))
  all_goals (first | (simp_all [motionB]; done) | ((try simp_all [motionB]) <;> (try omega) <;> grind))
theorem motionB_true {xs ys : List Int} {d : Int} (h : motionB xs ys d = true) : xs.length = ys.length ∧ allB smallB xs = true ∧ allB smallB ys = true ∧ 0 ≤ d ∧ d ≤ 20 := by
  simp only [motionB, Bool.and_eq_true, decide_eq_true_eq] at h
  exact ⟨h.1.1.1.1, h.1.1.1.2, h.1.1.2, h.1.2, h.2⟩
theorem wr_shl {d : Int} (h0 : 0 ≤ d) (hd : d ≤ 20) : IntKind.i64.wrap (2 ^ d.toNat) = 2 ^ d.toNat := by
  have : ∀ n : Nat, n ≤ 20 → IntKind.i64.wrap (2 ^ n) = 2 ^ n := by decide
  exact this d.toNat (by omega)
end Go.Ab
