/- Contracts: searching lists. -/
import Derived.Test.YtagmnknighofeaaCf1
set_option linter.all false
namespace Go.Ab
open Go.Proofs
abbrev zs (xs : List Int) : PV := .sl (xs.map Z)
abbrev iv (xs : List (Int × Int)) : PV := .sl (xs.map encI)
abbrev Fv (f : FuncId) : PV := .val (.func (.func f) #[] #[])
theorem big {n : Nat} (h : n ≤ 16777216) : n ≤ 9223372036854775807 := by omega
theorem wr_succ {i n : Nat} (h : i < n) (hn : n ≤ 9223372036854775807) : IntKind.i64.wrap ((i : Int) + 1) = (i : Int) + 1 := by rw [IntKind.wrap_i64]; omega
def idxB {α : Type} (p : α → Bool) (xs : List α) : Int := match xs.findIdx? p with
  | some i => i
  | none => -1
theorem idxB_found {α : Type} {p : α → Bool} {xs : List α} {i : Nat} (hlt : i < xs.length) (hq : ∀ j x, j < i → xs[j]? = some x → p x = false) (hp : p xs[i] = true) : idxB p xs = i := by
  have : xs.findIdx? p = some i := by
    rw [List.findIdx?_eq_some_iff_getElem]
    refine ⟨hlt, hp, fun j hj => ?_⟩
    have hjl : j < xs.length := by omega
    rw [hq j xs[j] hj (List.getElem?_eq_getElem hjl)]; simp
  simp [idxB, this]
theorem idxB_none {α : Type} {p : α → Bool} {xs : List α} (hq : ∀ (j : Nat) x, xs[j]? = some x → p x = false) : idxB p xs = -1 := by
  have : xs.findIdx? p = none := by
    rw [List.findIdx?_eq_none_iff]
    intro x hx
    obtain ⟨j, hj, rfl⟩ := List.mem_iff_getElem.1 hx
    exact hq j _ (List.getElem?_eq_getElem hj)
  simp [idxB, this]
theorem idxB_any {α : Type} (p : α → Bool) (xs : List α) : decide (0 ≤ idxB p xs) = xs.any p := by
  unfold idxB
  cases h : xs.findIdx? p with
  | none =>
    rw [List.findIdx?_eq_none_iff] at h
    have : xs.any p = false := by
      rw [List.any_eq_false]; intro x hx; rw [h x hx]; simp
    simp [this]
  | some i =>
    rw [List.findIdx?_eq_some_iff_getElem] at h
    obtain ⟨hl, hp, _⟩ := h
    have : xs.any p = true := List.any_eq_true.2 ⟨xs[i], List.getElem_mem hl, hp⟩
    simp [this]
theorem prev_step {α : Type} {p : α → Bool} {xs : List α} {i : Nat} (hlt : i < xs.length) (hq : ∀ j x, j < i → xs[j]? = some x → p x = false) (hp : p xs[i] = false) : ∀ j x, j < i + 1 → xs[j]? = some x → p x = false := by
  intro j x hj hx
  by_cases e : j = i
  · subst e; rw [List.getElem?_eq_getElem hlt] at hx; injection hx with hx; subst hx; exact hp
  · exact hq j x (by omega) hx
theorem prev_all {α : Type} {p : α → Bool} {xs : List α} {i : Nat} (hlt : ¬ i < xs.length) (hq : ∀ j x, j < i → xs[j]? = some x → p x = false) : ∀ (j : Nat) x, xs[j]? = some x → p x = false := by
  intro j x hx
  have := (List.getElem?_eq_some_iff.1 hx).1
  exact hq j x (by omega) hx


theorem d186 (f : FuncId) (p : Int × Int → Bool) (xs : List (Int × Int)) (hl : xs.length ≤ 9223372036854775807) (hf : ∀ x, DetH Try.prog f [.pv (encI x)] [] [] (.pv (B (p x)))) : DetH Try.prog 186 [.pv (iv xs), .pv (Fv f)] [] [] (.pv (Z (idxB p xs))) := by
  refine detP_of Try.func186 rfl (by kernel_rfl) (by simp [Try.f186]) rfl ?_
  intro C hP hN
  simp only [Try.f186] at hN ⊢
  repeat' (first
    | with_reducible refine WP.seq ?_
    | (with_reducible refine WP.region (hn := []) ?_; simp -implicitDefEqProofs [hP, hN])
    | (with_reducible refine WP.draw (hn := []) (by rw [hP]; kernel_rfl) (by kernel_rfl) ?_; simp -implicitDefEqProofs [hP, hN]; (try refine ⟨by kernel_rfl, ?_⟩))
    | (with_reducible refine xB_split (by simp) (fun hgd => ?_) (fun hgd => ?_) <;> first | (exfalso; simp at hgd; done) | (exfalso; simp at hgd; omega) | simp -implicitDefEqProofs [hP, hN])
    | (with_reducible refine yB_split (by simp) (fun hgd => ?_) (fun hgd => ?_) <;> first | (exfalso; simp at hgd; done) | (exfalso; simp at hgd; omega) | (simp -implicitDefEqProofs [hP, hN] <;> (try refine ⟨by kernel_rfl, ?_⟩)))
    | with_reducible refine xTwo_intro ?_ ?_
    | (with_reducible refine WP.cond' ?_; simp -implicitDefEqProofs [hP, hN])
    | (with_reducible refine xCond_split (fun hcd => ?_) (fun hcd => ?_) <;> (try (exfalso; clear hP hN; simp_all; done)) <;> (try (exfalso; simp at *; omega)))
    | with_reducible refine WP.block ?_
    | (with_reducible refine WP.skip ?_; simp)
    | (with_reducible refine WP.exit ?_; simp)
    | (with_reducible refine WP.ret ?_; simp))
  refine WP.loopN [] xs.length (fun i st => st.t 0 = .pv (iv xs) ∧ st.t 1 = .pv (Fv f) ∧ st.t 7 = .pv (Z xs.length) ∧ st.t 8 = .pv (Z i) ∧ ∀ j x, j < i → xs[j]? = some x → p x = false) (by simp) ?_
  rintro i st hi ⟨h0, h1, h7, h8, hq⟩
  by_cases hlt : i < xs.length
  · have hw := wr_succ hlt hl
    repeat' (first
      | with_reducible refine WP.seq ?_
      | (with_reducible refine WP.region (hn := []) ?_; simp -implicitDefEqProofs [hP, hN, h0, h1, h7, h8, hlt, hw])
      | (with_reducible refine WP.draw (hn := []) (by rw [hP]; kernel_rfl) (by kernel_rfl) ?_; simp -implicitDefEqProofs [hP, hN, h0, h1, h7, h8, hlt, hw]; (try refine ⟨by kernel_rfl, ?_⟩))
      | (with_reducible refine xB_split (by simp [h0, h1, h7, h8, hlt, hw]) (fun hgd => ?_) (fun hgd => ?_) <;> first | (exfalso; simp at hgd; done) | (exfalso; simp at hgd; omega) | simp -implicitDefEqProofs [hP, hN, h0, h1, h7, h8, hlt, hw])
      | (with_reducible refine yB_split (by simp [h0, h1, h7, h8, hlt, hw]) (fun hgd => ?_) (fun hgd => ?_) <;> first | (exfalso; simp at hgd; done) | (exfalso; simp at hgd; omega) | (simp -implicitDefEqProofs [hP, hN, h0, h1, h7, h8, hlt, hw] <;> (try refine ⟨by kernel_rfl, ?_⟩)))
      | (with_reducible refine xC_intro (hf _) ?_; simp -implicitDefEqProofs [hP, hN, h0, h1, h7, h8, hlt, hw])
      | (with_reducible refine yC_intro (hf _) ?_; simp -implicitDefEqProofs [hP, hN, h0, h1, h7, h8, hlt, hw]; (try refine ⟨by kernel_rfl, ?_⟩))
      | with_reducible refine xTwo_intro ?_ ?_
      | (with_reducible refine WP.cond' ?_; simp -implicitDefEqProofs [hP, hN, h0, h1, h7, h8, hlt, hw])
      | (with_reducible refine xCond_split (fun hcd => ?_) (fun hcd => ?_) <;> (try (exfalso; clear hP hN; simp_all; done)) <;> (try (exfalso; simp at *; omega)))
      | with_reducible refine WP.block ?_
      | (with_reducible refine WP.skip ?_; simp [h0, h1, h7, h8, hlt, hw])
      | (with_reducible refine WP.exit ?_; simp [h0, h1, h7, h8, hlt, hw])
      | (with_reducible refine WP.ret ?_; simp [h0, h1, h7, h8, hlt, hw]))
    · exact (idxB_found hlt hq hcd).symm
    · simpa using prev_step hlt hq hcd
  · skip
    repeat' (first
      | with_reducible refine WP.seq ?_
      | (with_reducible refine WP.region (hn := []) ?_; simp -implicitDefEqProofs [hP, hN, h0, h1, h7, h8, hlt])
      | (with_reducible refine WP.draw (hn := []) (by rw [hP]; kernel_rfl) (by kernel_rfl) ?_; simp -implicitDefEqProofs [hP, hN, h0, h1, h7, h8, hlt]; (try refine ⟨by kernel_rfl, ?_⟩))
      | (with_reducible refine xB_split (by simp [h0, h1, h7, h8, hlt]) (fun hgd => ?_) (fun hgd => ?_) <;> first | (exfalso; simp at hgd; done) | (exfalso; simp at hgd; omega) | simp -implicitDefEqProofs [hP, hN, h0, h1, h7, h8, hlt])
      | (with_reducible refine yB_split (by simp [h0, h1, h7, h8, hlt]) (fun hgd => ?_) (fun hgd => ?_) <;> first | (exfalso; simp at hgd; done) | (exfalso; simp at hgd; omega) | (simp -implicitDefEqProofs [hP, hN, h0, h1, h7, h8, hlt] <;> (try refine ⟨by kernel_rfl, ?_⟩)))
      | with_reducible refine xTwo_intro ?_ ?_
      | (with_reducible refine WP.cond' ?_; simp -implicitDefEqProofs [hP, hN, h0, h1, h7, h8, hlt])
      | (with_reducible refine xCond_split (fun hcd => ?_) (fun hcd => ?_) <;> (try (exfalso; clear hP hN; simp_all; done)) <;> (try (exfalso; simp at *; omega)))
      | with_reducible refine WP.block ?_
      | (with_reducible refine WP.skip ?_; simp [h0, h1, h7, h8, hlt])
      | (with_reducible refine WP.exit ?_; simp [h0, h1, h7, h8, hlt])
      | (with_reducible refine WP.ret ?_; simp [h0, h1, h7, h8, hlt]))
    exact (idxB_none (prev_all hlt hq)).symm


theorem d180 (f : FuncId) (p : Int × Int → Bool) (xs : List (Int × Int)) (hl : xs.length ≤ 9223372036854775807) (hf : ∀ x, DetH Try.prog f [.pv (encI x)] [] [] (.pv (B (p x)))) : DetH Try.prog 180 [.pv (iv xs), .pv (Fv f)] [] [] (.pv (B (xs.any p))) := by
  refine detP_of Try.func180 rfl (by kernel_rfl) (by simp [Try.f180]) rfl ?_
  intro C hP hN
  simp only [Try.f180] at hN ⊢
  repeat' (first
    | with_reducible refine WP.seq ?_
    | (with_reducible refine WP.region (hn := []) ?_; simp -implicitDefEqProofs [hP, hN])
    | (with_reducible refine WP.draw (hn := []) (by rw [hP]; kernel_rfl) (by kernel_rfl) ?_; simp -implicitDefEqProofs [hP, hN]; (try refine ⟨by kernel_rfl, ?_⟩))
    | (with_reducible refine xB_split (by simp) (fun hgd => ?_) (fun hgd => ?_) <;> first | (exfalso; simp at hgd; done) | (exfalso; simp at hgd; omega) | simp -implicitDefEqProofs [hP, hN])
    | (with_reducible refine yB_split (by simp) (fun hgd => ?_) (fun hgd => ?_) <;> first | (exfalso; simp at hgd; done) | (exfalso; simp at hgd; omega) | (simp -implicitDefEqProofs [hP, hN] <;> (try refine ⟨by kernel_rfl, ?_⟩)))
    | (with_reducible refine xC_intro (d186 _ _ _ hl hf) ?_; simp -implicitDefEqProofs [hP, hN])
    | (with_reducible refine yC_intro (d186 _ _ _ hl hf) ?_; simp -implicitDefEqProofs [hP, hN]; (try refine ⟨by kernel_rfl, ?_⟩))
    | with_reducible refine xTwo_intro ?_ ?_
    | (with_reducible refine WP.cond' ?_; simp -implicitDefEqProofs [hP, hN])
    | (with_reducible refine xCond_split (fun hcd => ?_) (fun hcd => ?_) <;> (try (exfalso; clear hP hN; simp_all; done)) <;> (try (exfalso; simp at *; omega)))
    | with_reducible refine WP.block ?_
    | (with_reducible refine WP.skip ?_; simp)
    | (with_reducible refine WP.exit ?_; simp)
    | (with_reducible refine WP.ret ?_; simp))
  all_goals (first | (simp_all [idxB_any]; done) | ((try simp_all [idxB_any]) <;> (try omega) <;> grind))


def allB {α : Type} (p : α → Bool) (xs : List α) : Bool := xs.all p
theorem any_not {α : Type} (p : α → Bool) (xs : List α) : (xs.any fun x => !p x) = !allB p xs := by simp [allB, List.any_eq_not_all_not]
abbrev vI (x : Int × Int) : Bool := validB x.1 x.2
theorem d181 (x : Int × Int) : DetH Try.prog 181 [.pv (encI x)] [] [] (.pv (B (!validB x.1 x.2))) := by
  refine detP_of Try.func181 rfl (by kernel_rfl) (by simp [Try.f181]) rfl ?_
  intro C hP hN
  simp only [Try.f181] at hN ⊢
  repeat' (first
    | with_reducible refine WP.seq ?_
    | (with_reducible refine WP.region (hn := []) ?_; simp -implicitDefEqProofs [hP, hN])
    | (with_reducible refine WP.draw (hn := []) (by rw [hP]; kernel_rfl) (by kernel_rfl) ?_; simp -implicitDefEqProofs [hP, hN]; (try refine ⟨by kernel_rfl, ?_⟩))
    | (with_reducible refine xB_split (by simp) (fun hgd => ?_) (fun hgd => ?_) <;> first | (exfalso; simp at hgd; done) | (exfalso; simp at hgd; omega) | simp -implicitDefEqProofs [hP, hN])
    | (with_reducible refine yB_split (by simp) (fun hgd => ?_) (fun hgd => ?_) <;> first | (exfalso; simp at hgd; done) | (exfalso; simp at hgd; omega) | (simp -implicitDefEqProofs [hP, hN] <;> (try refine ⟨by kernel_rfl, ?_⟩)))
    | (with_reducible refine xC_intro (d179 _ _) ?_; simp -implicitDefEqProofs [hP, hN])
    | (with_reducible refine yC_intro (d179 _ _) ?_; simp -implicitDefEqProofs [hP, hN]; (try refine ⟨by kernel_rfl, ?_⟩))
    | with_reducible refine xTwo_intro ?_ ?_
    | (with_reducible refine WP.cond' ?_; simp -implicitDefEqProofs [hP, hN])
    | (with_reducible refine xCond_split (fun hcd => ?_) (fun hcd => ?_) <;> (try (exfalso; clear hP hN; simp_all; done)) <;> (try (exfalso; simp at *; omega)))
    | with_reducible refine WP.block ?_
    | (with_reducible refine WP.skip ?_; simp)
    | (with_reducible refine WP.exit ?_; simp)
    | (with_reducible refine WP.ret ?_; simp))
  all_goals (first | (simp_all; done) | ((try simp_all) <;> (try omega) <;> grind))
theorem d152 (xs : List (Int × Int)) (hl : xs.length ≤ 9223372036854775807) : DetH Try.prog 152 [.pv (iv xs)] [] [] (.pv (B (allB vI xs))) := by
  refine detP_of Try.func152 rfl (by kernel_rfl) (by simp [Try.f152]) rfl ?_
  intro C hP hN
  simp only [Try.f152] at hN ⊢
  repeat' (first
    | with_reducible refine WP.seq ?_
    | (with_reducible refine WP.region (hn := []) ?_; simp -implicitDefEqProofs [hP, hN, any_not vI xs])
    | (with_reducible refine WP.draw (hn := []) (by rw [hP]; kernel_rfl) (by kernel_rfl) ?_; simp -implicitDefEqProofs [hP, hN, any_not vI xs]; (try refine ⟨by kernel_rfl, ?_⟩))
    | (with_reducible refine xB_split (by simp [any_not vI xs]) (fun hgd => ?_) (fun hgd => ?_) <;> first | (exfalso; simp at hgd; done) | (exfalso; simp at hgd; omega) | simp -implicitDefEqProofs [hP, hN, any_not vI xs])
    | (with_reducible refine yB_split (by simp [any_not vI xs]) (fun hgd => ?_) (fun hgd => ?_) <;> first | (exfalso; simp at hgd; done) | (exfalso; simp at hgd; omega) | (simp -implicitDefEqProofs [hP, hN, any_not vI xs] <;> (try refine ⟨by kernel_rfl, ?_⟩)))
    | (with_reducible refine xC_intro (d180 _ _ _ hl d181) ?_; simp -implicitDefEqProofs [hP, hN, any_not vI xs])
    | (with_reducible refine yC_intro (d180 _ _ _ hl d181) ?_; simp -implicitDefEqProofs [hP, hN, any_not vI xs]; (try refine ⟨by kernel_rfl, ?_⟩))
    | with_reducible refine xTwo_intro ?_ ?_
    | (with_reducible refine WP.cond' ?_; simp -implicitDefEqProofs [hP, hN, any_not vI xs])
    | (with_reducible refine xCond_split (fun hcd => ?_) (fun hcd => ?_) <;> (try (exfalso; clear hP hN; simp_all; done)) <;> (try (exfalso; simp at *; omega)))
    | with_reducible refine WP.block ?_
    | (with_reducible refine WP.skip ?_; simp [any_not vI xs])
    | (with_reducible refine WP.exit ?_; simp [any_not vI xs])
    | (with_reducible refine WP.ret ?_; simp [any_not vI xs]))
  all_goals (first | (simp_all; done) | ((try simp_all) <;> (try omega) <;> grind))
def smallB (x : Int) : Bool := decide (-2147483648 ≤ x) && decide (x ≤ 2147483648)
def motionB (xs ys : List Int) (d : Int) : Bool := decide (xs.length = ys.length) && allB smallB xs && allB smallB ys && decide (0 ≤ d) && decide (d ≤ 20)
theorem motionB_true {xs ys : List Int} {d : Int} (h : motionB xs ys d = true) : xs.length = ys.length ∧ allB smallB xs = true ∧ allB smallB ys = true ∧ 0 ≤ d ∧ d ≤ 20 := by
  simp only [motionB, Bool.and_eq_true, decide_eq_true_eq] at h
  exact ⟨h.1.1.1.1, h.1.1.1.2, h.1.1.2, h.1.2, h.2⟩
theorem wr_shl {d : Int} (h0 : 0 ≤ d) (hd : d ≤ 20) : IntKind.i64.wrap (2 ^ d.toNat) = 2 ^ d.toNat := by
  have : ∀ n : Nat, n ≤ 20 → IntKind.i64.wrap (2 ^ n) = 2 ^ n := by decide
  exact this d.toNat (by omega)
end Go.Ab
