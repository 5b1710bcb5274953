/- Contracts: the reference's loops over lists. -/
import Derived.Test.YtagmnknighofeaaCf3
set_option linter.all false
namespace Go.Ab
open Go.Proofs
theorem all_false {α : Type} {p : α → Bool} {xs : List α} {i : Nat} (hlt : i < xs.length) (hp : p xs[i] = false) : allB p xs = false := by
  rw [allB, List.all_eq_false]; exact ⟨xs[i], List.getElem_mem hlt, by simp [hp]⟩
theorem all_zero {α : Type} {p : α → Bool} {xs : List α} : allB p (xs.take 0) = true := by simp [allB]
theorem all_step {α : Type} {p : α → Bool} {xs : List α} {i : Nat} (hlt : i < xs.length) (h : allB p (xs.take i) = true) (hp : p xs[i] = true) : allB p (xs.take (i + 1)) = true := by
  unfold allB at *; rw [List.take_succ_eq_append_getElem hlt, List.all_append, h]; simp [hp]
theorem all_done {α : Type} {p : α → Bool} {xs : List α} {i : Nat} (hlt : ¬ i < xs.length) (h : allB p (xs.take i) = true) : allB p xs = true := by
  rwa [List.take_of_length_le (by omega)] at h
theorem take_map_step {α β : Type} {f : α → β} {xs : List α} {i : Nat} (hlt : i < xs.length) : (xs.map f).take i ++ [f xs[i]] = (xs.map f).take (i + 1) := by
  rw [List.take_succ_eq_append_getElem (by simpa using hlt)]; simp
theorem take_zip_step {α β γ : Type} {f : α → β → γ} {xs : List α} {ys : List β} {i : Nat} (hlt : i < xs.length) (hlt' : i < ys.length) : (List.zipWith f xs ys).take i ++ [f xs[i] ys[i]] = (List.zipWith f xs ys).take (i + 1) := by
  rw [List.take_succ_eq_append_getElem (by simp; omega)]; simp
theorem take_done {α : Type} {xs : List α} {i n : Nat} (hn : xs.length = n) (hi : ¬ i < n) : xs.take i = xs := List.take_of_length_le (by omega)
def allZ {α β : Type} (f : α → β → Bool) (xs : List α) (ys : List β) : Bool := (List.zipWith f xs ys).all id
def allZt {α β : Type} (f : α → β → Bool) (xs : List α) (ys : List β) (i : Nat) : Bool := ((List.zipWith f xs ys).take i).all id
theorem allZ_false {α β : Type} {f : α → β → Bool} {xs : List α} {ys : List β} {i : Nat} (hlt : i < xs.length) (hlt' : i < ys.length) (hp : f xs[i] ys[i] = false) : allZ f xs ys = false :=
  all_false (p := id) (xs := List.zipWith f xs ys) (i := i) (by simp; omega) (by simpa using hp)
theorem allZ_zero {α β : Type} {f : α → β → Bool} {xs : List α} {ys : List β} : allZt f xs ys 0 = true := by simp [allZt]
theorem allZ_step {α β : Type} {f : α → β → Bool} {xs : List α} {ys : List β} {i : Nat} (hlt : i < xs.length) (hlt' : i < ys.length) (h : allZt f xs ys i = true) (hp : f xs[i] ys[i] = true) : allZt f xs ys (i + 1) = true :=
  all_step (p := id) (xs := List.zipWith f xs ys) (i := i) (by simp; omega) h (by simpa using hp)
theorem allZ_done {α β : Type} {f : α → β → Bool} {xs : List α} {ys : List β} {i : Nat} (hlt : ¬ i < xs.length) (h : allZt f xs ys i = true) : allZ f xs ys = true :=
  all_done (p := id) (xs := List.zipWith f xs ys) (i := i) (by simp; omega) h


theorem d82 (xs : List (Int × Int)) (hl : xs.length ≤ 9223372036854775807) : DetH Try.prog 82 [.pv (iv xs)] [] [] (.pv (B (allB vI xs))) := by
  refine detP_of Try.func82 rfl (by kernel_rfl) (by simp [Try.f82]) rfl ?_
  intro C hP hN
  simp only [Try.f82] at hN ⊢
  repeat' (first
    | with_reducible refine WP.seq ?_
    | (with_reducible refine WP.region (hn := []) ?_; simp -implicitDefEqProofs [hP, hN])
    | (with_reducible refine WP.draw (hn := []) (by rw [hP]; kernel_rfl) (by kernel_rfl) ?_; simp -implicitDefEqProofs [hP, hN]; (try refine ⟨by kernel_rfl, ?_⟩))
    | (with_reducible refine xB_split (by simp) (fun hgd => ?_) (fun hgd => ?_) <;> first | (exfalso; simp at hgd; done) | (exfalso; simp at hgd; omega) | simp -implicitDefEqProofs [hP, hN])
    | (with_reducible refine yB_split (by simp) (fun hgd => ?_) (fun hgd => ?_) <;> first | (exfalso; simp at hgd; done) | (exfalso; simp at hgd; omega) | (simp -implicitDefEqProofs [hP, hN] <;> (try refine ⟨by kernel_rfl, ?_⟩)))
    | with_reducible refine xTwo_intro ?_ ?_
    | (with_reducible refine WP.cond' ?_; simp -implicitDefEqProofs [hP, hN])
    | (with_reducible refine xCond_split (fun hcd => ?_) (fun hcd => ?_) <;> (try (exfalso; clear hP hN; simp_all; done)) <;> (try (exfalso; simp at *; omega)))
    | with_reducible refine WP.block ?_
    | (with_reducible refine WP.skip ?_; simp)
    | (with_reducible refine WP.exit ?_; simp)
    | (with_reducible refine WP.ret ?_; simp))
  refine WP.loopN [] xs.length (fun i st => st.t 0 = .pv (iv xs) ∧ st.t 3 = .pv (Z i) ∧ allB vI (xs.take i) = true) (by simp [allB]) ?_
  rintro i st hi ⟨h0, h1, hq⟩
  by_cases hlt : i < xs.length
  · have hw := wr_succ hlt hl
    have hF : vI xs[i] = false → allB vI xs = false := all_false hlt
    have hS : vI xs[i] = true → allB vI (xs.take (i + 1)) = true := all_step hlt hq
    repeat' (first
      | with_reducible refine WP.seq ?_
      | (with_reducible refine WP.region (hn := []) ?_; simp -implicitDefEqProofs [hP, hN, h0, h1, hlt, hw])
      | (with_reducible refine WP.draw (hn := []) (by rw [hP]; kernel_rfl) (by kernel_rfl) ?_; simp -implicitDefEqProofs [hP, hN, h0, h1, hlt, hw]; (try refine ⟨by kernel_rfl, ?_⟩))
      | (with_reducible refine xB_split (by simp [h0, h1, hlt, hw]) (fun hgd => ?_) (fun hgd => ?_) <;> first | (exfalso; simp at hgd; done) | (exfalso; simp at hgd; omega) | simp -implicitDefEqProofs [hP, hN, h0, h1, hlt, hw])
      | (with_reducible refine yB_split (by simp [h0, h1, hlt, hw]) (fun hgd => ?_) (fun hgd => ?_) <;> first | (exfalso; simp at hgd; done) | (exfalso; simp at hgd; omega) | (simp -implicitDefEqProofs [hP, hN, h0, h1, hlt, hw] <;> (try refine ⟨by kernel_rfl, ?_⟩)))
      | (with_reducible refine xC_intro (d115 _ _) ?_; simp -implicitDefEqProofs [hP, hN, h0, h1, hlt, hw])
      | (with_reducible refine yC_intro (d115 _ _) ?_; simp -implicitDefEqProofs [hP, hN, h0, h1, hlt, hw]; (try refine ⟨by kernel_rfl, ?_⟩))
      | with_reducible refine xTwo_intro ?_ ?_
      | (with_reducible refine WP.cond' ?_; simp -implicitDefEqProofs [hP, hN, h0, h1, hlt, hw])
      | (with_reducible refine xCond_split (fun hcd => ?_) (fun hcd => ?_) <;> (try (exfalso; clear hP hN; simp_all; done)) <;> (try (exfalso; simp at *; omega)))
      | with_reducible refine WP.block ?_
      | (with_reducible refine WP.skip ?_; simp [h0, h1, hlt, hw])
      | (with_reducible refine WP.exit ?_; simp [h0, h1, hlt, hw])
      | (with_reducible refine WP.ret ?_; simp [h0, h1, hlt, hw]))
    all_goals first | (rw [hF]; simp_all [smallB]; try omega) | (rw [hS]; simp_all [smallB]; try omega)
  · skip
    repeat' (first
      | with_reducible refine WP.seq ?_
      | (with_reducible refine WP.region (hn := []) ?_; simp -implicitDefEqProofs [hP, hN, h0, h1, hlt])
      | (with_reducible refine WP.draw (hn := []) (by rw [hP]; kernel_rfl) (by kernel_rfl) ?_; simp -implicitDefEqProofs [hP, hN, h0, h1, hlt]; (try refine ⟨by kernel_rfl, ?_⟩))
      | (with_reducible refine xB_split (by simp [h0, h1, hlt]) (fun hgd => ?_) (fun hgd => ?_) <;> first | (exfalso; simp at hgd; done) | (exfalso; simp at hgd; omega) | simp -implicitDefEqProofs [hP, hN, h0, h1, hlt])
      | (with_reducible refine yB_split (by simp [h0, h1, hlt]) (fun hgd => ?_) (fun hgd => ?_) <;> first | (exfalso; simp at hgd; done) | (exfalso; simp at hgd; omega) | (simp -implicitDefEqProofs [hP, hN, h0, h1, hlt] <;> (try refine ⟨by kernel_rfl, ?_⟩)))
      | with_reducible refine xTwo_intro ?_ ?_
      | (with_reducible refine WP.cond' ?_; simp -implicitDefEqProofs [hP, hN, h0, h1, hlt])
      | (with_reducible refine xCond_split (fun hcd => ?_) (fun hcd => ?_) <;> (try (exfalso; clear hP hN; simp_all; done)) <;> (try (exfalso; simp at *; omega)))
      | with_reducible refine WP.block ?_
      | (with_reducible refine WP.skip ?_; simp [h0, h1, hlt])
      | (with_reducible refine WP.exit ?_; simp [h0, h1, hlt])
      | (with_reducible refine WP.ret ?_; simp [h0, h1, hlt]))
    simp [all_done hlt hq]


theorem d166 (xs : List (Int)) (hl : xs.length ≤ 9223372036854775807) : DetH Try.prog 166 [.pv (zs xs)] [] [] (.pv (B (allB smallB xs))) := by
  refine detP_of Try.func166 rfl (by kernel_rfl) (by simp [Try.f166]) rfl ?_
  intro C hP hN
  simp only [Try.f166] at hN ⊢
  repeat' (first
    | with_reducible refine WP.seq ?_
    | (with_reducible refine WP.region (hn := []) ?_; simp -implicitDefEqProofs [hP, hN])
    | (with_reducible refine WP.draw (hn := []) (by rw [hP]; kernel_rfl) (by kernel_rfl) ?_; simp -implicitDefEqProofs [hP, hN]; (try refine ⟨by kernel_rfl, ?_⟩))
    | (with_reducible refine xB_split (by simp) (fun hgd => ?_) (fun hgd => ?_) <;> first | (exfalso; simp at hgd; done) | (exfalso; simp at hgd; omega) | simp -implicitDefEqProofs [hP, hN])
    | (with_reducible refine yB_split (by simp) (fun hgd => ?_) (fun hgd => ?_) <;> first | (exfalso; simp at hgd; done) | (exfalso; simp at hgd; omega) | (simp -implicitDefEqProofs [hP, hN] <;> (try refine ⟨by kernel_rfl, ?_⟩)))
    | with_reducible refine xTwo_intro ?_ ?_
    | (with_reducible refine WP.cond' ?_; simp -implicitDefEqProofs [hP, hN])
    | (with_reducible refine xCond_split (fun hcd => ?_) (fun hcd => ?_) <;> (try (exfalso; clear hP hN; simp_all; done)) <;> (try (exfalso; simp at *; omega)))
    | with_reducible refine WP.block ?_
    | (with_reducible refine WP.skip ?_; simp)
    | (with_reducible refine WP.exit ?_; simp)
    | (with_reducible refine WP.ret ?_; simp))
  refine WP.loopN [] xs.length (fun i st => st.t 0 = .pv (zs xs) ∧ st.t 3 = .pv (Z i) ∧ allB smallB (xs.take i) = true) (by simp [allB]) ?_
  rintro i st hi ⟨h0, h1, hq⟩
  by_cases hlt : i < xs.length
  · have hw := wr_succ hlt hl
    have hF : smallB xs[i] = false → allB smallB xs = false := all_false hlt
    have hS : smallB xs[i] = true → allB smallB (xs.take (i + 1)) = true := all_step hlt hq
    repeat' (first
      | with_reducible refine WP.seq ?_
      | (with_reducible refine WP.region (hn := []) ?_; simp -implicitDefEqProofs [hP, hN, h0, h1, hlt, hw])
      | (with_reducible refine WP.draw (hn := []) (by rw [hP]; kernel_rfl) (by kernel_rfl) ?_; simp -implicitDefEqProofs [hP, hN, h0, h1, hlt, hw]; (try refine ⟨by kernel_rfl, ?_⟩))
      | (with_reducible refine xB_split (by simp [h0, h1, hlt, hw]) (fun hgd => ?_) (fun hgd => ?_) <;> first | (exfalso; simp at hgd; done) | (exfalso; simp at hgd; omega) | simp -implicitDefEqProofs [hP, hN, h0, h1, hlt, hw])
      | (with_reducible refine yB_split (by simp [h0, h1, hlt, hw]) (fun hgd => ?_) (fun hgd => ?_) <;> first | (exfalso; simp at hgd; done) | (exfalso; simp at hgd; omega) | (simp -implicitDefEqProofs [hP, hN, h0, h1, hlt, hw] <;> (try refine ⟨by kernel_rfl, ?_⟩)))
      | with_reducible refine xTwo_intro ?_ ?_
      | (with_reducible refine WP.cond' ?_; simp -implicitDefEqProofs [hP, hN, h0, h1, hlt, hw])
      | (with_reducible refine xCond_split (fun hcd => ?_) (fun hcd => ?_) <;> (try (exfalso; clear hP hN; simp_all; done)) <;> (try (exfalso; simp at *; omega)))
      | with_reducible refine WP.block ?_
      | (with_reducible refine WP.skip ?_; simp [h0, h1, hlt, hw])
      | (with_reducible refine WP.exit ?_; simp [h0, h1, hlt, hw])
      | (with_reducible refine WP.ret ?_; simp [h0, h1, hlt, hw]))
    all_goals first | (rw [hF]; simp_all [smallB]; try omega) | (rw [hS]; simp_all [smallB]; try omega)
  · skip
    repeat' (first
      | with_reducible refine WP.seq ?_
      | (with_reducible refine WP.region (hn := []) ?_; simp -implicitDefEqProofs [hP, hN, h0, h1, hlt])
      | (with_reducible refine WP.draw (hn := []) (by rw [hP]; kernel_rfl) (by kernel_rfl) ?_; simp -implicitDefEqProofs [hP, hN, h0, h1, hlt]; (try refine ⟨by kernel_rfl, ?_⟩))
      | (with_reducible refine xB_split (by simp [h0, h1, hlt]) (fun hgd => ?_) (fun hgd => ?_) <;> first | (exfalso; simp at hgd; done) | (exfalso; simp at hgd; omega) | simp -implicitDefEqProofs [hP, hN, h0, h1, hlt])
      | (with_reducible refine yB_split (by simp [h0, h1, hlt]) (fun hgd => ?_) (fun hgd => ?_) <;> first | (exfalso; simp at hgd; done) | (exfalso; simp at hgd; omega) | (simp -implicitDefEqProofs [hP, hN, h0, h1, hlt] <;> (try refine ⟨by kernel_rfl, ?_⟩)))
      | with_reducible refine xTwo_intro ?_ ?_
      | (with_reducible refine WP.cond' ?_; simp -implicitDefEqProofs [hP, hN, h0, h1, hlt])
      | (with_reducible refine xCond_split (fun hcd => ?_) (fun hcd => ?_) <;> (try (exfalso; clear hP hN; simp_all; done)) <;> (try (exfalso; simp at *; omega)))
      | with_reducible refine WP.block ?_
      | (with_reducible refine WP.skip ?_; simp [h0, h1, hlt])
      | (with_reducible refine WP.exit ?_; simp [h0, h1, hlt])
      | (with_reducible refine WP.ret ?_; simp [h0, h1, hlt]))
    simp [all_done hlt hq]


def withinI (x y : Int × Int) : Bool := validB x.1 x.2 && validB y.1 y.2 && decide (y.1 ≤ x.1) && decide (x.2 ≤ y.2)
def hasI (x : Int × Int) (c : Int) : Bool := validB x.1 x.2 && decide (x.1 ≤ c) && decide (c ≤ x.2)
def withinL (xs ys : List (Int × Int)) : Bool := allB vI xs && allB vI ys && decide (xs.length = ys.length) && allZ withinI xs ys
def hasL (xs : List (Int × Int)) (ys : List Int) : Bool := allB vI xs && decide (xs.length = ys.length) && allZ hasI xs ys
def hullL (xs ys : List (Int × Int)) : List (Int × Int) := if allB vI xs && allB vI ys && decide (xs.length = ys.length) then List.zipWith hullI xs ys else []
def boxL (xs : List Int) : List (Int × Int) := if allB smallB xs then xs.map (fun x => (x, x)) else []


theorem d29 (xs : List (Int × Int)) (ys : List (Int × Int)) (hl : xs.length ≤ 9223372036854775807) (hm : ys.length ≤ 9223372036854775807) : DetH Try.prog 29 [.pv (iv xs), .pv (iv ys)] [] [] (.pv (B (withinL xs ys))) := by
  refine detP_of Try.func29 rfl (by kernel_rfl) (by simp [Try.f29]) rfl ?_
  intro C hP hN
  simp only [Try.f29] at hN ⊢
  cases hv : allB vI xs with
  | false =>
    repeat' (first
      | with_reducible refine WP.seq ?_
      | (with_reducible refine WP.region (hn := []) ?_; simp -implicitDefEqProofs [hP, hN, hv])
      | (with_reducible refine WP.draw (hn := []) (by rw [hP]; kernel_rfl) (by kernel_rfl) ?_; simp -implicitDefEqProofs [hP, hN, hv]; (try refine ⟨by kernel_rfl, ?_⟩))
      | (with_reducible refine xB_split (by simp [hv]) (fun hgd => ?_) (fun hgd => ?_) <;> first | (exfalso; simp at hgd; done) | (exfalso; simp at hgd; omega) | simp -implicitDefEqProofs [hP, hN, hv])
      | (with_reducible refine yB_split (by simp [hv]) (fun hgd => ?_) (fun hgd => ?_) <;> first | (exfalso; simp at hgd; done) | (exfalso; simp at hgd; omega) | (simp -implicitDefEqProofs [hP, hN, hv] <;> (try refine ⟨by kernel_rfl, ?_⟩)))
      | (with_reducible refine xC_intro (d82 _ hl) ?_; simp -implicitDefEqProofs [hP, hN, hv])
      | (with_reducible refine yC_intro (d82 _ hl) ?_; simp -implicitDefEqProofs [hP, hN, hv]; (try refine ⟨by kernel_rfl, ?_⟩))
      | (with_reducible refine xC_intro (d82 _ hm) ?_; simp -implicitDefEqProofs [hP, hN, hv])
      | (with_reducible refine yC_intro (d82 _ hm) ?_; simp -implicitDefEqProofs [hP, hN, hv]; (try refine ⟨by kernel_rfl, ?_⟩))
      | with_reducible refine xTwo_intro ?_ ?_
      | (with_reducible refine WP.cond' ?_; simp -implicitDefEqProofs [hP, hN, hv])
      | (with_reducible refine xCond_split (fun hcd => ?_) (fun hcd => ?_) <;> (try (exfalso; clear hP hN; simp_all; done)) <;> (try (exfalso; simp at *; omega)))
      | with_reducible refine WP.block ?_
      | (with_reducible refine WP.skip ?_; simp [hv])
      | (with_reducible refine WP.exit ?_; simp [hv])
      | (with_reducible refine WP.ret ?_; simp [hv]))
    all_goals simp [withinL, hv]
  | true =>
    cases hu : allB vI ys with
    | false =>
      repeat' (first
        | with_reducible refine WP.seq ?_
        | (with_reducible refine WP.region (hn := []) ?_; simp -implicitDefEqProofs [hP, hN, hv, hu])
        | (with_reducible refine WP.draw (hn := []) (by rw [hP]; kernel_rfl) (by kernel_rfl) ?_; simp -implicitDefEqProofs [hP, hN, hv, hu]; (try refine ⟨by kernel_rfl, ?_⟩))
        | (with_reducible refine xB_split (by simp [hv, hu]) (fun hgd => ?_) (fun hgd => ?_) <;> first | (exfalso; simp at hgd; done) | (exfalso; simp at hgd; omega) | simp -implicitDefEqProofs [hP, hN, hv, hu])
        | (with_reducible refine yB_split (by simp [hv, hu]) (fun hgd => ?_) (fun hgd => ?_) <;> first | (exfalso; simp at hgd; done) | (exfalso; simp at hgd; omega) | (simp -implicitDefEqProofs [hP, hN, hv, hu] <;> (try refine ⟨by kernel_rfl, ?_⟩)))
        | (with_reducible refine xC_intro (d82 _ hl) ?_; simp -implicitDefEqProofs [hP, hN, hv, hu])
        | (with_reducible refine yC_intro (d82 _ hl) ?_; simp -implicitDefEqProofs [hP, hN, hv, hu]; (try refine ⟨by kernel_rfl, ?_⟩))
        | (with_reducible refine xC_intro (d82 _ hm) ?_; simp -implicitDefEqProofs [hP, hN, hv, hu])
        | (with_reducible refine yC_intro (d82 _ hm) ?_; simp -implicitDefEqProofs [hP, hN, hv, hu]; (try refine ⟨by kernel_rfl, ?_⟩))
        | with_reducible refine xTwo_intro ?_ ?_
        | (with_reducible refine WP.cond' ?_; simp -implicitDefEqProofs [hP, hN, hv, hu])
        | (with_reducible refine xCond_split (fun hcd => ?_) (fun hcd => ?_) <;> (try (exfalso; clear hP hN; simp_all; done)) <;> (try (exfalso; simp at *; omega)))
        | with_reducible refine WP.block ?_
        | (with_reducible refine WP.skip ?_; simp [hv, hu])
        | (with_reducible refine WP.exit ?_; simp [hv, hu])
        | (with_reducible refine WP.ret ?_; simp [hv, hu]))
      all_goals simp [withinL, hv, hu]
    | true =>
      by_cases he : xs.length = ys.length
      · skip
        repeat' (first
          | with_reducible refine WP.seq ?_
          | (with_reducible refine WP.region (hn := []) ?_; simp -implicitDefEqProofs [hP, hN, hv, hu, he])
          | (with_reducible refine WP.draw (hn := []) (by rw [hP]; kernel_rfl) (by kernel_rfl) ?_; simp -implicitDefEqProofs [hP, hN, hv, hu, he]; (try refine ⟨by kernel_rfl, ?_⟩))
          | (with_reducible refine xB_split (by simp [hv, hu, he]) (fun hgd => ?_) (fun hgd => ?_) <;> first | (exfalso; simp at hgd; done) | (exfalso; simp at hgd; omega) | simp -implicitDefEqProofs [hP, hN, hv, hu, he])
          | (with_reducible refine yB_split (by simp [hv, hu, he]) (fun hgd => ?_) (fun hgd => ?_) <;> first | (exfalso; simp at hgd; done) | (exfalso; simp at hgd; omega) | (simp -implicitDefEqProofs [hP, hN, hv, hu, he] <;> (try refine ⟨by kernel_rfl, ?_⟩)))
          | (with_reducible refine xC_intro (d82 _ hl) ?_; simp -implicitDefEqProofs [hP, hN, hv, hu, he])
          | (with_reducible refine yC_intro (d82 _ hl) ?_; simp -implicitDefEqProofs [hP, hN, hv, hu, he]; (try refine ⟨by kernel_rfl, ?_⟩))
          | (with_reducible refine xC_intro (d82 _ hm) ?_; simp -implicitDefEqProofs [hP, hN, hv, hu, he])
          | (with_reducible refine yC_intro (d82 _ hm) ?_; simp -implicitDefEqProofs [hP, hN, hv, hu, he]; (try refine ⟨by kernel_rfl, ?_⟩))
          | with_reducible refine xTwo_intro ?_ ?_
          | (with_reducible refine WP.cond' ?_; simp -implicitDefEqProofs [hP, hN, hv, hu, he])
          | (with_reducible refine xCond_split (fun hcd => ?_) (fun hcd => ?_) <;> (try (exfalso; clear hP hN; simp_all; done)) <;> (try (exfalso; simp at *; omega)))
          | with_reducible refine WP.block ?_
          | (with_reducible refine WP.skip ?_; simp [hv, hu, he])
          | (with_reducible refine WP.exit ?_; simp [hv, hu, he])
          | (with_reducible refine WP.ret ?_; simp [hv, hu, he]))
        refine WP.loopN [] xs.length (fun i st => st.t 0 = .pv (iv xs) ∧ st.t 1 = .pv (iv ys) ∧ st.t 5 = .pv (Z i) ∧ allZt withinI xs ys i = true) (by simp [allZt]) ?_
        rintro i st hi ⟨h0, h1, h2, hq⟩
        by_cases hlt : i < xs.length
        · have hw := wr_succ hlt hl
          have hlt' : i < ys.length := by omega
          have hF : withinI xs[i] ys[i] = false → allZ withinI xs ys = false := allZ_false hlt hlt'
          have hS : withinI xs[i] ys[i] = true → allZt withinI xs ys (i + 1) = true := allZ_step hlt hlt' hq
          repeat' (first
            | with_reducible refine WP.seq ?_
            | (with_reducible refine WP.region (hn := []) ?_; simp -implicitDefEqProofs [hP, hN, h0, h1, h2, hlt, hlt', hw])
            | (with_reducible refine WP.draw (hn := []) (by rw [hP]; kernel_rfl) (by kernel_rfl) ?_; simp -implicitDefEqProofs [hP, hN, h0, h1, h2, hlt, hlt', hw]; (try refine ⟨by kernel_rfl, ?_⟩))
            | (with_reducible refine xB_split (by simp [h0, h1, h2, hlt, hlt', hw]) (fun hgd => ?_) (fun hgd => ?_) <;> first | (exfalso; simp at hgd; done) | (exfalso; simp at hgd; omega) | simp -implicitDefEqProofs [hP, hN, h0, h1, h2, hlt, hlt', hw])
            | (with_reducible refine yB_split (by simp [h0, h1, h2, hlt, hlt', hw]) (fun hgd => ?_) (fun hgd => ?_) <;> first | (exfalso; simp at hgd; done) | (exfalso; simp at hgd; omega) | (simp -implicitDefEqProofs [hP, hN, h0, h1, h2, hlt, hlt', hw] <;> (try refine ⟨by kernel_rfl, ?_⟩)))
            | (with_reducible refine xC_intro (d83 _ _ _ _) ?_; simp -implicitDefEqProofs [hP, hN, h0, h1, h2, hlt, hlt', hw])
            | (with_reducible refine yC_intro (d83 _ _ _ _) ?_; simp -implicitDefEqProofs [hP, hN, h0, h1, h2, hlt, hlt', hw]; (try refine ⟨by kernel_rfl, ?_⟩))
            | with_reducible refine xTwo_intro ?_ ?_
            | (with_reducible refine WP.cond' ?_; simp -implicitDefEqProofs [hP, hN, h0, h1, h2, hlt, hlt', hw])
            | (with_reducible refine xCond_split (fun hcd => ?_) (fun hcd => ?_) <;> (try (exfalso; clear hP hN; simp_all; done)) <;> (try (exfalso; simp at *; omega)))
            | with_reducible refine WP.block ?_
            | (with_reducible refine WP.skip ?_; simp [h0, h1, h2, hlt, hlt', hw])
            | (with_reducible refine WP.exit ?_; simp [h0, h1, h2, hlt, hlt', hw])
            | (with_reducible refine WP.ret ?_; simp [h0, h1, h2, hlt, hlt', hw]))
          all_goals first | (rw [withinL, hF (by simp only [withinI] <;> grind)]; simp; done) | (rw [hS (by simp only [withinI] <;> grind)]; done)
        · have hlt' : ¬ i < ys.length := by omega
          repeat' (first
            | with_reducible refine WP.seq ?_
            | (with_reducible refine WP.region (hn := []) ?_; simp -implicitDefEqProofs [hP, hN, h0, h1, h2, hlt, hlt'])
            | (with_reducible refine WP.draw (hn := []) (by rw [hP]; kernel_rfl) (by kernel_rfl) ?_; simp -implicitDefEqProofs [hP, hN, h0, h1, h2, hlt, hlt']; (try refine ⟨by kernel_rfl, ?_⟩))
            | (with_reducible refine xB_split (by simp [h0, h1, h2, hlt, hlt']) (fun hgd => ?_) (fun hgd => ?_) <;> first | (exfalso; simp at hgd; done) | (exfalso; simp at hgd; omega) | simp -implicitDefEqProofs [hP, hN, h0, h1, h2, hlt, hlt'])
            | (with_reducible refine yB_split (by simp [h0, h1, h2, hlt, hlt']) (fun hgd => ?_) (fun hgd => ?_) <;> first | (exfalso; simp at hgd; done) | (exfalso; simp at hgd; omega) | (simp -implicitDefEqProofs [hP, hN, h0, h1, h2, hlt, hlt'] <;> (try refine ⟨by kernel_rfl, ?_⟩)))
            | with_reducible refine xTwo_intro ?_ ?_
            | (with_reducible refine WP.cond' ?_; simp -implicitDefEqProofs [hP, hN, h0, h1, h2, hlt, hlt'])
            | (with_reducible refine xCond_split (fun hcd => ?_) (fun hcd => ?_) <;> (try (exfalso; clear hP hN; simp_all; done)) <;> (try (exfalso; simp at *; omega)))
            | with_reducible refine WP.block ?_
            | (with_reducible refine WP.skip ?_; simp [h0, h1, h2, hlt, hlt'])
            | (with_reducible refine WP.exit ?_; simp [h0, h1, h2, hlt, hlt'])
            | (with_reducible refine WP.ret ?_; simp [h0, h1, h2, hlt, hlt']))
          all_goals simp [withinL, hv, hu, he, allZ_done hlt hq]
      · skip
        repeat' (first
          | with_reducible refine WP.seq ?_
          | (with_reducible refine WP.region (hn := []) ?_; simp -implicitDefEqProofs [hP, hN, hv, hu, he])
          | (with_reducible refine WP.draw (hn := []) (by rw [hP]; kernel_rfl) (by kernel_rfl) ?_; simp -implicitDefEqProofs [hP, hN, hv, hu, he]; (try refine ⟨by kernel_rfl, ?_⟩))
          | (with_reducible refine xB_split (by simp [hv, hu, he]) (fun hgd => ?_) (fun hgd => ?_) <;> first | (exfalso; simp at hgd; done) | (exfalso; simp at hgd; omega) | simp -implicitDefEqProofs [hP, hN, hv, hu, he])
          | (with_reducible refine yB_split (by simp [hv, hu, he]) (fun hgd => ?_) (fun hgd => ?_) <;> first | (exfalso; simp at hgd; done) | (exfalso; simp at hgd; omega) | (simp -implicitDefEqProofs [hP, hN, hv, hu, he] <;> (try refine ⟨by kernel_rfl, ?_⟩)))
          | (with_reducible refine xC_intro (d82 _ hl) ?_; simp -implicitDefEqProofs [hP, hN, hv, hu, he])
          | (with_reducible refine yC_intro (d82 _ hl) ?_; simp -implicitDefEqProofs [hP, hN, hv, hu, he]; (try refine ⟨by kernel_rfl, ?_⟩))
          | (with_reducible refine xC_intro (d82 _ hm) ?_; simp -implicitDefEqProofs [hP, hN, hv, hu, he])
          | (with_reducible refine yC_intro (d82 _ hm) ?_; simp -implicitDefEqProofs [hP, hN, hv, hu, he]; (try refine ⟨by kernel_rfl, ?_⟩))
          | with_reducible refine xTwo_intro ?_ ?_
          | (with_reducible refine WP.cond' ?_; simp -implicitDefEqProofs [hP, hN, hv, hu, he])
          | (with_reducible refine xCond_split (fun hcd => ?_) (fun hcd => ?_) <;> (try (exfalso; clear hP hN; simp_all; done)) <;> (try (exfalso; simp at *; omega)))
          | with_reducible refine WP.block ?_
          | (with_reducible refine WP.skip ?_; simp [hv, hu, he])
          | (with_reducible refine WP.exit ?_; simp [hv, hu, he])
          | (with_reducible refine WP.ret ?_; simp [hv, hu, he]))
        all_goals simp [withinL, hv, hu, he]


theorem d30 (xs : List (Int × Int)) (ys : List (Int)) (hl : xs.length ≤ 9223372036854775807) (hm : ys.length ≤ 9223372036854775807) : DetH Try.prog 30 [.pv (iv xs), .pv (zs ys)] [] [] (.pv (B (hasL xs ys))) := by
  refine detP_of Try.func30 rfl (by kernel_rfl) (by simp [Try.f30]) rfl ?_
  intro C hP hN
  simp only [Try.f30] at hN ⊢
  cases hv : allB vI xs with
  | false =>
    repeat' (first
      | with_reducible refine WP.seq ?_
      | (with_reducible refine WP.region (hn := []) ?_; simp -implicitDefEqProofs [hP, hN, hv])
      | (with_reducible refine WP.draw (hn := []) (by rw [hP]; kernel_rfl) (by kernel_rfl) ?_; simp -implicitDefEqProofs [hP, hN, hv]; (try refine ⟨by kernel_rfl, ?_⟩))
      | (with_reducible refine xB_split (by simp [hv]) (fun hgd => ?_) (fun hgd => ?_) <;> first | (exfalso; simp at hgd; done) | (exfalso; simp at hgd; omega) | simp -implicitDefEqProofs [hP, hN, hv])
      | (with_reducible refine yB_split (by simp [hv]) (fun hgd => ?_) (fun hgd => ?_) <;> first | (exfalso; simp at hgd; done) | (exfalso; simp at hgd; omega) | (simp -implicitDefEqProofs [hP, hN, hv] <;> (try refine ⟨by kernel_rfl, ?_⟩)))
      | (with_reducible refine xC_intro (d82 _ hl) ?_; simp -implicitDefEqProofs [hP, hN, hv])
      | (with_reducible refine yC_intro (d82 _ hl) ?_; simp -implicitDefEqProofs [hP, hN, hv]; (try refine ⟨by kernel_rfl, ?_⟩))
      | with_reducible refine xTwo_intro ?_ ?_
      | (with_reducible refine WP.cond' ?_; simp -implicitDefEqProofs [hP, hN, hv])
      | (with_reducible refine xCond_split (fun hcd => ?_) (fun hcd => ?_) <;> (try (exfalso; clear hP hN; simp_all; done)) <;> (try (exfalso; simp at *; omega)))
      | with_reducible refine WP.block ?_
      | (with_reducible refine WP.skip ?_; simp [hv])
      | (with_reducible refine WP.exit ?_; simp [hv])
      | (with_reducible refine WP.ret ?_; simp [hv]))
    all_goals simp [hasL, hv]
  | true =>
    by_cases he : xs.length = ys.length
    · skip
      repeat' (first
        | with_reducible refine WP.seq ?_
        | (with_reducible refine WP.region (hn := []) ?_; simp -implicitDefEqProofs [hP, hN, hv, he])
        | (with_reducible refine WP.draw (hn := []) (by rw [hP]; kernel_rfl) (by kernel_rfl) ?_; simp -implicitDefEqProofs [hP, hN, hv, he]; (try refine ⟨by kernel_rfl, ?_⟩))
        | (with_reducible refine xB_split (by simp [hv, he]) (fun hgd => ?_) (fun hgd => ?_) <;> first | (exfalso; simp at hgd; done) | (exfalso; simp at hgd; omega) | simp -implicitDefEqProofs [hP, hN, hv, he])
        | (with_reducible refine yB_split (by simp [hv, he]) (fun hgd => ?_) (fun hgd => ?_) <;> first | (exfalso; simp at hgd; done) | (exfalso; simp at hgd; omega) | (simp -implicitDefEqProofs [hP, hN, hv, he] <;> (try refine ⟨by kernel_rfl, ?_⟩)))
        | (with_reducible refine xC_intro (d82 _ hl) ?_; simp -implicitDefEqProofs [hP, hN, hv, he])
        | (with_reducible refine yC_intro (d82 _ hl) ?_; simp -implicitDefEqProofs [hP, hN, hv, he]; (try refine ⟨by kernel_rfl, ?_⟩))
        | with_reducible refine xTwo_intro ?_ ?_
        | (with_reducible refine WP.cond' ?_; simp -implicitDefEqProofs [hP, hN, hv, he])
        | (with_reducible refine xCond_split (fun hcd => ?_) (fun hcd => ?_) <;> (try (exfalso; clear hP hN; simp_all; done)) <;> (try (exfalso; simp at *; omega)))
        | with_reducible refine WP.block ?_
        | (with_reducible refine WP.skip ?_; simp [hv, he])
        | (with_reducible refine WP.exit ?_; simp [hv, he])
        | (with_reducible refine WP.ret ?_; simp [hv, he]))
      refine WP.loopN [] xs.length (fun i st => st.t 0 = .pv (iv xs) ∧ st.t 1 = .pv (zs ys) ∧ st.t 5 = .pv (Z i) ∧ allZt hasI xs ys i = true) (by simp [allZt]) ?_
      rintro i st hi ⟨h0, h1, h2, hq⟩
      by_cases hlt : i < xs.length
      · have hw := wr_succ hlt hl
        have hlt' : i < ys.length := by omega
        have hF : hasI xs[i] ys[i] = false → allZ hasI xs ys = false := allZ_false hlt hlt'
        have hS : hasI xs[i] ys[i] = true → allZt hasI xs ys (i + 1) = true := allZ_step hlt hlt' hq
        repeat' (first
          | with_reducible refine WP.seq ?_
          | (with_reducible refine WP.region (hn := []) ?_; simp -implicitDefEqProofs [hP, hN, h0, h1, h2, hlt, hlt', hw])
          | (with_reducible refine WP.draw (hn := []) (by rw [hP]; kernel_rfl) (by kernel_rfl) ?_; simp -implicitDefEqProofs [hP, hN, h0, h1, h2, hlt, hlt', hw]; (try refine ⟨by kernel_rfl, ?_⟩))
          | (with_reducible refine xB_split (by simp [h0, h1, h2, hlt, hlt', hw]) (fun hgd => ?_) (fun hgd => ?_) <;> first | (exfalso; simp at hgd; done) | (exfalso; simp at hgd; omega) | simp -implicitDefEqProofs [hP, hN, h0, h1, h2, hlt, hlt', hw])
          | (with_reducible refine yB_split (by simp [h0, h1, h2, hlt, hlt', hw]) (fun hgd => ?_) (fun hgd => ?_) <;> first | (exfalso; simp at hgd; done) | (exfalso; simp at hgd; omega) | (simp -implicitDefEqProofs [hP, hN, h0, h1, h2, hlt, hlt', hw] <;> (try refine ⟨by kernel_rfl, ?_⟩)))
          | (with_reducible refine xC_intro (d84 _ _ _) ?_; simp -implicitDefEqProofs [hP, hN, h0, h1, h2, hlt, hlt', hw])
          | (with_reducible refine yC_intro (d84 _ _ _) ?_; simp -implicitDefEqProofs [hP, hN, h0, h1, h2, hlt, hlt', hw]; (try refine ⟨by kernel_rfl, ?_⟩))
          | with_reducible refine xTwo_intro ?_ ?_
          | (with_reducible refine WP.cond' ?_; simp -implicitDefEqProofs [hP, hN, h0, h1, h2, hlt, hlt', hw])
          | (with_reducible refine xCond_split (fun hcd => ?_) (fun hcd => ?_) <;> (try (exfalso; clear hP hN; simp_all; done)) <;> (try (exfalso; simp at *; omega)))
          | with_reducible refine WP.block ?_
          | (with_reducible refine WP.skip ?_; simp [h0, h1, h2, hlt, hlt', hw])
          | (with_reducible refine WP.exit ?_; simp [h0, h1, h2, hlt, hlt', hw])
          | (with_reducible refine WP.ret ?_; simp [h0, h1, h2, hlt, hlt', hw]))
        all_goals first | (rw [hasL, hF (by simp only [hasI] <;> grind)]; simp; done) | (rw [hS (by simp only [hasI] <;> grind)]; done)
      · have hlt' : ¬ i < ys.length := by omega
        repeat' (first
          | with_reducible refine WP.seq ?_
          | (with_reducible refine WP.region (hn := []) ?_; simp -implicitDefEqProofs [hP, hN, h0, h1, h2, hlt, hlt'])
          | (with_reducible refine WP.draw (hn := []) (by rw [hP]; kernel_rfl) (by kernel_rfl) ?_; simp -implicitDefEqProofs [hP, hN, h0, h1, h2, hlt, hlt']; (try refine ⟨by kernel_rfl, ?_⟩))
          | (with_reducible refine xB_split (by simp [h0, h1, h2, hlt, hlt']) (fun hgd => ?_) (fun hgd => ?_) <;> first | (exfalso; simp at hgd; done) | (exfalso; simp at hgd; omega) | simp -implicitDefEqProofs [hP, hN, h0, h1, h2, hlt, hlt'])
          | (with_reducible refine yB_split (by simp [h0, h1, h2, hlt, hlt']) (fun hgd => ?_) (fun hgd => ?_) <;> first | (exfalso; simp at hgd; done) | (exfalso; simp at hgd; omega) | (simp -implicitDefEqProofs [hP, hN, h0, h1, h2, hlt, hlt'] <;> (try refine ⟨by kernel_rfl, ?_⟩)))
          | with_reducible refine xTwo_intro ?_ ?_
          | (with_reducible refine WP.cond' ?_; simp -implicitDefEqProofs [hP, hN, h0, h1, h2, hlt, hlt'])
          | (with_reducible refine xCond_split (fun hcd => ?_) (fun hcd => ?_) <;> (try (exfalso; clear hP hN; simp_all; done)) <;> (try (exfalso; simp at *; omega)))
          | with_reducible refine WP.block ?_
          | (with_reducible refine WP.skip ?_; simp [h0, h1, h2, hlt, hlt'])
          | (with_reducible refine WP.exit ?_; simp [h0, h1, h2, hlt, hlt'])
          | (with_reducible refine WP.ret ?_; simp [h0, h1, h2, hlt, hlt']))
        all_goals simp [hasL, hv, he, allZ_done hlt hq]
    · skip
      repeat' (first
        | with_reducible refine WP.seq ?_
        | (with_reducible refine WP.region (hn := []) ?_; simp -implicitDefEqProofs [hP, hN, hv, he])
        | (with_reducible refine WP.draw (hn := []) (by rw [hP]; kernel_rfl) (by kernel_rfl) ?_; simp -implicitDefEqProofs [hP, hN, hv, he]; (try refine ⟨by kernel_rfl, ?_⟩))
        | (with_reducible refine xB_split (by simp [hv, he]) (fun hgd => ?_) (fun hgd => ?_) <;> first | (exfalso; simp at hgd; done) | (exfalso; simp at hgd; omega) | simp -implicitDefEqProofs [hP, hN, hv, he])
        | (with_reducible refine yB_split (by simp [hv, he]) (fun hgd => ?_) (fun hgd => ?_) <;> first | (exfalso; simp at hgd; done) | (exfalso; simp at hgd; omega) | (simp -implicitDefEqProofs [hP, hN, hv, he] <;> (try refine ⟨by kernel_rfl, ?_⟩)))
        | (with_reducible refine xC_intro (d82 _ hl) ?_; simp -implicitDefEqProofs [hP, hN, hv, he])
        | (with_reducible refine yC_intro (d82 _ hl) ?_; simp -implicitDefEqProofs [hP, hN, hv, he]; (try refine ⟨by kernel_rfl, ?_⟩))
        | with_reducible refine xTwo_intro ?_ ?_
        | (with_reducible refine WP.cond' ?_; simp -implicitDefEqProofs [hP, hN, hv, he])
        | (with_reducible refine xCond_split (fun hcd => ?_) (fun hcd => ?_) <;> (try (exfalso; clear hP hN; simp_all; done)) <;> (try (exfalso; simp at *; omega)))
        | with_reducible refine WP.block ?_
        | (with_reducible refine WP.skip ?_; simp [hv, he])
        | (with_reducible refine WP.exit ?_; simp [hv, he])
        | (with_reducible refine WP.ret ?_; simp [hv, he]))
      all_goals simp [hasL, hv, he]


def sameL {α : Type} [DecidableEq α] (xs ys : List α) : Bool := decide (xs = ys)
def eqB {α : Type} [DecidableEq α] (x y : α) : Bool := decide (x = y)
theorem allZ_eq {α : Type} [DecidableEq α] {xs ys : List α} (he : xs.length = ys.length) : allZ eqB xs ys = decide (xs = ys) := by
  unfold allZ
  induction xs generalizing ys with
  | nil => cases ys <;> simp at he ⊢
  | cons x xs ih => cases ys with
    | nil => simp at he
    | cons y ys => simp only [List.zipWith_cons_cons, List.all_cons, ih (by simpa using he)]; simp [eqB, Bool.decide_and]
def sameX {α : Type} [DecidableEq α] (xs ys : List α) : Bool := decide (xs.length = ys.length) && allZ eqB xs ys


theorem d40 (xs : List (Int × Int)) (ys : List (Int × Int)) (hl : xs.length ≤ 9223372036854775807) (hm : ys.length ≤ 9223372036854775807) : DetH Try.prog 40 [.pv (iv xs), .pv (iv ys)] [] [] (.pv (B (sameX xs ys))) := by
  refine detP_of Try.func40 rfl (by kernel_rfl) (by simp [Try.f40]) rfl ?_
  intro C hP hN
  simp only [Try.f40] at hN ⊢
  by_cases he : xs.length = ys.length
  · skip
    repeat' (first
      | with_reducible refine WP.seq ?_
      | (with_reducible refine WP.region (hn := []) ?_; simp -implicitDefEqProofs [hP, hN, he])
      | (with_reducible refine WP.draw (hn := []) (by rw [hP]; kernel_rfl) (by kernel_rfl) ?_; simp -implicitDefEqProofs [hP, hN, he]; (try refine ⟨by kernel_rfl, ?_⟩))
      | (with_reducible refine xB_split (by simp [he]) (fun hgd => ?_) (fun hgd => ?_) <;> first | (exfalso; simp at hgd; done) | (exfalso; simp at hgd; omega) | simp -implicitDefEqProofs [hP, hN, he])
      | (with_reducible refine yB_split (by simp [he]) (fun hgd => ?_) (fun hgd => ?_) <;> first | (exfalso; simp at hgd; done) | (exfalso; simp at hgd; omega) | (simp -implicitDefEqProofs [hP, hN, he] <;> (try refine ⟨by kernel_rfl, ?_⟩)))
      | with_reducible refine xTwo_intro ?_ ?_
      | (with_reducible refine WP.cond' ?_; simp -implicitDefEqProofs [hP, hN, he])
      | (with_reducible refine xCond_split (fun hcd => ?_) (fun hcd => ?_) <;> (try (exfalso; clear hP hN; simp_all; done)) <;> (try (exfalso; simp at *; omega)))
      | with_reducible refine WP.block ?_
      | (with_reducible refine WP.skip ?_; simp [he])
      | (with_reducible refine WP.exit ?_; simp [he])
      | (with_reducible refine WP.ret ?_; simp [he]))
    refine WP.loopN [] xs.length (fun i st => st.t 0 = .pv (iv xs) ∧ st.t 1 = .pv (iv ys) ∧ st.t 5 = .pv (Z i) ∧ allZt eqB xs ys i = true) (by simp [allZt]) ?_
    rintro i st hi ⟨h0, h1, h2, hq⟩
    by_cases hlt : i < xs.length
    · have hw := wr_succ hlt hl
      have hlt' : i < ys.length := by omega
      have hF : eqB xs[i] ys[i] = false → allZ eqB xs ys = false := allZ_false hlt hlt'
      have hS : eqB xs[i] ys[i] = true → allZt eqB xs ys (i + 1) = true := allZ_step hlt hlt' hq
      repeat' (first
        | with_reducible refine WP.seq ?_
        | (with_reducible refine WP.region (hn := []) ?_; simp -implicitDefEqProofs [hP, hN, h0, h1, h2, hlt, hlt', hw])
        | (with_reducible refine WP.draw (hn := []) (by rw [hP]; kernel_rfl) (by kernel_rfl) ?_; simp -implicitDefEqProofs [hP, hN, h0, h1, h2, hlt, hlt', hw]; (try refine ⟨by kernel_rfl, ?_⟩))
        | (with_reducible refine xB_split (by simp [h0, h1, h2, hlt, hlt', hw]) (fun hgd => ?_) (fun hgd => ?_) <;> first | (exfalso; simp at hgd; done) | (exfalso; simp at hgd; omega) | simp -implicitDefEqProofs [hP, hN, h0, h1, h2, hlt, hlt', hw])
        | (with_reducible refine yB_split (by simp [h0, h1, h2, hlt, hlt', hw]) (fun hgd => ?_) (fun hgd => ?_) <;> first | (exfalso; simp at hgd; done) | (exfalso; simp at hgd; omega) | (simp -implicitDefEqProofs [hP, hN, h0, h1, h2, hlt, hlt', hw] <;> (try refine ⟨by kernel_rfl, ?_⟩)))
        | with_reducible refine xTwo_intro ?_ ?_
        | (with_reducible refine WP.cond' ?_; simp -implicitDefEqProofs [hP, hN, h0, h1, h2, hlt, hlt', hw])
        | (with_reducible refine xCond_split (fun hcd => ?_) (fun hcd => ?_) <;> (try (exfalso; clear hP hN; simp_all; done)) <;> (try (exfalso; simp at *; omega)))
        | with_reducible refine WP.block ?_
        | (with_reducible refine WP.skip ?_; simp [h0, h1, h2, hlt, hlt', hw])
        | (with_reducible refine WP.exit ?_; simp [h0, h1, h2, hlt, hlt', hw])
        | (with_reducible refine WP.ret ?_; simp [h0, h1, h2, hlt, hlt', hw]))
      all_goals first | (rw [sameX, hF (by simp only [eqB] <;> grind)]; simp; done) | (rw [hS (by simp only [eqB] <;> grind)]; done)
    · have hlt' : ¬ i < ys.length := by omega
      repeat' (first
        | with_reducible refine WP.seq ?_
        | (with_reducible refine WP.region (hn := []) ?_; simp -implicitDefEqProofs [hP, hN, h0, h1, h2, hlt, hlt'])
        | (with_reducible refine WP.draw (hn := []) (by rw [hP]; kernel_rfl) (by kernel_rfl) ?_; simp -implicitDefEqProofs [hP, hN, h0, h1, h2, hlt, hlt']; (try refine ⟨by kernel_rfl, ?_⟩))
        | (with_reducible refine xB_split (by simp [h0, h1, h2, hlt, hlt']) (fun hgd => ?_) (fun hgd => ?_) <;> first | (exfalso; simp at hgd; done) | (exfalso; simp at hgd; omega) | simp -implicitDefEqProofs [hP, hN, h0, h1, h2, hlt, hlt'])
        | (with_reducible refine yB_split (by simp [h0, h1, h2, hlt, hlt']) (fun hgd => ?_) (fun hgd => ?_) <;> first | (exfalso; simp at hgd; done) | (exfalso; simp at hgd; omega) | (simp -implicitDefEqProofs [hP, hN, h0, h1, h2, hlt, hlt'] <;> (try refine ⟨by kernel_rfl, ?_⟩)))
        | with_reducible refine xTwo_intro ?_ ?_
        | (with_reducible refine WP.cond' ?_; simp -implicitDefEqProofs [hP, hN, h0, h1, h2, hlt, hlt'])
        | (with_reducible refine xCond_split (fun hcd => ?_) (fun hcd => ?_) <;> (try (exfalso; clear hP hN; simp_all; done)) <;> (try (exfalso; simp at *; omega)))
        | with_reducible refine WP.block ?_
        | (with_reducible refine WP.skip ?_; simp [h0, h1, h2, hlt, hlt'])
        | (with_reducible refine WP.exit ?_; simp [h0, h1, h2, hlt, hlt'])
        | (with_reducible refine WP.ret ?_; simp [h0, h1, h2, hlt, hlt']))
      all_goals simp [sameX, he, allZ_done hlt hq]
  · skip
    repeat' (first
      | with_reducible refine WP.seq ?_
      | (with_reducible refine WP.region (hn := []) ?_; simp -implicitDefEqProofs [hP, hN, he])
      | (with_reducible refine WP.draw (hn := []) (by rw [hP]; kernel_rfl) (by kernel_rfl) ?_; simp -implicitDefEqProofs [hP, hN, he]; (try refine ⟨by kernel_rfl, ?_⟩))
      | (with_reducible refine xB_split (by simp [he]) (fun hgd => ?_) (fun hgd => ?_) <;> first | (exfalso; simp at hgd; done) | (exfalso; simp at hgd; omega) | simp -implicitDefEqProofs [hP, hN, he])
      | (with_reducible refine yB_split (by simp [he]) (fun hgd => ?_) (fun hgd => ?_) <;> first | (exfalso; simp at hgd; done) | (exfalso; simp at hgd; omega) | (simp -implicitDefEqProofs [hP, hN, he] <;> (try refine ⟨by kernel_rfl, ?_⟩)))
      | with_reducible refine xTwo_intro ?_ ?_
      | (with_reducible refine WP.cond' ?_; simp -implicitDefEqProofs [hP, hN, he])
      | (with_reducible refine xCond_split (fun hcd => ?_) (fun hcd => ?_) <;> (try (exfalso; clear hP hN; simp_all; done)) <;> (try (exfalso; simp at *; omega)))
      | with_reducible refine WP.block ?_
      | (with_reducible refine WP.skip ?_; simp [he])
      | (with_reducible refine WP.exit ?_; simp [he])
      | (with_reducible refine WP.ret ?_; simp [he]))
    all_goals simp [sameX, he]


theorem d47 (xs : List (Int)) (ys : List (Int)) (hl : xs.length ≤ 9223372036854775807) (hm : ys.length ≤ 9223372036854775807) : DetH Try.prog 47 [.pv (zs xs), .pv (zs ys)] [] [] (.pv (B (sameX xs ys))) := by
  refine detP_of Try.func47 rfl (by kernel_rfl) (by simp [Try.f47]) rfl ?_
  intro C hP hN
  simp only [Try.f47] at hN ⊢
  by_cases he : xs.length = ys.length
  · skip
    repeat' (first
      | with_reducible refine WP.seq ?_
      | (with_reducible refine WP.region (hn := []) ?_; simp -implicitDefEqProofs [hP, hN, he])
      | (with_reducible refine WP.draw (hn := []) (by rw [hP]; kernel_rfl) (by kernel_rfl) ?_; simp -implicitDefEqProofs [hP, hN, he]; (try refine ⟨by kernel_rfl, ?_⟩))
      | (with_reducible refine xB_split (by simp [he]) (fun hgd => ?_) (fun hgd => ?_) <;> first | (exfalso; simp at hgd; done) | (exfalso; simp at hgd; omega) | simp -implicitDefEqProofs [hP, hN, he])
      | (with_reducible refine yB_split (by simp [he]) (fun hgd => ?_) (fun hgd => ?_) <;> first | (exfalso; simp at hgd; done) | (exfalso; simp at hgd; omega) | (simp -implicitDefEqProofs [hP, hN, he] <;> (try refine ⟨by kernel_rfl, ?_⟩)))
      | with_reducible refine xTwo_intro ?_ ?_
      | (with_reducible refine WP.cond' ?_; simp -implicitDefEqProofs [hP, hN, he])
      | (with_reducible refine xCond_split (fun hcd => ?_) (fun hcd => ?_) <;> (try (exfalso; clear hP hN; simp_all; done)) <;> (try (exfalso; simp at *; omega)))
      | with_reducible refine WP.block ?_
      | (with_reducible refine WP.skip ?_; simp [he])
      | (with_reducible refine WP.exit ?_; simp [he])
      | (with_reducible refine WP.ret ?_; simp [he]))
    refine WP.loopN [] xs.length (fun i st => st.t 0 = .pv (zs xs) ∧ st.t 1 = .pv (zs ys) ∧ st.t 5 = .pv (Z i) ∧ allZt eqB xs ys i = true) (by simp [allZt]) ?_
    rintro i st hi ⟨h0, h1, h2, hq⟩
    by_cases hlt : i < xs.length
    · have hw := wr_succ hlt hl
      have hlt' : i < ys.length := by omega
      have hF : eqB xs[i] ys[i] = false → allZ eqB xs ys = false := allZ_false hlt hlt'
      have hS : eqB xs[i] ys[i] = true → allZt eqB xs ys (i + 1) = true := allZ_step hlt hlt' hq
      repeat' (first
        | with_reducible refine WP.seq ?_
        | (with_reducible refine WP.region (hn := []) ?_; simp -implicitDefEqProofs [hP, hN, h0, h1, h2, hlt, hlt', hw])
        | (with_reducible refine WP.draw (hn := []) (by rw [hP]; kernel_rfl) (by kernel_rfl) ?_; simp -implicitDefEqProofs [hP, hN, h0, h1, h2, hlt, hlt', hw]; (try refine ⟨by kernel_rfl, ?_⟩))
        | (with_reducible refine xB_split (by simp [h0, h1, h2, hlt, hlt', hw]) (fun hgd => ?_) (fun hgd => ?_) <;> first | (exfalso; simp at hgd; done) | (exfalso; simp at hgd; omega) | simp -implicitDefEqProofs [hP, hN, h0, h1, h2, hlt, hlt', hw])
        | (with_reducible refine yB_split (by simp [h0, h1, h2, hlt, hlt', hw]) (fun hgd => ?_) (fun hgd => ?_) <;> first | (exfalso; simp at hgd; done) | (exfalso; simp at hgd; omega) | (simp -implicitDefEqProofs [hP, hN, h0, h1, h2, hlt, hlt', hw] <;> (try refine ⟨by kernel_rfl, ?_⟩)))
        | with_reducible refine xTwo_intro ?_ ?_
        | (with_reducible refine WP.cond' ?_; simp -implicitDefEqProofs [hP, hN, h0, h1, h2, hlt, hlt', hw])
        | (with_reducible refine xCond_split (fun hcd => ?_) (fun hcd => ?_) <;> (try (exfalso; clear hP hN; simp_all; done)) <;> (try (exfalso; simp at *; omega)))
        | with_reducible refine WP.block ?_
        | (with_reducible refine WP.skip ?_; simp [h0, h1, h2, hlt, hlt', hw])
        | (with_reducible refine WP.exit ?_; simp [h0, h1, h2, hlt, hlt', hw])
        | (with_reducible refine WP.ret ?_; simp [h0, h1, h2, hlt, hlt', hw]))
      all_goals first | (rw [sameX, hF (by simp only [eqB] <;> grind)]; simp; done) | (rw [hS (by simp only [eqB] <;> grind)]; done)
    · have hlt' : ¬ i < ys.length := by omega
      repeat' (first
        | with_reducible refine WP.seq ?_
        | (with_reducible refine WP.region (hn := []) ?_; simp -implicitDefEqProofs [hP, hN, h0, h1, h2, hlt, hlt'])
        | (with_reducible refine WP.draw (hn := []) (by rw [hP]; kernel_rfl) (by kernel_rfl) ?_; simp -implicitDefEqProofs [hP, hN, h0, h1, h2, hlt, hlt']; (try refine ⟨by kernel_rfl, ?_⟩))
        | (with_reducible refine xB_split (by simp [h0, h1, h2, hlt, hlt']) (fun hgd => ?_) (fun hgd => ?_) <;> first | (exfalso; simp at hgd; done) | (exfalso; simp at hgd; omega) | simp -implicitDefEqProofs [hP, hN, h0, h1, h2, hlt, hlt'])
        | (with_reducible refine yB_split (by simp [h0, h1, h2, hlt, hlt']) (fun hgd => ?_) (fun hgd => ?_) <;> first | (exfalso; simp at hgd; done) | (exfalso; simp at hgd; omega) | (simp -implicitDefEqProofs [hP, hN, h0, h1, h2, hlt, hlt'] <;> (try refine ⟨by kernel_rfl, ?_⟩)))
        | with_reducible refine xTwo_intro ?_ ?_
        | (with_reducible refine WP.cond' ?_; simp -implicitDefEqProofs [hP, hN, h0, h1, h2, hlt, hlt'])
        | (with_reducible refine xCond_split (fun hcd => ?_) (fun hcd => ?_) <;> (try (exfalso; clear hP hN; simp_all; done)) <;> (try (exfalso; simp at *; omega)))
        | with_reducible refine WP.block ?_
        | (with_reducible refine WP.skip ?_; simp [h0, h1, h2, hlt, hlt'])
        | (with_reducible refine WP.exit ?_; simp [h0, h1, h2, hlt, hlt'])
        | (with_reducible refine WP.ret ?_; simp [h0, h1, h2, hlt, hlt']))
      all_goals simp [sameX, he, allZ_done hlt hq]
  · skip
    repeat' (first
      | with_reducible refine WP.seq ?_
      | (with_reducible refine WP.region (hn := []) ?_; simp -implicitDefEqProofs [hP, hN, he])
      | (with_reducible refine WP.draw (hn := []) (by rw [hP]; kernel_rfl) (by kernel_rfl) ?_; simp -implicitDefEqProofs [hP, hN, he]; (try refine ⟨by kernel_rfl, ?_⟩))
      | (with_reducible refine xB_split (by simp [he]) (fun hgd => ?_) (fun hgd => ?_) <;> first | (exfalso; simp at hgd; done) | (exfalso; simp at hgd; omega) | simp -implicitDefEqProofs [hP, hN, he])
      | (with_reducible refine yB_split (by simp [he]) (fun hgd => ?_) (fun hgd => ?_) <;> first | (exfalso; simp at hgd; done) | (exfalso; simp at hgd; omega) | (simp -implicitDefEqProofs [hP, hN, he] <;> (try refine ⟨by kernel_rfl, ?_⟩)))
      | with_reducible refine xTwo_intro ?_ ?_
      | (with_reducible refine WP.cond' ?_; simp -implicitDefEqProofs [hP, hN, he])
      | (with_reducible refine xCond_split (fun hcd => ?_) (fun hcd => ?_) <;> (try (exfalso; clear hP hN; simp_all; done)) <;> (try (exfalso; simp at *; omega)))
      | with_reducible refine WP.block ?_
      | (with_reducible refine WP.skip ?_; simp [he])
      | (with_reducible refine WP.exit ?_; simp [he])
      | (with_reducible refine WP.ret ?_; simp [he]))
    all_goals simp [sameX, he]

end Go.Ab
