/- Contracts: the rest of config and of its reference. -/
import Derived.Test.YtgamhginhckcpaaPl5
import Derived.Test.YtgamhginhckcpaaCf14
set_option linter.all false
namespace Go.Ab
open Go.Proofs
theorem d110 (f : FuncId) (p : J → Int → Bool) (xs : List (J)) (ys : List (Int)) (hl : xs.length ≤ 9223372036854775807) (hf : ∀ a b, DetH Try.prog f [.pv (encJ a), .pv (Z b)] [] [] (.pv (B (p a b)))) : DetH Try.prog 110 [.pv (.sl (xs.map encJ)), .pv (.sl (ys.map Z)), .pv (Fv f)] [] [] (.pv (B (decide (xs.length = ys.length) && allZ p xs ys))) := by
  refine detP_of Try.func110 rfl (by kernel_rfl) (by simp [Try.f110]) rfl ?_
  intro C hP hN
  simp only [Try.f110] at hN ⊢
  by_cases he : xs.length = ys.length
  · skip
    repeat' (first
      | with_reducible refine WP.seq ?_
      | (with_reducible refine WP.region (hn := []) ?_; simp [hP, hN, he])
      | (with_reducible refine WP.draw (hn := []) (by rw [hP]; kernel_rfl) (by kernel_rfl) ?_; simp [hP, hN, he]; (try refine ⟨by kernel_rfl, ?_⟩))
      | (with_reducible refine xB_split (by simp [he]) (fun hgd => ?_) (fun hgd => ?_) <;> first | (exfalso; simp at hgd; done) | (exfalso; simp at hgd; omega) | simp [hP, hN, he])
      | (with_reducible refine yB_split (by simp [he]) (fun hgd => ?_) (fun hgd => ?_) <;> first | (exfalso; simp at hgd; done) | (exfalso; simp at hgd; omega) | (simp [hP, hN, he] <;> (try refine ⟨by kernel_rfl, ?_⟩)))
      | with_reducible refine xTwo_intro ?_ ?_
      | (with_reducible refine WP.cond' ?_; simp [hP, hN, he])
      | (with_reducible refine xCond_split (fun hcd => ?_) (fun hcd => ?_) <;> (try (exfalso; clear hP hN; simp_all; done)) <;> (try (exfalso; simp at *; omega)))
      | with_reducible refine WP.block ?_
      | (with_reducible refine WP.skip ?_; simp [he])
      | (with_reducible refine WP.exit ?_; simp [he])
      | (with_reducible refine WP.ret ?_; simp [he]))
    refine WP.loopN [8] xs.length (fun i st => st.t 0 = .pv (.sl (xs.map encJ)) ∧ st.t 1 = .pv (.sl (ys.map Z)) ∧ st.t 2 = .pv (Fv f) ∧ st.t 14 = .pv (.sl (xs.map encJ)) ∧ st.t 15 = .pv (Z xs.length) ∧ st.t 16 = .pv (Z i) ∧ st.h 8 = none ∧ allZt p xs ys i = true) (by simp [allZt, he]) ?_
    rintro i st hi ⟨h0, h1, h2, h14, h15, h16, hb, hq⟩
    by_cases hlt : i < xs.length
    · have hw := wr_succ hlt hl
      have hlt' : i < ys.length := by omega
      have hF : p xs[i] ys[i] = false → allZ p xs ys = false := allZ_false hlt hlt'
      have hS : p xs[i] ys[i] = true → allZt p xs ys (i + 1) = true := allZ_step hlt hlt' hq
      repeat' (first
        | with_reducible refine WP.seq ?_
        | (with_reducible refine WP.region (hn := []) ?_; simp [hP, hN, h0, h1, h2, h14, h15, h16, hb, hlt, hlt', hw])
        | (with_reducible refine WP.draw (hn := []) (by rw [hP]; kernel_rfl) (by kernel_rfl) ?_; simp [hP, hN, h0, h1, h2, h14, h15, h16, hb, hlt, hlt', hw]; (try refine ⟨by kernel_rfl, ?_⟩))
        | (with_reducible refine xB_split (by simp [h0, h1, h2, h14, h15, h16, hb, hlt, hlt', hw]) (fun hgd => ?_) (fun hgd => ?_) <;> first | (exfalso; simp at hgd; done) | (exfalso; simp at hgd; omega) | simp [hP, hN, h0, h1, h2, h14, h15, h16, hb, hlt, hlt', hw])
        | (with_reducible refine yB_split (by simp [h0, h1, h2, h14, h15, h16, hb, hlt, hlt', hw]) (fun hgd => ?_) (fun hgd => ?_) <;> first | (exfalso; simp at hgd; done) | (exfalso; simp at hgd; omega) | (simp [hP, hN, h0, h1, h2, h14, h15, h16, hb, hlt, hlt', hw] <;> (try refine ⟨by kernel_rfl, ?_⟩)))
        | (with_reducible refine xC_intro (hf _ _) ?_; simp [hP, hN, h0, h1, h2, h14, h15, h16, hb, hlt, hlt', hw])
        | (with_reducible refine yC_intro (hf _ _) ?_; simp [hP, hN, h0, h1, h2, h14, h15, h16, hb, hlt, hlt', hw]; (try refine ⟨by kernel_rfl, ?_⟩))
        | with_reducible refine xTwo_intro ?_ ?_
        | (with_reducible refine WP.cond' ?_; simp [hP, hN, h0, h1, h2, h14, h15, h16, hb, hlt, hlt', hw])
        | (with_reducible refine xCond_split (fun hcd => ?_) (fun hcd => ?_) <;> (try (exfalso; clear hP hN; simp_all; done)) <;> (try (exfalso; simp at *; omega)))
        | with_reducible refine WP.block ?_
        | (with_reducible refine WP.skip ?_; simp [h0, h1, h2, h14, h15, h16, hb, hlt, hlt', hw])
        | (with_reducible refine WP.exit ?_; simp [h0, h1, h2, h14, h15, h16, hb, hlt, hlt', hw])
        | (with_reducible refine WP.ret ?_; simp [h0, h1, h2, h14, h15, h16, hb, hlt, hlt', hw]))
      all_goals first | exact hF (by simpa using hcd) | simpa using hS (by simpa using hcd)
    · skip
      repeat' (first
        | with_reducible refine WP.seq ?_
        | (with_reducible refine WP.region (hn := []) ?_; simp [hP, hN, h0, h1, h2, h14, h15, h16, hb, hlt])
        | (with_reducible refine WP.draw (hn := []) (by rw [hP]; kernel_rfl) (by kernel_rfl) ?_; simp [hP, hN, h0, h1, h2, h14, h15, h16, hb, hlt]; (try refine ⟨by kernel_rfl, ?_⟩))
        | (with_reducible refine xB_split (by simp [h0, h1, h2, h14, h15, h16, hb, hlt]) (fun hgd => ?_) (fun hgd => ?_) <;> first | (exfalso; simp at hgd; done) | (exfalso; simp at hgd; omega) | simp [hP, hN, h0, h1, h2, h14, h15, h16, hb, hlt])
        | (with_reducible refine yB_split (by simp [h0, h1, h2, h14, h15, h16, hb, hlt]) (fun hgd => ?_) (fun hgd => ?_) <;> first | (exfalso; simp at hgd; done) | (exfalso; simp at hgd; omega) | (simp [hP, hN, h0, h1, h2, h14, h15, h16, hb, hlt] <;> (try refine ⟨by kernel_rfl, ?_⟩)))
        | with_reducible refine xTwo_intro ?_ ?_
        | (with_reducible refine WP.cond' ?_; simp [hP, hN, h0, h1, h2, h14, h15, h16, hb, hlt])
        | (with_reducible refine xCond_split (fun hcd => ?_) (fun hcd => ?_) <;> (try (exfalso; clear hP hN; simp_all; done)) <;> (try (exfalso; simp at *; omega)))
        | with_reducible refine WP.block ?_
        | (with_reducible refine WP.skip ?_; simp [h0, h1, h2, h14, h15, h16, hb, hlt])
        | (with_reducible refine WP.exit ?_; simp [h0, h1, h2, h14, h15, h16, hb, hlt])
        | (with_reducible refine WP.ret ?_; simp [h0, h1, h2, h14, h15, h16, hb, hlt]))
      all_goals simp [he, allZ_done hlt hq]
  · skip
    repeat' (first
      | with_reducible refine WP.seq ?_
      | (with_reducible refine WP.region (hn := []) ?_; simp [hP, hN, he])
      | (with_reducible refine WP.draw (hn := []) (by rw [hP]; kernel_rfl) (by kernel_rfl) ?_; simp [hP, hN, he]; (try refine ⟨by kernel_rfl, ?_⟩))
      | (with_reducible refine xB_split (by simp [he]) (fun hgd => ?_) (fun hgd => ?_) <;> first | (exfalso; simp at hgd; done) | (exfalso; simp at hgd; omega) | simp [hP, hN, he])
      | (with_reducible refine yB_split (by simp [he]) (fun hgd => ?_) (fun hgd => ?_) <;> first | (exfalso; simp at hgd; done) | (exfalso; simp at hgd; omega) | (simp [hP, hN, he] <;> (try refine ⟨by kernel_rfl, ?_⟩)))
      | with_reducible refine xTwo_intro ?_ ?_
      | (with_reducible refine WP.cond' ?_; simp [hP, hN, he])
      | (with_reducible refine xCond_split (fun hcd => ?_) (fun hcd => ?_) <;> (try (exfalso; clear hP hN; simp_all; done)) <;> (try (exfalso; simp at *; omega)))
      | with_reducible refine WP.block ?_
      | (with_reducible refine WP.skip ?_; simp [he])
      | (with_reducible refine WP.exit ?_; simp [he])
      | (with_reducible refine WP.ret ?_; simp [he]))
    all_goals simp [he]
theorem d112 (f : FuncId) (p : J → Int × Int → Bool) (xs : List (J)) (ys : List (Int × Int)) (hl : xs.length ≤ 9223372036854775807) (hf : ∀ a b, DetH Try.prog f [.pv (encJ a), .pv (encI b)] [] [] (.pv (B (p a b)))) : DetH Try.prog 112 [.pv (.sl (xs.map encJ)), .pv (.sl (ys.map encI)), .pv (Fv f)] [] [] (.pv (B (decide (xs.length = ys.length) && allZ p xs ys))) := by
  refine detP_of Try.func112 rfl (by kernel_rfl) (by simp [Try.f112]) rfl ?_
  intro C hP hN
  simp only [Try.f112] at hN ⊢
  by_cases he : xs.length = ys.length
  · skip
    repeat' (first
      | with_reducible refine WP.seq ?_
      | (with_reducible refine WP.region (hn := []) ?_; simp [hP, hN, he])
      | (with_reducible refine WP.draw (hn := []) (by rw [hP]; kernel_rfl) (by kernel_rfl) ?_; simp [hP, hN, he]; (try refine ⟨by kernel_rfl, ?_⟩))
      | (with_reducible refine xB_split (by simp [he]) (fun hgd => ?_) (fun hgd => ?_) <;> first | (exfalso; simp at hgd; done) | (exfalso; simp at hgd; omega) | simp [hP, hN, he])
      | (with_reducible refine yB_split (by simp [he]) (fun hgd => ?_) (fun hgd => ?_) <;> first | (exfalso; simp at hgd; done) | (exfalso; simp at hgd; omega) | (simp [hP, hN, he] <;> (try refine ⟨by kernel_rfl, ?_⟩)))
      | with_reducible refine xTwo_intro ?_ ?_
      | (with_reducible refine WP.cond' ?_; simp [hP, hN, he])
      | (with_reducible refine xCond_split (fun hcd => ?_) (fun hcd => ?_) <;> (try (exfalso; clear hP hN; simp_all; done)) <;> (try (exfalso; simp at *; omega)))
      | with_reducible refine WP.block ?_
      | (with_reducible refine WP.skip ?_; simp [he])
      | (with_reducible refine WP.exit ?_; simp [he])
      | (with_reducible refine WP.ret ?_; simp [he]))
    refine WP.loopN [8] xs.length (fun i st => st.t 0 = .pv (.sl (xs.map encJ)) ∧ st.t 1 = .pv (.sl (ys.map encI)) ∧ st.t 2 = .pv (Fv f) ∧ st.t 14 = .pv (.sl (xs.map encJ)) ∧ st.t 15 = .pv (Z xs.length) ∧ st.t 16 = .pv (Z i) ∧ st.h 8 = none ∧ allZt p xs ys i = true) (by simp [allZt, he]) ?_
    rintro i st hi ⟨h0, h1, h2, h14, h15, h16, hb, hq⟩
    by_cases hlt : i < xs.length
    · have hw := wr_succ hlt hl
      have hlt' : i < ys.length := by omega
      have hF : p xs[i] ys[i] = false → allZ p xs ys = false := allZ_false hlt hlt'
      have hS : p xs[i] ys[i] = true → allZt p xs ys (i + 1) = true := allZ_step hlt hlt' hq
      repeat' (first
        | with_reducible refine WP.seq ?_
        | (with_reducible refine WP.region (hn := []) ?_; simp [hP, hN, h0, h1, h2, h14, h15, h16, hb, hlt, hlt', hw])
        | (with_reducible refine WP.draw (hn := []) (by rw [hP]; kernel_rfl) (by kernel_rfl) ?_; simp [hP, hN, h0, h1, h2, h14, h15, h16, hb, hlt, hlt', hw]; (try refine ⟨by kernel_rfl, ?_⟩))
        | (with_reducible refine xB_split (by simp [h0, h1, h2, h14, h15, h16, hb, hlt, hlt', hw]) (fun hgd => ?_) (fun hgd => ?_) <;> first | (exfalso; simp at hgd; done) | (exfalso; simp at hgd; omega) | simp [hP, hN, h0, h1, h2, h14, h15, h16, hb, hlt, hlt', hw])
        | (with_reducible refine yB_split (by simp [h0, h1, h2, h14, h15, h16, hb, hlt, hlt', hw]) (fun hgd => ?_) (fun hgd => ?_) <;> first | (exfalso; simp at hgd; done) | (exfalso; simp at hgd; omega) | (simp [hP, hN, h0, h1, h2, h14, h15, h16, hb, hlt, hlt', hw] <;> (try refine ⟨by kernel_rfl, ?_⟩)))
        | (with_reducible refine xC_intro (hf _ _) ?_; simp [hP, hN, h0, h1, h2, h14, h15, h16, hb, hlt, hlt', hw])
        | (with_reducible refine yC_intro (hf _ _) ?_; simp [hP, hN, h0, h1, h2, h14, h15, h16, hb, hlt, hlt', hw]; (try refine ⟨by kernel_rfl, ?_⟩))
        | with_reducible refine xTwo_intro ?_ ?_
        | (with_reducible refine WP.cond' ?_; simp [hP, hN, h0, h1, h2, h14, h15, h16, hb, hlt, hlt', hw])
        | (with_reducible refine xCond_split (fun hcd => ?_) (fun hcd => ?_) <;> (try (exfalso; clear hP hN; simp_all; done)) <;> (try (exfalso; simp at *; omega)))
        | with_reducible refine WP.block ?_
        | (with_reducible refine WP.skip ?_; simp [h0, h1, h2, h14, h15, h16, hb, hlt, hlt', hw])
        | (with_reducible refine WP.exit ?_; simp [h0, h1, h2, h14, h15, h16, hb, hlt, hlt', hw])
        | (with_reducible refine WP.ret ?_; simp [h0, h1, h2, h14, h15, h16, hb, hlt, hlt', hw]))
      all_goals first | exact hF (by simpa using hcd) | simpa using hS (by simpa using hcd)
    · skip
      repeat' (first
        | with_reducible refine WP.seq ?_
        | (with_reducible refine WP.region (hn := []) ?_; simp [hP, hN, h0, h1, h2, h14, h15, h16, hb, hlt])
        | (with_reducible refine WP.draw (hn := []) (by rw [hP]; kernel_rfl) (by kernel_rfl) ?_; simp [hP, hN, h0, h1, h2, h14, h15, h16, hb, hlt]; (try refine ⟨by kernel_rfl, ?_⟩))
        | (with_reducible refine xB_split (by simp [h0, h1, h2, h14, h15, h16, hb, hlt]) (fun hgd => ?_) (fun hgd => ?_) <;> first | (exfalso; simp at hgd; done) | (exfalso; simp at hgd; omega) | simp [hP, hN, h0, h1, h2, h14, h15, h16, hb, hlt])
        | (with_reducible refine yB_split (by simp [h0, h1, h2, h14, h15, h16, hb, hlt]) (fun hgd => ?_) (fun hgd => ?_) <;> first | (exfalso; simp at hgd; done) | (exfalso; simp at hgd; omega) | (simp [hP, hN, h0, h1, h2, h14, h15, h16, hb, hlt] <;> (try refine ⟨by kernel_rfl, ?_⟩)))
        | with_reducible refine xTwo_intro ?_ ?_
        | (with_reducible refine WP.cond' ?_; simp [hP, hN, h0, h1, h2, h14, h15, h16, hb, hlt])
        | (with_reducible refine xCond_split (fun hcd => ?_) (fun hcd => ?_) <;> (try (exfalso; clear hP hN; simp_all; done)) <;> (try (exfalso; simp at *; omega)))
        | with_reducible refine WP.block ?_
        | (with_reducible refine WP.skip ?_; simp [h0, h1, h2, h14, h15, h16, hb, hlt])
        | (with_reducible refine WP.exit ?_; simp [h0, h1, h2, h14, h15, h16, hb, hlt])
        | (with_reducible refine WP.ret ?_; simp [h0, h1, h2, h14, h15, h16, hb, hlt]))
      all_goals simp [he, allZ_done hlt hq]
  · skip
    repeat' (first
      | with_reducible refine WP.seq ?_
      | (with_reducible refine WP.region (hn := []) ?_; simp [hP, hN, he])
      | (with_reducible refine WP.draw (hn := []) (by rw [hP]; kernel_rfl) (by kernel_rfl) ?_; simp [hP, hN, he]; (try refine ⟨by kernel_rfl, ?_⟩))
      | (with_reducible refine xB_split (by simp [he]) (fun hgd => ?_) (fun hgd => ?_) <;> first | (exfalso; simp at hgd; done) | (exfalso; simp at hgd; omega) | simp [hP, hN, he])
      | (with_reducible refine yB_split (by simp [he]) (fun hgd => ?_) (fun hgd => ?_) <;> first | (exfalso; simp at hgd; done) | (exfalso; simp at hgd; omega) | (simp [hP, hN, he] <;> (try refine ⟨by kernel_rfl, ?_⟩)))
      | with_reducible refine xTwo_intro ?_ ?_
      | (with_reducible refine WP.cond' ?_; simp [hP, hN, he])
      | (with_reducible refine xCond_split (fun hcd => ?_) (fun hcd => ?_) <;> (try (exfalso; clear hP hN; simp_all; done)) <;> (try (exfalso; simp at *; omega)))
      | with_reducible refine WP.block ?_
      | (with_reducible refine WP.skip ?_; simp [he])
      | (with_reducible refine WP.exit ?_; simp [he])
      | (with_reducible refine WP.ret ?_; simp [he]))
    all_goals simp [he]
def inJ (j : J) (x : Int) : Bool := decide (j.lo ≤ x) && decide (x ≤ j.hi)
def limJ (j : J) : Int × Int := (j.lo, j.hi)
theorem d111 (j : J) (x : Int) : DetH Try.prog 111 [.pv (encJ j), .pv (Z x)] [] [] (.pv (B (inJ j x))) := by
  refine detP_of Try.func111 rfl (by kernel_rfl) (by simp [Try.f111]) rfl ?_
  intro C hP hN
  simp only [Try.f111] at hN ⊢
  repeat' (first
    | with_reducible refine WP.seq ?_
    | (with_reducible refine WP.region (hn := []) ?_; simp [hP, hN])
    | (with_reducible refine WP.draw (hn := []) (by rw [hP]; kernel_rfl) (by kernel_rfl) ?_; simp [hP, hN]; (try refine ⟨by kernel_rfl, ?_⟩))
    | (with_reducible refine xB_split (by simp) (fun hgd => ?_) (fun hgd => ?_) <;> first | (exfalso; simp at hgd; done) | (exfalso; simp at hgd; omega) | simp [hP, hN])
    | (with_reducible refine yB_split (by simp) (fun hgd => ?_) (fun hgd => ?_) <;> first | (exfalso; simp at hgd; done) | (exfalso; simp at hgd; omega) | (simp [hP, hN] <;> (try refine ⟨by kernel_rfl, ?_⟩)))
    | with_reducible refine xTwo_intro ?_ ?_
    | (with_reducible refine WP.cond' ?_; simp [hP, hN])
    | (with_reducible refine xCond_split (fun hcd => ?_) (fun hcd => ?_) <;> (try (exfalso; clear hP hN; simp_all; done)) <;> (try (exfalso; simp at *; omega)))
    | with_reducible refine WP.block ?_
    | (with_reducible refine WP.skip ?_; simp)
    | (with_reducible refine WP.exit ?_; simp)
    | (with_reducible refine WP.ret ?_; simp))
  all_goals (simp_all [inJ] <;> omega)
theorem d114 (j : J) : DetH Try.prog 114 [.pv (encJ j)] [] [] (.pv (encI (limJ j))) := by
  refine detP_of Try.func114 rfl (by kernel_rfl) (by simp [Try.f114]) rfl ?_
  intro C hP hN
  simp only [Try.f114] at hN ⊢
  repeat' (first
    | with_reducible refine WP.seq ?_
    | (with_reducible refine WP.region (hn := []) ?_; simp [hP, hN])
    | (with_reducible refine WP.draw (hn := []) (by rw [hP]; kernel_rfl) (by kernel_rfl) ?_; simp [hP, hN]; (try refine ⟨by kernel_rfl, ?_⟩))
    | (with_reducible refine xB_split (by simp) (fun hgd => ?_) (fun hgd => ?_) <;> first | (exfalso; simp at hgd; done) | (exfalso; simp at hgd; omega) | simp [hP, hN])
    | (with_reducible refine yB_split (by simp) (fun hgd => ?_) (fun hgd => ?_) <;> first | (exfalso; simp at hgd; done) | (exfalso; simp at hgd; omega) | (simp [hP, hN] <;> (try refine ⟨by kernel_rfl, ?_⟩)))
    | with_reducible refine xTwo_intro ?_ ?_
    | (with_reducible refine WP.cond' ?_; simp [hP, hN])
    | (with_reducible refine xCond_split (fun hcd => ?_) (fun hcd => ?_) <;> (try (exfalso; clear hP hN; simp_all; done)) <;> (try (exfalso; simp at *; omega)))
    | with_reducible refine WP.block ?_
    | (with_reducible refine WP.skip ?_; simp)
    | (with_reducible refine WP.exit ?_; simp)
    | (with_reducible refine WP.ret ?_; simp))
  all_goals simp [limJ]
theorem d113 (j : J) (x : Int × Int) : DetH Try.prog 113 [.pv (encJ j), .pv (encI x)] [] [] (.pv (B (withinI x (limJ j)))) := by
  refine detP_of Try.func113 rfl (by kernel_rfl) (by simp [Try.f113]) rfl ?_
  intro C hP hN
  simp only [Try.f113] at hN ⊢
  repeat' (first
    | with_reducible refine WP.seq ?_
    | (with_reducible refine WP.region (hn := []) ?_; simp [hP, hN, limJ])
    | (with_reducible refine WP.draw (hn := []) (by rw [hP]; kernel_rfl) (by kernel_rfl) ?_; simp [hP, hN, limJ]; (try refine ⟨by kernel_rfl, ?_⟩))
    | (with_reducible refine xB_split (by simp [limJ]) (fun hgd => ?_) (fun hgd => ?_) <;> first | (exfalso; simp at hgd; done) | (exfalso; simp at hgd; omega) | simp [hP, hN, limJ])
    | (with_reducible refine yB_split (by simp [limJ]) (fun hgd => ?_) (fun hgd => ?_) <;> first | (exfalso; simp at hgd; done) | (exfalso; simp at hgd; omega) | (simp [hP, hN, limJ] <;> (try refine ⟨by kernel_rfl, ?_⟩)))
    | (with_reducible refine xC_intro (d114 _) ?_; simp [hP, hN, limJ])
    | (with_reducible refine yC_intro (d114 _) ?_; simp [hP, hN, limJ]; (try refine ⟨by kernel_rfl, ?_⟩))
    | (with_reducible refine xC_intro (hWithin x (j.lo, j.hi)) ?_; simp [hP, hN, limJ])
    | (with_reducible refine yC_intro (hWithin x (j.lo, j.hi)) ?_; simp [hP, hN, limJ]; (try refine ⟨by kernel_rfl, ?_⟩))
    | with_reducible refine xTwo_intro ?_ ?_
    | (with_reducible refine WP.cond' ?_; simp [hP, hN, limJ])
    | (with_reducible refine xCond_split (fun hcd => ?_) (fun hcd => ?_) <;> (try (exfalso; clear hP hN; simp_all; done)) <;> (try (exfalso; simp at *; omega)))
    | with_reducible refine WP.block ?_
    | (with_reducible refine WP.skip ?_; simp [limJ])
    | (with_reducible refine WP.exit ?_; simp [limJ])
    | (with_reducible refine WP.ret ?_; simp [limJ]))
def insideR (js : List J) (ms : List Ms) (c : List Int) : Bool := decide (checkR js ms = 0) && decide (js.length = c.length) && allZ inJ js c
theorem d78 (js : List J) (ms : List Ms) (c : List Int) (hl : js.length ≤ 9223372036854775807) (hm : ms.length ≤ 9223372036854775807) : DetH Try.prog 78 [.pv (encR js ms), .pv (zs c)] [] [] (.pv (B (insideR js ms c))) := by
  have ce := d110 111 inJ js c hl d111
  by_cases hc : checkR js ms = 0
  · have hr : insideR js ms c = (decide (js.length = c.length) && allZ inJ js c) := by simp [insideR, hc]
    rw [hr]
    generalize (decide (js.length = c.length) && allZ inJ js c) = u at *
    refine detP_of Try.func78 rfl (by kernel_rfl) (by simp [Try.f78]) rfl ?_
    intro C hP hN
    simp only [Try.f78] at hN ⊢
    repeat' (first
      | with_reducible refine WP.seq ?_
      | (with_reducible refine WP.region (hn := []) ?_; simp [hP, hN, hc])
      | (with_reducible refine WP.draw (hn := []) (by rw [hP]; kernel_rfl) (by kernel_rfl) ?_; simp [hP, hN, hc]; (try refine ⟨by kernel_rfl, ?_⟩))
      | (with_reducible refine xB_split (by simp [hc]) (fun hgd => ?_) (fun hgd => ?_) <;> first | (exfalso; simp at hgd; done) | (exfalso; simp at hgd; omega) | simp [hP, hN, hc])
      | (with_reducible refine yB_split (by simp [hc]) (fun hgd => ?_) (fun hgd => ?_) <;> first | (exfalso; simp at hgd; done) | (exfalso; simp at hgd; omega) | (simp [hP, hN, hc] <;> (try refine ⟨by kernel_rfl, ?_⟩)))
      | (with_reducible refine xC_intro (d72 js ms hl hm) ?_; simp [hP, hN, hc])
      | (with_reducible refine yC_intro (d72 js ms hl hm) ?_; simp [hP, hN, hc]; (try refine ⟨by kernel_rfl, ?_⟩))
      | (with_reducible refine xC_intro (ce) ?_; simp [hP, hN, hc])
      | (with_reducible refine yC_intro (ce) ?_; simp [hP, hN, hc]; (try refine ⟨by kernel_rfl, ?_⟩))
      | with_reducible refine xTwo_intro ?_ ?_
      | (with_reducible refine WP.cond' ?_; simp [hP, hN, hc])
      | (with_reducible refine xCond_split (fun hcd => ?_) (fun hcd => ?_) <;> (try (exfalso; clear hP hN; simp_all; done)) <;> (try (exfalso; simp at *; omega)))
      | with_reducible refine WP.block ?_
      | (with_reducible refine WP.skip ?_; simp [hc])
      | (with_reducible refine WP.exit ?_; simp [hc])
      | (with_reducible refine WP.ret ?_; simp [hc]))
  · have hr : insideR js ms c = false := by simp [insideR, hc]
    have hcn : (checkR js ms == 0) = false := by simp [hc]
    rw [hr]
    refine detP_of Try.func78 rfl (by kernel_rfl) (by simp [Try.f78]) rfl ?_
    intro C hP hN
    simp only [Try.f78] at hN ⊢
    repeat' (first
      | with_reducible refine WP.seq ?_
      | (with_reducible refine WP.region (hn := []) ?_; simp [hP, hN, hc, hcn])
      | (with_reducible refine WP.draw (hn := []) (by rw [hP]; kernel_rfl) (by kernel_rfl) ?_; simp [hP, hN, hc, hcn]; (try refine ⟨by kernel_rfl, ?_⟩))
      | (with_reducible refine xB_split (by simp [hc, hcn]) (fun hgd => ?_) (fun hgd => ?_) <;> first | (exfalso; simp at hgd; done) | (exfalso; simp at hgd; omega) | simp [hP, hN, hc, hcn])
      | (with_reducible refine yB_split (by simp [hc, hcn]) (fun hgd => ?_) (fun hgd => ?_) <;> first | (exfalso; simp at hgd; done) | (exfalso; simp at hgd; omega) | (simp [hP, hN, hc, hcn] <;> (try refine ⟨by kernel_rfl, ?_⟩)))
      | (with_reducible refine xC_intro (d72 js ms hl hm) ?_; simp [hP, hN, hc, hcn])
      | (with_reducible refine yC_intro (d72 js ms hl hm) ?_; simp [hP, hN, hc, hcn]; (try refine ⟨by kernel_rfl, ?_⟩))
      | (with_reducible refine xC_intro (ce) ?_; simp [hP, hN, hc, hcn])
      | (with_reducible refine yC_intro (ce) ?_; simp [hP, hN, hc, hcn]; (try refine ⟨by kernel_rfl, ?_⟩))
      | with_reducible refine xTwo_intro ?_ ?_
      | (with_reducible refine WP.cond' ?_; simp [hP, hN, hc, hcn])
      | (with_reducible refine xCond_split (fun hcd => ?_) (fun hcd => ?_) <;> (try (exfalso; clear hP hN; simp_all; done)) <;> (try (exfalso; simp at *; omega)))
      | with_reducible refine WP.block ?_
      | (with_reducible refine WP.skip ?_; simp [hc, hcn])
      | (with_reducible refine WP.exit ?_; simp [hc, hcn])
      | (with_reducible refine WP.ret ?_; simp [hc, hcn]))
set_option maxHeartbeats 4000000 in
theorem d79 (js : List J) (ms : List Ms) (c : List Int) (hl : js.length ≤ 9223372036854775807) (hm : ms.length ≤ 9223372036854775807) : DetH Try.prog 79 [.pv (encR js ms), .pv (zs c)] [] [] (.pv (B (insideR js ms c))) := by
  by_cases hc : checkR js ms = 0
  · have hcn : (checkR js ms != 0) = false := by simp [hc]
    by_cases he : js.length = c.length
    · have he' : ((c.length : Int) != js.length) = false := by simp [he]
      have hr : insideR js ms c = allZ inJ js c := by simp [insideR, hc, he]
      rw [hr]
      refine detP_of Try.func79 rfl (by kernel_rfl) (by simp [Try.f79]) rfl ?_
      intro C hP hN
      simp only [Try.f79] at hN ⊢
      repeat' (first
        | with_reducible refine WP.seq ?_
        | (with_reducible refine WP.region (hn := []) ?_; simp [hP, hN, hc, hcn, he'])
        | (with_reducible refine WP.draw (hn := []) (by rw [hP]; kernel_rfl) (by kernel_rfl) ?_; simp [hP, hN, hc, hcn, he']; (try refine ⟨by kernel_rfl, ?_⟩))
        | (with_reducible refine xB_split (by simp [hc, hcn, he']) (fun hgd => ?_) (fun hgd => ?_) <;> first | (exfalso; simp at hgd; done) | (exfalso; simp at hgd; omega) | simp [hP, hN, hc, hcn, he'])
        | (with_reducible refine yB_split (by simp [hc, hcn, he']) (fun hgd => ?_) (fun hgd => ?_) <;> first | (exfalso; simp at hgd; done) | (exfalso; simp at hgd; omega) | (simp [hP, hN, hc, hcn, he'] <;> (try refine ⟨by kernel_rfl, ?_⟩)))
        | (with_reducible refine xC_intro (d73 js ms hl hm) ?_; simp [hP, hN, hc, hcn, he'])
        | (with_reducible refine yC_intro (d73 js ms hl hm) ?_; simp [hP, hN, hc, hcn, he']; (try refine ⟨by kernel_rfl, ?_⟩))
        | with_reducible refine xTwo_intro ?_ ?_
        | (with_reducible refine WP.cond' ?_; simp [hP, hN, hc, hcn, he'])
        | (with_reducible refine xCond_split (fun hcd => ?_) (fun hcd => ?_) <;> (try (exfalso; clear hP hN; simp_all; done)) <;> (try (exfalso; simp at *; omega)))
        | with_reducible refine WP.block ?_
        | (with_reducible refine WP.skip ?_; simp [hc, hcn, he'])
        | (with_reducible refine WP.exit ?_; simp [hc, hcn, he'])
        | (with_reducible refine WP.ret ?_; simp [hc, hcn, he']))
      refine WP.loopN [] js.length (fun i st => st.t 1 = .pv (zs c) ∧ st.t 2 = .ptr 2 0 ∧ st.h 2 = some (.box [.pv (.sl (js.map encJ)), .pv (.sl (ms.map encM))] true false) ∧ st.t 5 = .pv (Z i) ∧ allZt inJ js c i = true) (by simp [allZt, he]) ?_
      rintro i st hi ⟨g1, g2, hb, g5, hq⟩
      by_cases hlt : i < js.length
      · have hw := wr_succ hlt hl
        have hlt' : i < c.length := by omega
        have hF : inJ js[i] c[i] = false → allZ inJ js c = false := allZ_false hlt hlt'
        have hS : inJ js[i] c[i] = true → allZt inJ js c (i + 1) = true := allZ_step hlt hlt' hq
        cases hj : inJ js[i] c[i] with
        | true =>
          have hj' : ¬ c[i] < js[i].lo ∧ ¬ js[i].hi < c[i] := by simp [inJ] at hj; omega
          repeat' (first
            | with_reducible refine WP.seq ?_
            | (with_reducible refine WP.region (hn := []) ?_; simp [hP, hN, g1, g2, hb, g5, hlt, hlt', hw, hj'.1, hj'.2])
            | (with_reducible refine WP.draw (hn := []) (by rw [hP]; kernel_rfl) (by kernel_rfl) ?_; simp [hP, hN, g1, g2, hb, g5, hlt, hlt', hw, hj'.1, hj'.2]; (try refine ⟨by kernel_rfl, ?_⟩))
            | (with_reducible refine xB_split (by simp [g1, g2, hb, g5, hlt, hlt', hw, hj'.1, hj'.2]) (fun hgd => ?_) (fun hgd => ?_) <;> first | (exfalso; simp at hgd; done) | (exfalso; simp at hgd; omega) | simp [hP, hN, g1, g2, hb, g5, hlt, hlt', hw, hj'.1, hj'.2])
            | (with_reducible refine yB_split (by simp [g1, g2, hb, g5, hlt, hlt', hw, hj'.1, hj'.2]) (fun hgd => ?_) (fun hgd => ?_) <;> first | (exfalso; simp at hgd; done) | (exfalso; simp at hgd; omega) | (simp [hP, hN, g1, g2, hb, g5, hlt, hlt', hw, hj'.1, hj'.2] <;> (try refine ⟨by kernel_rfl, ?_⟩)))
            | with_reducible refine xTwo_intro ?_ ?_
            | (with_reducible refine WP.cond' ?_; simp [hP, hN, g1, g2, hb, g5, hlt, hlt', hw, hj'.1, hj'.2])
            | (with_reducible refine xCond_split (fun hcd => ?_) (fun hcd => ?_) <;> (try (exfalso; clear hP hN; simp_all; done)) <;> (try (exfalso; simp at *; omega)))
            | with_reducible refine WP.block ?_
            | (with_reducible refine WP.skip ?_; simp [g1, g2, hb, g5, hlt, hlt', hw, hj'.1, hj'.2])
            | (with_reducible refine WP.exit ?_; simp [g1, g2, hb, g5, hlt, hlt', hw, hj'.1, hj'.2])
            | (with_reducible refine WP.ret ?_; simp [g1, g2, hb, g5, hlt, hlt', hw, hj'.1, hj'.2]))
          all_goals simpa using hS hj
        | false =>
          have hj' : c[i] < js[i].lo ∨ js[i].hi < c[i] := by simp [inJ] at hj; omega
          by_cases hj1 : c[i] < js[i].lo
          · skip
            repeat' (first
              | with_reducible refine WP.seq ?_
              | (with_reducible refine WP.region (hn := []) ?_; simp [hP, hN, g1, g2, hb, g5, hlt, hlt', hw, hj1])
              | (with_reducible refine WP.draw (hn := []) (by rw [hP]; kernel_rfl) (by kernel_rfl) ?_; simp [hP, hN, g1, g2, hb, g5, hlt, hlt', hw, hj1]; (try refine ⟨by kernel_rfl, ?_⟩))
              | (with_reducible refine xB_split (by simp [g1, g2, hb, g5, hlt, hlt', hw, hj1]) (fun hgd => ?_) (fun hgd => ?_) <;> first | (exfalso; simp at hgd; done) | (exfalso; simp at hgd; omega) | simp [hP, hN, g1, g2, hb, g5, hlt, hlt', hw, hj1])
              | (with_reducible refine yB_split (by simp [g1, g2, hb, g5, hlt, hlt', hw, hj1]) (fun hgd => ?_) (fun hgd => ?_) <;> first | (exfalso; simp at hgd; done) | (exfalso; simp at hgd; omega) | (simp [hP, hN, g1, g2, hb, g5, hlt, hlt', hw, hj1] <;> (try refine ⟨by kernel_rfl, ?_⟩)))
              | with_reducible refine xTwo_intro ?_ ?_
              | (with_reducible refine WP.cond' ?_; simp [hP, hN, g1, g2, hb, g5, hlt, hlt', hw, hj1])
              | (with_reducible refine xCond_split (fun hcd => ?_) (fun hcd => ?_) <;> (try (exfalso; clear hP hN; simp_all; done)) <;> (try (exfalso; simp at *; omega)))
              | with_reducible refine WP.block ?_
              | (with_reducible refine WP.skip ?_; simp [g1, g2, hb, g5, hlt, hlt', hw, hj1])
              | (with_reducible refine WP.exit ?_; simp [g1, g2, hb, g5, hlt, hlt', hw, hj1])
              | (with_reducible refine WP.ret ?_; simp [g1, g2, hb, g5, hlt, hlt', hw, hj1]))
            all_goals simp [hF hj]
          · have hj2 : js[i].hi < c[i] := by omega
            repeat' (first
              | with_reducible refine WP.seq ?_
              | (with_reducible refine WP.region (hn := []) ?_; simp [hP, hN, g1, g2, hb, g5, hlt, hlt', hw, hj1, hj2])
              | (with_reducible refine WP.draw (hn := []) (by rw [hP]; kernel_rfl) (by kernel_rfl) ?_; simp [hP, hN, g1, g2, hb, g5, hlt, hlt', hw, hj1, hj2]; (try refine ⟨by kernel_rfl, ?_⟩))
              | (with_reducible refine xB_split (by simp [g1, g2, hb, g5, hlt, hlt', hw, hj1, hj2]) (fun hgd => ?_) (fun hgd => ?_) <;> first | (exfalso; simp at hgd; done) | (exfalso; simp at hgd; omega) | simp [hP, hN, g1, g2, hb, g5, hlt, hlt', hw, hj1, hj2])
              | (with_reducible refine yB_split (by simp [g1, g2, hb, g5, hlt, hlt', hw, hj1, hj2]) (fun hgd => ?_) (fun hgd => ?_) <;> first | (exfalso; simp at hgd; done) | (exfalso; simp at hgd; omega) | (simp [hP, hN, g1, g2, hb, g5, hlt, hlt', hw, hj1, hj2] <;> (try refine ⟨by kernel_rfl, ?_⟩)))
              | with_reducible refine xTwo_intro ?_ ?_
              | (with_reducible refine WP.cond' ?_; simp [hP, hN, g1, g2, hb, g5, hlt, hlt', hw, hj1, hj2])
              | (with_reducible refine xCond_split (fun hcd => ?_) (fun hcd => ?_) <;> (try (exfalso; clear hP hN; simp_all; done)) <;> (try (exfalso; simp at *; omega)))
              | with_reducible refine WP.block ?_
              | (with_reducible refine WP.skip ?_; simp [g1, g2, hb, g5, hlt, hlt', hw, hj1, hj2])
              | (with_reducible refine WP.exit ?_; simp [g1, g2, hb, g5, hlt, hlt', hw, hj1, hj2])
              | (with_reducible refine WP.ret ?_; simp [g1, g2, hb, g5, hlt, hlt', hw, hj1, hj2]))
            all_goals simp [hF hj]
      · have hlt' : ¬ i < c.length := by omega
        repeat' (first
          | with_reducible refine WP.seq ?_
          | (with_reducible refine WP.region (hn := []) ?_; simp [hP, hN, g1, g2, hb, g5, hlt'])
          | (with_reducible refine WP.draw (hn := []) (by rw [hP]; kernel_rfl) (by kernel_rfl) ?_; simp [hP, hN, g1, g2, hb, g5, hlt']; (try refine ⟨by kernel_rfl, ?_⟩))
          | (with_reducible refine xB_split (by simp [g1, g2, hb, g5, hlt']) (fun hgd => ?_) (fun hgd => ?_) <;> first | (exfalso; simp at hgd; done) | (exfalso; simp at hgd; omega) | simp [hP, hN, g1, g2, hb, g5, hlt'])
          | (with_reducible refine yB_split (by simp [g1, g2, hb, g5, hlt']) (fun hgd => ?_) (fun hgd => ?_) <;> first | (exfalso; simp at hgd; done) | (exfalso; simp at hgd; omega) | (simp [hP, hN, g1, g2, hb, g5, hlt'] <;> (try refine ⟨by kernel_rfl, ?_⟩)))
          | with_reducible refine xTwo_intro ?_ ?_
          | (with_reducible refine WP.cond' ?_; simp [hP, hN, g1, g2, hb, g5, hlt'])
          | (with_reducible refine xCond_split (fun hcd => ?_) (fun hcd => ?_) <;> (try (exfalso; clear hP hN; simp_all; done)) <;> (try (exfalso; simp at *; omega)))
          | with_reducible refine WP.block ?_
          | (with_reducible refine WP.skip ?_; simp [g1, g2, hb, g5, hlt'])
          | (with_reducible refine WP.exit ?_; simp [g1, g2, hb, g5, hlt'])
          | (with_reducible refine WP.ret ?_; simp [g1, g2, hb, g5, hlt']))
        all_goals simp [allZ_done hlt hq]
    · have he' : ((c.length : Int) != js.length) = true := by simp; omega
      have hr : insideR js ms c = false := by simp [insideR, he]
      rw [hr]
      refine detP_of Try.func79 rfl (by kernel_rfl) (by simp [Try.f79]) rfl ?_
      intro C hP hN
      simp only [Try.f79] at hN ⊢
      repeat' (first
        | with_reducible refine WP.seq ?_
        | (with_reducible refine WP.region (hn := []) ?_; simp [hP, hN, hc, hcn, he'])
        | (with_reducible refine WP.draw (hn := []) (by rw [hP]; kernel_rfl) (by kernel_rfl) ?_; simp [hP, hN, hc, hcn, he']; (try refine ⟨by kernel_rfl, ?_⟩))
        | (with_reducible refine xB_split (by simp [hc, hcn, he']) (fun hgd => ?_) (fun hgd => ?_) <;> first | (exfalso; simp at hgd; done) | (exfalso; simp at hgd; omega) | simp [hP, hN, hc, hcn, he'])
        | (with_reducible refine yB_split (by simp [hc, hcn, he']) (fun hgd => ?_) (fun hgd => ?_) <;> first | (exfalso; simp at hgd; done) | (exfalso; simp at hgd; omega) | (simp [hP, hN, hc, hcn, he'] <;> (try refine ⟨by kernel_rfl, ?_⟩)))
        | (with_reducible refine xC_intro (d73 js ms hl hm) ?_; simp [hP, hN, hc, hcn, he'])
        | (with_reducible refine yC_intro (d73 js ms hl hm) ?_; simp [hP, hN, hc, hcn, he']; (try refine ⟨by kernel_rfl, ?_⟩))
        | with_reducible refine xTwo_intro ?_ ?_
        | (with_reducible refine WP.cond' ?_; simp [hP, hN, hc, hcn, he'])
        | (with_reducible refine xCond_split (fun hcd => ?_) (fun hcd => ?_) <;> (try (exfalso; clear hP hN; simp_all; done)) <;> (try (exfalso; simp at *; omega)))
        | with_reducible refine WP.block ?_
        | (with_reducible refine WP.skip ?_; simp [hc, hcn, he'])
        | (with_reducible refine WP.exit ?_; simp [hc, hcn, he'])
        | (with_reducible refine WP.ret ?_; simp [hc, hcn, he']))
  · have hr : insideR js ms c = false := by simp [insideR, hc]
    have hcn : (checkR js ms != 0) = true := by simp [hc]
    rw [hr]
    refine detP_of Try.func79 rfl (by kernel_rfl) (by simp [Try.f79]) rfl ?_
    intro C hP hN
    simp only [Try.f79] at hN ⊢
    repeat' (first
      | with_reducible refine WP.seq ?_
      | (with_reducible refine WP.region (hn := []) ?_; simp [hP, hN, hc, hcn])
      | (with_reducible refine WP.draw (hn := []) (by rw [hP]; kernel_rfl) (by kernel_rfl) ?_; simp [hP, hN, hc, hcn]; (try refine ⟨by kernel_rfl, ?_⟩))
      | (with_reducible refine xB_split (by simp [hc, hcn]) (fun hgd => ?_) (fun hgd => ?_) <;> first | (exfalso; simp at hgd; done) | (exfalso; simp at hgd; omega) | simp [hP, hN, hc, hcn])
      | (with_reducible refine yB_split (by simp [hc, hcn]) (fun hgd => ?_) (fun hgd => ?_) <;> first | (exfalso; simp at hgd; done) | (exfalso; simp at hgd; omega) | (simp [hP, hN, hc, hcn] <;> (try refine ⟨by kernel_rfl, ?_⟩)))
      | (with_reducible refine xC_intro (d73 js ms hl hm) ?_; simp [hP, hN, hc, hcn])
      | (with_reducible refine yC_intro (d73 js ms hl hm) ?_; simp [hP, hN, hc, hcn]; (try refine ⟨by kernel_rfl, ?_⟩))
      | with_reducible refine xTwo_intro ?_ ?_
      | (with_reducible refine WP.cond' ?_; simp [hP, hN, hc, hcn])
      | (with_reducible refine xCond_split (fun hcd => ?_) (fun hcd => ?_) <;> (try (exfalso; clear hP hN; simp_all; done)) <;> (try (exfalso; simp at *; omega)))
      | with_reducible refine WP.block ?_
      | (with_reducible refine WP.skip ?_; simp [hc, hcn])
      | (with_reducible refine WP.exit ?_; simp [hc, hcn])
      | (with_reducible refine WP.ret ?_; simp [hc, hcn]))
def limitsR (js : List J) (ms : List Ms) : List (Int × Int) := if checkR js ms = 0 then js.map limJ else []
theorem checkR_len {js : List J} {ms : List Ms} (h : checkR js ms = 0) : 0 < js.length ∧ js.length ≤ 10 := by
  unfold checkR at h
  split at h
  · omega
  · omega
theorem d82 (js : List J) (ms : List Ms) (hl : js.length ≤ 9223372036854775807) (hm : ms.length ≤ 9223372036854775807) : DetH Try.prog 82 [.pv (encR js ms)] [] [] (.pv (iv (limitsR js ms))) := by
  by_cases hc : checkR js ms = 0
  · have hlen := checkR_len hc
    have cm := d115 114 limJ js (by omega) d114
    have hr : limitsR js ms = js.map limJ := by simp [limitsR, hc]
    rw [hr]
    generalize js.map limJ = u at *
    refine detP_of Try.func82 rfl (by kernel_rfl) (by simp [Try.f82]) rfl ?_
    intro C hP hN
    simp only [Try.f82] at hN ⊢
    repeat' (first
      | with_reducible refine WP.seq ?_
      | (with_reducible refine WP.region (hn := []) ?_; simp [hP, hN, hc])
      | (with_reducible refine WP.draw (hn := []) (by rw [hP]; kernel_rfl) (by kernel_rfl) ?_; simp [hP, hN, hc]; (try refine ⟨by kernel_rfl, ?_⟩))
      | (with_reducible refine xB_split (by simp [hc]) (fun hgd => ?_) (fun hgd => ?_) <;> first | (exfalso; simp at hgd; done) | (exfalso; simp at hgd; omega) | simp [hP, hN, hc])
      | (with_reducible refine yB_split (by simp [hc]) (fun hgd => ?_) (fun hgd => ?_) <;> first | (exfalso; simp at hgd; done) | (exfalso; simp at hgd; omega) | (simp [hP, hN, hc] <;> (try refine ⟨by kernel_rfl, ?_⟩)))
      | (with_reducible refine xC_intro (d72 js ms hl hm) ?_; simp [hP, hN, hc])
      | (with_reducible refine yC_intro (d72 js ms hl hm) ?_; simp [hP, hN, hc]; (try refine ⟨by kernel_rfl, ?_⟩))
      | (with_reducible refine xC_intro (cm) ?_; simp [hP, hN, hc])
      | (with_reducible refine yC_intro (cm) ?_; simp [hP, hN, hc]; (try refine ⟨by kernel_rfl, ?_⟩))
      | with_reducible refine xTwo_intro ?_ ?_
      | (with_reducible refine WP.cond' ?_; simp [hP, hN, hc])
      | (with_reducible refine xCond_split (fun hcd => ?_) (fun hcd => ?_) <;> (try (exfalso; clear hP hN; simp_all; done)) <;> (try (exfalso; simp at *; omega)))
      | with_reducible refine WP.block ?_
      | (with_reducible refine WP.skip ?_; simp [hc])
      | (with_reducible refine WP.exit ?_; simp [hc])
      | (with_reducible refine WP.ret ?_; simp [hc]))
  · have hr : limitsR js ms = [] := by simp [limitsR, hc]
    have hcn : (checkR js ms != 0) = true := by simp [hc]
    rw [hr]
    refine detP_of Try.func82 rfl (by kernel_rfl) (by simp [Try.f82]) rfl ?_
    intro C hP hN
    simp only [Try.f82] at hN ⊢
    repeat' (first
      | with_reducible refine WP.seq ?_
      | (with_reducible refine WP.region (hn := []) ?_; simp [hP, hN, hc, hcn])
      | (with_reducible refine WP.draw (hn := []) (by rw [hP]; kernel_rfl) (by kernel_rfl) ?_; simp [hP, hN, hc, hcn]; (try refine ⟨by kernel_rfl, ?_⟩))
      | (with_reducible refine xB_split (by simp [hc, hcn]) (fun hgd => ?_) (fun hgd => ?_) <;> first | (exfalso; simp at hgd; done) | (exfalso; simp at hgd; omega) | simp [hP, hN, hc, hcn])
      | (with_reducible refine yB_split (by simp [hc, hcn]) (fun hgd => ?_) (fun hgd => ?_) <;> first | (exfalso; simp at hgd; done) | (exfalso; simp at hgd; omega) | (simp [hP, hN, hc, hcn] <;> (try refine ⟨by kernel_rfl, ?_⟩)))
      | (with_reducible refine xC_intro (d72 js ms hl hm) ?_; simp [hP, hN, hc, hcn])
      | (with_reducible refine yC_intro (d72 js ms hl hm) ?_; simp [hP, hN, hc, hcn]; (try refine ⟨by kernel_rfl, ?_⟩))
      | with_reducible refine xTwo_intro ?_ ?_
      | (with_reducible refine WP.cond' ?_; simp [hP, hN, hc, hcn])
      | (with_reducible refine xCond_split (fun hcd => ?_) (fun hcd => ?_) <;> (try (exfalso; clear hP hN; simp_all; done)) <;> (try (exfalso; simp at *; omega)))
      | with_reducible refine WP.block ?_
      | (with_reducible refine WP.skip ?_; simp [hc, hcn])
      | (with_reducible refine WP.exit ?_; simp [hc, hcn])
      | (with_reducible refine WP.ret ?_; simp [hc, hcn]))
set_option maxHeartbeats 4000000 in
theorem d83 (js : List J) (ms : List Ms) (hl : js.length ≤ 9223372036854775807) (hm : ms.length ≤ 9223372036854775807) : DetH Try.prog 83 [.pv (encR js ms)] [] [] (.pv (iv (limitsR js ms))) := by
  by_cases hc : checkR js ms = 0
  · have hlen := checkR_len hc
    have hcn : (checkR js ms != 0) = false := by simp [hc]
    have hr : limitsR js ms = js.map limJ := by simp [limitsR, hc]
    rw [hr]
    refine detP_of Try.func83 rfl (by kernel_rfl) (by simp [Try.f83]) rfl ?_
    intro C hP hN
    simp only [Try.f83] at hN ⊢
    repeat' (first
      | with_reducible refine WP.seq ?_
      | (with_reducible refine WP.region (hn := [3]) ?_; simp [hP, hN, hc, hcn])
      | (with_reducible refine WP.draw (hn := [3]) (by rw [hP]; kernel_rfl) (by kernel_rfl) ?_; simp [hP, hN, hc, hcn]; (try refine ⟨by kernel_rfl, ?_⟩))
      | (with_reducible refine xB_split (by simp [hc, hcn]) (fun hgd => ?_) (fun hgd => ?_) <;> first | (exfalso; simp at hgd; done) | (exfalso; simp at hgd; omega) | simp [hP, hN, hc, hcn])
      | (with_reducible refine yB_split (by simp [hc, hcn]) (fun hgd => ?_) (fun hgd => ?_) <;> first | (exfalso; simp at hgd; done) | (exfalso; simp at hgd; omega) | (simp [hP, hN, hc, hcn] <;> (try refine ⟨by kernel_rfl, ?_⟩)))
      | (with_reducible refine xC_intro (d73 js ms hl hm) ?_; simp [hP, hN, hc, hcn])
      | (with_reducible refine yC_intro (d73 js ms hl hm) ?_; simp [hP, hN, hc, hcn]; (try refine ⟨by kernel_rfl, ?_⟩))
      | with_reducible refine xTwo_intro ?_ ?_
      | (with_reducible refine WP.cond' ?_; simp [hP, hN, hc, hcn])
      | (with_reducible refine xCond_split (fun hcd => ?_) (fun hcd => ?_) <;> (try (exfalso; clear hP hN; simp_all; done)) <;> (try (exfalso; simp at *; omega)))
      | with_reducible refine WP.block ?_
      | (with_reducible refine WP.skip ?_; simp [hc, hcn])
      | (with_reducible refine WP.exit ?_; simp [hc, hcn])
      | (with_reducible refine WP.ret ?_; simp [hc, hcn]))
    refine WP.loopN [] js.length (fun i st => st.t 1 = .ptr 1 0 ∧ st.h 1 = some (.box [.pv (.sl (js.map encJ)), .pv (.sl (ms.map encM))] true false) ∧ st.t 4 = .pv (Z i) ∧ st.t 3 = .arr 3 i ∧ st.h 3 = some (.row 37 2 ((js.map fun j => I j.lo j.hi).take i) 0)) (by simp) ?_
    rintro i st hi ⟨g1, hb1, g4, g3, hb3⟩
    by_cases hlt : i < js.length
    · have hw := wr_succ hlt hl
      have hz : min i js.length = i := by omega
      have hs := take_map_step (f := fun j : J => I j.lo j.hi) hlt
      repeat' (first
        | with_reducible refine WP.seq ?_
        | (with_reducible refine WP.region (hn := []) ?_; simp [hP, hN, g1, hb1, g4, g3, hb3, hlt, hw, hz, hs, show (i + 1) * 16 ≤ 140737488355328 by omega, show i + 1 ≤ 9223372036854775807 by omega])
        | (with_reducible refine WP.draw (hn := []) (by rw [hP]; kernel_rfl) (by kernel_rfl) ?_; simp [hP, hN, g1, hb1, g4, g3, hb3, hlt, hw, hz, hs, show (i + 1) * 16 ≤ 140737488355328 by omega, show i + 1 ≤ 9223372036854775807 by omega]; (try refine ⟨by kernel_rfl, ?_⟩))
        | (with_reducible refine xB_split (by simp [g1, hb1, g4, g3, hb3, hlt, hw, hz, hs, show (i + 1) * 16 ≤ 140737488355328 by omega, show i + 1 ≤ 9223372036854775807 by omega]) (fun hgd => ?_) (fun hgd => ?_) <;> first | (exfalso; simp at hgd; done) | (exfalso; simp at hgd; omega) | simp [hP, hN, g1, hb1, g4, g3, hb3, hlt, hw, hz, hs, show (i + 1) * 16 ≤ 140737488355328 by omega, show i + 1 ≤ 9223372036854775807 by omega])
        | (with_reducible refine yB_split (by simp [g1, hb1, g4, g3, hb3, hlt, hw, hz, hs, show (i + 1) * 16 ≤ 140737488355328 by omega, show i + 1 ≤ 9223372036854775807 by omega]) (fun hgd => ?_) (fun hgd => ?_) <;> first | (exfalso; simp at hgd; done) | (exfalso; simp at hgd; omega) | (simp [hP, hN, g1, hb1, g4, g3, hb3, hlt, hw, hz, hs, show (i + 1) * 16 ≤ 140737488355328 by omega, show i + 1 ≤ 9223372036854775807 by omega] <;> (try refine ⟨by kernel_rfl, ?_⟩)))
        | with_reducible refine xTwo_intro ?_ ?_
        | (with_reducible refine WP.cond' ?_; simp [hP, hN, g1, hb1, g4, g3, hb3, hlt, hw, hz, hs, show (i + 1) * 16 ≤ 140737488355328 by omega, show i + 1 ≤ 9223372036854775807 by omega])
        | (with_reducible refine xCond_split (fun hcd => ?_) (fun hcd => ?_) <;> (try (exfalso; clear hP hN; simp_all; done)) <;> (try (exfalso; simp at *; omega)))
        | with_reducible refine WP.block ?_
        | (with_reducible refine WP.skip ?_; simp [g1, hb1, g4, g3, hb3, hlt, hw, hz, hs, show (i + 1) * 16 ≤ 140737488355328 by omega, show i + 1 ≤ 9223372036854775807 by omega])
        | (with_reducible refine WP.exit ?_; simp [g1, hb1, g4, g3, hb3, hlt, hw, hz, hs, show (i + 1) * 16 ≤ 140737488355328 by omega, show i + 1 ≤ 9223372036854775807 by omega])
        | (with_reducible refine WP.ret ?_; simp [g1, hb1, g4, g3, hb3, hlt, hw, hz, hs, show (i + 1) * 16 ≤ 140737488355328 by omega, show i + 1 ≤ 9223372036854775807 by omega]))
    · have hz : min i js.length = i := by omega
      repeat' (first
        | with_reducible refine WP.seq ?_
        | (with_reducible refine WP.region (hn := []) ?_; simp [hP, hN, g1, hb1, g4, g3, hb3, hlt, hz])
        | (with_reducible refine WP.draw (hn := []) (by rw [hP]; kernel_rfl) (by kernel_rfl) ?_; simp [hP, hN, g1, hb1, g4, g3, hb3, hlt, hz]; (try refine ⟨by kernel_rfl, ?_⟩))
        | (with_reducible refine xB_split (by simp [g1, hb1, g4, g3, hb3, hlt, hz]) (fun hgd => ?_) (fun hgd => ?_) <;> first | (exfalso; simp at hgd; done) | (exfalso; simp at hgd; omega) | simp [hP, hN, g1, hb1, g4, g3, hb3, hlt, hz])
        | (with_reducible refine yB_split (by simp [g1, hb1, g4, g3, hb3, hlt, hz]) (fun hgd => ?_) (fun hgd => ?_) <;> first | (exfalso; simp at hgd; done) | (exfalso; simp at hgd; omega) | (simp [hP, hN, g1, hb1, g4, g3, hb3, hlt, hz] <;> (try refine ⟨by kernel_rfl, ?_⟩)))
        | with_reducible refine xTwo_intro ?_ ?_
        | (with_reducible refine WP.cond' ?_; simp [hP, hN, g1, hb1, g4, g3, hb3, hlt, hz])
        | (with_reducible refine xCond_split (fun hcd => ?_) (fun hcd => ?_) <;> (try (exfalso; clear hP hN; simp_all; done)) <;> (try (exfalso; simp at *; omega)))
        | with_reducible refine WP.block ?_
        | (with_reducible refine WP.skip ?_; simp [g1, hb1, g4, g3, hb3, hlt, hz])
        | (with_reducible refine WP.exit ?_; simp [g1, hb1, g4, g3, hb3, hlt, hz])
        | (with_reducible refine WP.ret ?_; simp [g1, hb1, g4, g3, hb3, hlt, hz]))
      have htd : List.take i (js.map fun j => I j.lo j.hi) = js.map fun j => I j.lo j.hi := List.take_of_length_le (by simp; omega)
      first | exact htd | (simp only [List.map_map]; exact htd) | (simp [limJ]; exact htd)
  · have hr : limitsR js ms = [] := by simp [limitsR, hc]
    have hcn : (checkR js ms != 0) = true := by simp [hc]
    rw [hr]
    refine detP_of Try.func83 rfl (by kernel_rfl) (by simp [Try.f83]) rfl ?_
    intro C hP hN
    simp only [Try.f83] at hN ⊢
    repeat' (first
      | with_reducible refine WP.seq ?_
      | (with_reducible refine WP.region (hn := []) ?_; simp [hP, hN, hc, hcn])
      | (with_reducible refine WP.draw (hn := []) (by rw [hP]; kernel_rfl) (by kernel_rfl) ?_; simp [hP, hN, hc, hcn]; (try refine ⟨by kernel_rfl, ?_⟩))
      | (with_reducible refine xB_split (by simp [hc, hcn]) (fun hgd => ?_) (fun hgd => ?_) <;> first | (exfalso; simp at hgd; done) | (exfalso; simp at hgd; omega) | simp [hP, hN, hc, hcn])
      | (with_reducible refine yB_split (by simp [hc, hcn]) (fun hgd => ?_) (fun hgd => ?_) <;> first | (exfalso; simp at hgd; done) | (exfalso; simp at hgd; omega) | (simp [hP, hN, hc, hcn] <;> (try refine ⟨by kernel_rfl, ?_⟩)))
      | (with_reducible refine xC_intro (d73 js ms hl hm) ?_; simp [hP, hN, hc, hcn])
      | (with_reducible refine yC_intro (d73 js ms hl hm) ?_; simp [hP, hN, hc, hcn]; (try refine ⟨by kernel_rfl, ?_⟩))
      | with_reducible refine xTwo_intro ?_ ?_
      | (with_reducible refine WP.cond' ?_; simp [hP, hN, hc, hcn])
      | (with_reducible refine xCond_split (fun hcd => ?_) (fun hcd => ?_) <;> (try (exfalso; clear hP hN; simp_all; done)) <;> (try (exfalso; simp at *; omega)))
      | with_reducible refine WP.block ?_
      | (with_reducible refine WP.skip ?_; simp [hc, hcn])
      | (with_reducible refine WP.exit ?_; simp [hc, hcn])
      | (with_reducible refine WP.ret ?_; simp [hc, hcn]))
def insideB (js : List J) (ms : List Ms) (b : List (Int × Int)) : Bool := decide (checkR js ms = 0) && decide (js.length = b.length) && allZ (fun j x => withinI x (limJ j)) js b
theorem d80 (js : List J) (ms : List Ms) (b : List (Int × Int)) (hl : js.length ≤ 9223372036854775807) (hm : ms.length ≤ 9223372036854775807) : DetH Try.prog 80 [.pv (encR js ms), .pv (iv b)] [] [] (.pv (B (insideB js ms b))) := by
  have ce := d112 113 (fun j x => withinI x (limJ j)) js b hl d113
  by_cases hc : checkR js ms = 0
  · have hr : insideB js ms b = (decide (js.length = b.length) && allZ (fun j x => withinI x (limJ j)) js b) := by simp [insideB, hc]
    rw [hr]
    generalize (decide (js.length = b.length) && allZ (fun j x => withinI x (limJ j)) js b) = u at *
    refine detP_of Try.func80 rfl (by kernel_rfl) (by simp [Try.f80]) rfl ?_
    intro C hP hN
    simp only [Try.f80] at hN ⊢
    repeat' (first
      | with_reducible refine WP.seq ?_
      | (with_reducible refine WP.region (hn := []) ?_; simp [hP, hN, hc])
      | (with_reducible refine WP.draw (hn := []) (by rw [hP]; kernel_rfl) (by kernel_rfl) ?_; simp [hP, hN, hc]; (try refine ⟨by kernel_rfl, ?_⟩))
      | (with_reducible refine xB_split (by simp [hc]) (fun hgd => ?_) (fun hgd => ?_) <;> first | (exfalso; simp at hgd; done) | (exfalso; simp at hgd; omega) | simp [hP, hN, hc])
      | (with_reducible refine yB_split (by simp [hc]) (fun hgd => ?_) (fun hgd => ?_) <;> first | (exfalso; simp at hgd; done) | (exfalso; simp at hgd; omega) | (simp [hP, hN, hc] <;> (try refine ⟨by kernel_rfl, ?_⟩)))
      | (with_reducible refine xC_intro (d72 js ms hl hm) ?_; simp [hP, hN, hc])
      | (with_reducible refine yC_intro (d72 js ms hl hm) ?_; simp [hP, hN, hc]; (try refine ⟨by kernel_rfl, ?_⟩))
      | (with_reducible refine xC_intro (ce) ?_; simp [hP, hN, hc])
      | (with_reducible refine yC_intro (ce) ?_; simp [hP, hN, hc]; (try refine ⟨by kernel_rfl, ?_⟩))
      | with_reducible refine xTwo_intro ?_ ?_
      | (with_reducible refine WP.cond' ?_; simp [hP, hN, hc])
      | (with_reducible refine xCond_split (fun hcd => ?_) (fun hcd => ?_) <;> (try (exfalso; clear hP hN; simp_all; done)) <;> (try (exfalso; simp at *; omega)))
      | with_reducible refine WP.block ?_
      | (with_reducible refine WP.skip ?_; simp [hc])
      | (with_reducible refine WP.exit ?_; simp [hc])
      | (with_reducible refine WP.ret ?_; simp [hc]))
  · have hr : insideB js ms b = false := by simp [insideB, hc]
    have hcn : (checkR js ms == 0) = false := by simp [hc]
    rw [hr]
    refine detP_of Try.func80 rfl (by kernel_rfl) (by simp [Try.f80]) rfl ?_
    intro C hP hN
    simp only [Try.f80] at hN ⊢
    repeat' (first
      | with_reducible refine WP.seq ?_
      | (with_reducible refine WP.region (hn := []) ?_; simp [hP, hN, hc, hcn])
      | (with_reducible refine WP.draw (hn := []) (by rw [hP]; kernel_rfl) (by kernel_rfl) ?_; simp [hP, hN, hc, hcn]; (try refine ⟨by kernel_rfl, ?_⟩))
      | (with_reducible refine xB_split (by simp [hc, hcn]) (fun hgd => ?_) (fun hgd => ?_) <;> first | (exfalso; simp at hgd; done) | (exfalso; simp at hgd; omega) | simp [hP, hN, hc, hcn])
      | (with_reducible refine yB_split (by simp [hc, hcn]) (fun hgd => ?_) (fun hgd => ?_) <;> first | (exfalso; simp at hgd; done) | (exfalso; simp at hgd; omega) | (simp [hP, hN, hc, hcn] <;> (try refine ⟨by kernel_rfl, ?_⟩)))
      | (with_reducible refine xC_intro (d72 js ms hl hm) ?_; simp [hP, hN, hc, hcn])
      | (with_reducible refine yC_intro (d72 js ms hl hm) ?_; simp [hP, hN, hc, hcn]; (try refine ⟨by kernel_rfl, ?_⟩))
      | (with_reducible refine xC_intro (ce) ?_; simp [hP, hN, hc, hcn])
      | (with_reducible refine yC_intro (ce) ?_; simp [hP, hN, hc, hcn]; (try refine ⟨by kernel_rfl, ?_⟩))
      | with_reducible refine xTwo_intro ?_ ?_
      | (with_reducible refine WP.cond' ?_; simp [hP, hN, hc, hcn])
      | (with_reducible refine xCond_split (fun hcd => ?_) (fun hcd => ?_) <;> (try (exfalso; clear hP hN; simp_all; done)) <;> (try (exfalso; simp at *; omega)))
      | with_reducible refine WP.block ?_
      | (with_reducible refine WP.skip ?_; simp [hc, hcn])
      | (with_reducible refine WP.exit ?_; simp [hc, hcn])
      | (with_reducible refine WP.ret ?_; simp [hc, hcn]))
theorem d84 (c : List Int) (hl : c.length ≤ 16777216) : DetH Try.prog 84 [.pv (zs c)] [] [] (.pv (iv (boxL c))) := by
  cases hv : allB smallB c with
  | false =>
    have hr : boxL c = [] := by simp [boxL, hv]
    rw [hr]
    refine detP_of Try.func84 rfl (by kernel_rfl) (by simp [Try.f84]) rfl ?_
    intro C hP hN
    simp only [Try.f84] at hN ⊢
    repeat' (first
      | with_reducible refine WP.seq ?_
      | (with_reducible refine WP.region (hn := []) ?_; simp [hP, hN, hv])
      | (with_reducible refine WP.draw (hn := []) (by rw [hP]; kernel_rfl) (by kernel_rfl) ?_; simp [hP, hN, hv]; (try refine ⟨by kernel_rfl, ?_⟩))
      | (with_reducible refine xB_split (by simp [hv]) (fun hgd => ?_) (fun hgd => ?_) <;> first | (exfalso; simp at hgd; done) | (exfalso; simp at hgd; omega) | simp [hP, hN, hv])
      | (with_reducible refine yB_split (by simp [hv]) (fun hgd => ?_) (fun hgd => ?_) <;> first | (exfalso; simp at hgd; done) | (exfalso; simp at hgd; omega) | (simp [hP, hN, hv] <;> (try refine ⟨by kernel_rfl, ?_⟩)))
      | (with_reducible refine xC_intro (d71 _ (big hl)) ?_; simp [hP, hN, hv])
      | (with_reducible refine yC_intro (d71 _ (big hl)) ?_; simp [hP, hN, hv]; (try refine ⟨by kernel_rfl, ?_⟩))
      | with_reducible refine xTwo_intro ?_ ?_
      | (with_reducible refine WP.cond' ?_; simp [hP, hN, hv])
      | (with_reducible refine xCond_split (fun hcd => ?_) (fun hcd => ?_) <;> (try (exfalso; clear hP hN; simp_all; done)) <;> (try (exfalso; simp at *; omega)))
      | with_reducible refine WP.block ?_
      | (with_reducible refine WP.skip ?_; simp [hv])
      | (with_reducible refine WP.exit ?_; simp [hv])
      | (with_reducible refine WP.ret ?_; simp [hv]))
  | true =>
    have hr : boxL c = c.map fun x => (min (max x (-2147483648)) 2147483648, min (max x (-2147483648)) 2147483648) := by
      rw [boxL, hv]
      simp only [if_true]
      refine List.map_congr_left (fun x hx => ?_)
      have := small_of hv x hx
      unfold small at this
      refine Prod.ext ?_ ?_ <;> simp <;> omega
    have cm := d116 117 (fun x => (min (max x (-2147483648)) 2147483648, min (max x (-2147483648)) 2147483648)) c hl d117
    rw [← hr] at cm
    generalize boxL c = u at *
    refine detP_of Try.func84 rfl (by kernel_rfl) (by simp [Try.f84]) rfl ?_
    intro C hP hN
    simp only [Try.f84] at hN ⊢
    repeat' (first
      | with_reducible refine WP.seq ?_
      | (with_reducible refine WP.region (hn := []) ?_; simp [hP, hN, hv])
      | (with_reducible refine WP.draw (hn := []) (by rw [hP]; kernel_rfl) (by kernel_rfl) ?_; simp [hP, hN, hv]; (try refine ⟨by kernel_rfl, ?_⟩))
      | (with_reducible refine xB_split (by simp [hv]) (fun hgd => ?_) (fun hgd => ?_) <;> first | (exfalso; simp at hgd; done) | (exfalso; simp at hgd; omega) | simp [hP, hN, hv])
      | (with_reducible refine yB_split (by simp [hv]) (fun hgd => ?_) (fun hgd => ?_) <;> first | (exfalso; simp at hgd; done) | (exfalso; simp at hgd; omega) | (simp [hP, hN, hv] <;> (try refine ⟨by kernel_rfl, ?_⟩)))
      | (with_reducible refine xC_intro (d71 _ (big hl)) ?_; simp [hP, hN, hv])
      | (with_reducible refine yC_intro (d71 _ (big hl)) ?_; simp [hP, hN, hv]; (try refine ⟨by kernel_rfl, ?_⟩))
      | (with_reducible refine xC_intro (cm) ?_; simp [hP, hN, hv])
      | (with_reducible refine yC_intro (cm) ?_; simp [hP, hN, hv]; (try refine ⟨by kernel_rfl, ?_⟩))
      | with_reducible refine xTwo_intro ?_ ?_
      | (with_reducible refine WP.cond' ?_; simp [hP, hN, hv])
      | (with_reducible refine xCond_split (fun hcd => ?_) (fun hcd => ?_) <;> (try (exfalso; clear hP hN; simp_all; done)) <;> (try (exfalso; simp at *; omega)))
      | with_reducible refine WP.block ?_
      | (with_reducible refine WP.skip ?_; simp [hv])
      | (with_reducible refine WP.exit ?_; simp [hv])
      | (with_reducible refine WP.ret ?_; simp [hv]))
end Go.Ab
