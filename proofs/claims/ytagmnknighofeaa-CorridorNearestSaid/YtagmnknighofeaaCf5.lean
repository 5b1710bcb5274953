/- Contracts: appending loops, Halve, awake. -/
import Derived.Test.YtagmnknighofeaaCf4
set_option linter.all false
namespace Go.Ab
open Go.Proofs
theorem take_len {α : Type} {xs : List α} {i : Nat} (h : i ≤ xs.length) : (xs.take i).length = i := by simp; omega
theorem d41 (xs ys : List (Int × Int)) (hl : xs.length ≤ 16777216) (hm : ys.length ≤ 16777216) : DetH Try.prog 41 [.pv (iv xs), .pv (iv ys)] [] [] (.pv (iv (hullL xs ys))) := by
  refine detP_of Try.func41 rfl (by kernel_rfl) (by simp [Try.f41]) rfl ?_
  intro C hP hN
  simp only [Try.f41] at hN ⊢
  cases hv : allB vI xs with
  | false =>
    repeat' (first
      | with_reducible refine WP.seq ?_
      | (with_reducible refine WP.region (hn := []) ?_; simp -implicitDefEqProofs [hP, hN, hv])
      | (with_reducible refine WP.draw (hn := []) (by rw [hP]; kernel_rfl) (by kernel_rfl) ?_; simp -implicitDefEqProofs [hP, hN, hv]; (try refine ⟨by kernel_rfl, ?_⟩))
      | (with_reducible refine xB_split (by simp [hv]) (fun hgd => ?_) (fun hgd => ?_) <;> first | (exfalso; simp at hgd; done) | (exfalso; simp at hgd; omega) | simp -implicitDefEqProofs [hP, hN, hv])
      | (with_reducible refine yB_split (by simp [hv]) (fun hgd => ?_) (fun hgd => ?_) <;> first | (exfalso; simp at hgd; done) | (exfalso; simp at hgd; omega) | (simp -implicitDefEqProofs [hP, hN, hv] <;> (try refine ⟨by kernel_rfl, ?_⟩)))
      | (with_reducible refine xC_intro (d82 _ (big hl)) ?_; simp -implicitDefEqProofs [hP, hN, hv])
      | (with_reducible refine yC_intro (d82 _ (big hl)) ?_; simp -implicitDefEqProofs [hP, hN, hv]; (try refine ⟨by kernel_rfl, ?_⟩))
      | (with_reducible refine xC_intro (d82 _ (big hm)) ?_; simp -implicitDefEqProofs [hP, hN, hv])
      | (with_reducible refine yC_intro (d82 _ (big hm)) ?_; simp -implicitDefEqProofs [hP, hN, hv]; (try refine ⟨by kernel_rfl, ?_⟩))
      | with_reducible refine xTwo_intro ?_ ?_
      | (with_reducible refine WP.cond' ?_; simp -implicitDefEqProofs [hP, hN, hv])
      | (with_reducible refine xCond_split (fun hcd => ?_) (fun hcd => ?_) <;> (try (exfalso; clear hP hN; simp_all; done)) <;> (try (exfalso; simp at *; omega)))
      | with_reducible refine WP.block ?_
      | (with_reducible refine WP.skip ?_; simp [hv])
      | (with_reducible refine WP.exit ?_; simp [hv])
      | (with_reducible refine WP.ret ?_; simp [hv]))
    all_goals simp [hullL, hv]
  | true =>
    cases hu : allB vI ys with
    | false =>
      repeat' (first
        | with_reducible refine WP.seq ?_
        | (with_reducible refine WP.region (hn := []) ?_; simp -implicitDefEqProofs [hP, hN, hv, hu])
        | (with_reducible refine WP.draw (hn := []) (by rw [hP]; kernel_rfl) (by kernel_rfl) ?_; simp -implicitDefEqProofs [hP, hN, hv, hu]; (try refine ⟨by kernel_rfl, ?_⟩))
        | (with_reducible refine xB_split (by simp [hv, hu]) (fun hgd => ?_) (fun hgd => ?_) <;> first | (exfalso; simp at hgd; done) | (exfalso; simp at hgd; omega) | simp -implicitDefEqProofs [hP, hN, hv, hu])
        | (with_reducible refine yB_split (by simp [hv, hu]) (fun hgd => ?_) (fun hgd => ?_) <;> first | (exfalso; simp at hgd; done) | (exfalso; simp at hgd; omega) | (simp -implicitDefEqProofs [hP, hN, hv, hu] <;> (try refine ⟨by kernel_rfl, ?_⟩)))
        | (with_reducible refine xC_intro (d82 _ (big hl)) ?_; simp -implicitDefEqProofs [hP, hN, hv, hu])
        | (with_reducible refine yC_intro (d82 _ (big hl)) ?_; simp -implicitDefEqProofs [hP, hN, hv, hu]; (try refine ⟨by kernel_rfl, ?_⟩))
        | (with_reducible refine xC_intro (d82 _ (big hm)) ?_; simp -implicitDefEqProofs [hP, hN, hv, hu])
        | (with_reducible refine yC_intro (d82 _ (big hm)) ?_; simp -implicitDefEqProofs [hP, hN, hv, hu]; (try refine ⟨by kernel_rfl, ?_⟩))
        | with_reducible refine xTwo_intro ?_ ?_
        | (with_reducible refine WP.cond' ?_; simp -implicitDefEqProofs [hP, hN, hv, hu])
        | (with_reducible refine xCond_split (fun hcd => ?_) (fun hcd => ?_) <;> (try (exfalso; clear hP hN; simp_all; done)) <;> (try (exfalso; simp at *; omega)))
        | with_reducible refine WP.block ?_
        | (with_reducible refine WP.skip ?_; simp [hv, hu])
        | (with_reducible refine WP.exit ?_; simp [hv, hu])
        | (with_reducible refine WP.ret ?_; simp [hv, hu]))
      all_goals simp [hullL, hv, hu]
    | true =>
      by_cases he : xs.length = ys.length
      · skip
        repeat' (first
          | with_reducible refine WP.seq ?_
          | (with_reducible refine WP.region (hn := [5]) ?_; simp -implicitDefEqProofs [hP, hN, hv, hu, he])
          | (with_reducible refine WP.draw (hn := [5]) (by rw [hP]; kernel_rfl) (by kernel_rfl) ?_; simp -implicitDefEqProofs [hP, hN, hv, hu, he]; (try refine ⟨by kernel_rfl, ?_⟩))
          | (with_reducible refine xB_split (by simp [hv, hu, he]) (fun hgd => ?_) (fun hgd => ?_) <;> first | (exfalso; simp at hgd; done) | (exfalso; simp at hgd; omega) | simp -implicitDefEqProofs [hP, hN, hv, hu, he])
          | (with_reducible refine yB_split (by simp [hv, hu, he]) (fun hgd => ?_) (fun hgd => ?_) <;> first | (exfalso; simp at hgd; done) | (exfalso; simp at hgd; omega) | (simp -implicitDefEqProofs [hP, hN, hv, hu, he] <;> (try refine ⟨by kernel_rfl, ?_⟩)))
          | (with_reducible refine xC_intro (d82 _ (big hl)) ?_; simp -implicitDefEqProofs [hP, hN, hv, hu, he])
          | (with_reducible refine yC_intro (d82 _ (big hl)) ?_; simp -implicitDefEqProofs [hP, hN, hv, hu, he]; (try refine ⟨by kernel_rfl, ?_⟩))
          | (with_reducible refine xC_intro (d82 _ (big hm)) ?_; simp -implicitDefEqProofs [hP, hN, hv, hu, he])
          | (with_reducible refine yC_intro (d82 _ (big hm)) ?_; simp -implicitDefEqProofs [hP, hN, hv, hu, he]; (try refine ⟨by kernel_rfl, ?_⟩))
          | with_reducible refine xTwo_intro ?_ ?_
          | (with_reducible refine WP.cond' ?_; simp -implicitDefEqProofs [hP, hN, hv, hu, he])
          | (with_reducible refine xCond_split (fun hcd => ?_) (fun hcd => ?_) <;> (try (exfalso; clear hP hN; simp_all; done)) <;> (try (exfalso; simp at *; omega)))
          | with_reducible refine WP.block ?_
          | (with_reducible refine WP.skip ?_; simp [hv, hu, he])
          | (with_reducible refine WP.exit ?_; simp [hv, hu, he])
          | (with_reducible refine WP.ret ?_; simp [hv, hu, he]))
        refine WP.loopN [38] xs.length (fun i st => st.t 0 = .pv (iv xs) ∧ st.t 1 = .pv (iv ys) ∧ st.t 6 = .pv (Z i) ∧ st.t 5 = .arr 5 i ∧ st.h 38 = none ∧ st.h 5 = some (.row 46 2 ((List.zipWith (fun x y => encI (hullI x y)) xs ys).take i) 0)) (by simp) ?_
        rintro i st hi ⟨h0, h1, h6, h5, hb, hr⟩
        by_cases hlt : i < xs.length
        · have hw := wr_succ hlt (big hl)
          have hlt' : i < ys.length := by omega
          have hz : min i (min xs.length ys.length) = i := by omega
          have hs := take_zip_step (f := fun x y => encI (hullI x y)) hlt hlt'
          repeat' (first
            | with_reducible refine WP.seq ?_
            | (with_reducible refine WP.region (hn := []) ?_; simp -implicitDefEqProofs [hP, hN, h0, h1, h6, h5, hb, hr, hlt, hlt', hw, hz, hs, show (i + 1) * 16 ≤ 140737488355328 by omega, show i + 1 ≤ 9223372036854775807 by omega])
            | (with_reducible refine WP.draw (hn := []) (by rw [hP]; kernel_rfl) (by kernel_rfl) ?_; simp -implicitDefEqProofs [hP, hN, h0, h1, h6, h5, hb, hr, hlt, hlt', hw, hz, hs, show (i + 1) * 16 ≤ 140737488355328 by omega, show i + 1 ≤ 9223372036854775807 by omega]; (try refine ⟨by kernel_rfl, ?_⟩))
            | (with_reducible refine xB_split (by simp [h0, h1, h6, h5, hb, hr, hlt, hlt', hw, hz, hs, show (i + 1) * 16 ≤ 140737488355328 by omega, show i + 1 ≤ 9223372036854775807 by omega]) (fun hgd => ?_) (fun hgd => ?_) <;> first | (exfalso; simp at hgd; done) | (exfalso; simp at hgd; omega) | simp -implicitDefEqProofs [hP, hN, h0, h1, h6, h5, hb, hr, hlt, hlt', hw, hz, hs, show (i + 1) * 16 ≤ 140737488355328 by omega, show i + 1 ≤ 9223372036854775807 by omega])
            | (with_reducible refine yB_split (by simp [h0, h1, h6, h5, hb, hr, hlt, hlt', hw, hz, hs, show (i + 1) * 16 ≤ 140737488355328 by omega, show i + 1 ≤ 9223372036854775807 by omega]) (fun hgd => ?_) (fun hgd => ?_) <;> first | (exfalso; simp at hgd; done) | (exfalso; simp at hgd; omega) | (simp -implicitDefEqProofs [hP, hN, h0, h1, h6, h5, hb, hr, hlt, hlt', hw, hz, hs, show (i + 1) * 16 ≤ 140737488355328 by omega, show i + 1 ≤ 9223372036854775807 by omega] <;> (try refine ⟨by kernel_rfl, ?_⟩)))
            | (with_reducible refine xC_intro (d98 _ _ _ _) ?_; simp -implicitDefEqProofs [hP, hN, h0, h1, h6, h5, hb, hr, hlt, hlt', hw, hz, hs, show (i + 1) * 16 ≤ 140737488355328 by omega, show i + 1 ≤ 9223372036854775807 by omega])
            | (with_reducible refine yC_intro (d98 _ _ _ _) ?_; simp -implicitDefEqProofs [hP, hN, h0, h1, h6, h5, hb, hr, hlt, hlt', hw, hz, hs, show (i + 1) * 16 ≤ 140737488355328 by omega, show i + 1 ≤ 9223372036854775807 by omega]; (try refine ⟨by kernel_rfl, ?_⟩))
            | with_reducible refine xTwo_intro ?_ ?_
            | (with_reducible refine WP.cond' ?_; simp -implicitDefEqProofs [hP, hN, h0, h1, h6, h5, hb, hr, hlt, hlt', hw, hz, hs, show (i + 1) * 16 ≤ 140737488355328 by omega, show i + 1 ≤ 9223372036854775807 by omega])
            | (with_reducible refine xCond_split (fun hcd => ?_) (fun hcd => ?_) <;> (try (exfalso; clear hP hN; simp_all; done)) <;> (try (exfalso; simp at *; omega)))
            | with_reducible refine WP.block ?_
            | (with_reducible refine WP.skip ?_; simp [h0, h1, h6, h5, hb, hr, hlt, hlt', hw, hz, hs, show (i + 1) * 16 ≤ 140737488355328 by omega, show i + 1 ≤ 9223372036854775807 by omega])
            | (with_reducible refine WP.exit ?_; simp [h0, h1, h6, h5, hb, hr, hlt, hlt', hw, hz, hs, show (i + 1) * 16 ≤ 140737488355328 by omega, show i + 1 ≤ 9223372036854775807 by omega])
            | (with_reducible refine WP.ret ?_; simp [h0, h1, h6, h5, hb, hr, hlt, hlt', hw, hz, hs, show (i + 1) * 16 ≤ 140737488355328 by omega, show i + 1 ≤ 9223372036854775807 by omega]))
        · have hz : min i (min xs.length ys.length) = i := by omega
          repeat' (first
            | with_reducible refine WP.seq ?_
            | (with_reducible refine WP.region (hn := []) ?_; simp -implicitDefEqProofs [hP, hN, h0, h1, h6, h5, hb, hr, hlt, hz])
            | (with_reducible refine WP.draw (hn := []) (by rw [hP]; kernel_rfl) (by kernel_rfl) ?_; simp -implicitDefEqProofs [hP, hN, h0, h1, h6, h5, hb, hr, hlt, hz]; (try refine ⟨by kernel_rfl, ?_⟩))
            | (with_reducible refine xB_split (by simp [h0, h1, h6, h5, hb, hr, hlt, hz]) (fun hgd => ?_) (fun hgd => ?_) <;> first | (exfalso; simp at hgd; done) | (exfalso; simp at hgd; omega) | simp -implicitDefEqProofs [hP, hN, h0, h1, h6, h5, hb, hr, hlt, hz])
            | (with_reducible refine yB_split (by simp [h0, h1, h6, h5, hb, hr, hlt, hz]) (fun hgd => ?_) (fun hgd => ?_) <;> first | (exfalso; simp at hgd; done) | (exfalso; simp at hgd; omega) | (simp -implicitDefEqProofs [hP, hN, h0, h1, h6, h5, hb, hr, hlt, hz] <;> (try refine ⟨by kernel_rfl, ?_⟩)))
            | with_reducible refine xTwo_intro ?_ ?_
            | (with_reducible refine WP.cond' ?_; simp -implicitDefEqProofs [hP, hN, h0, h1, h6, h5, hb, hr, hlt, hz])
            | (with_reducible refine xCond_split (fun hcd => ?_) (fun hcd => ?_) <;> (try (exfalso; clear hP hN; simp_all; done)) <;> (try (exfalso; simp at *; omega)))
            | with_reducible refine WP.block ?_
            | (with_reducible refine WP.skip ?_; simp [h0, h1, h6, h5, hb, hr, hlt, hz])
            | (with_reducible refine WP.exit ?_; simp [h0, h1, h6, h5, hb, hr, hlt, hz])
            | (with_reducible refine WP.ret ?_; simp [h0, h1, h6, h5, hb, hr, hlt, hz]))
          simp [hullL, hv, hu, he]
          exact take_done (by simp; omega) hlt
      · skip
        repeat' (first
          | with_reducible refine WP.seq ?_
          | (with_reducible refine WP.region (hn := []) ?_; simp -implicitDefEqProofs [hP, hN, hv, hu, he])
          | (with_reducible refine WP.draw (hn := []) (by rw [hP]; kernel_rfl) (by kernel_rfl) ?_; simp -implicitDefEqProofs [hP, hN, hv, hu, he]; (try refine ⟨by kernel_rfl, ?_⟩))
          | (with_reducible refine xB_split (by simp [hv, hu, he]) (fun hgd => ?_) (fun hgd => ?_) <;> first | (exfalso; simp at hgd; done) | (exfalso; simp at hgd; omega) | simp -implicitDefEqProofs [hP, hN, hv, hu, he])
          | (with_reducible refine yB_split (by simp [hv, hu, he]) (fun hgd => ?_) (fun hgd => ?_) <;> first | (exfalso; simp at hgd; done) | (exfalso; simp at hgd; omega) | (simp -implicitDefEqProofs [hP, hN, hv, hu, he] <;> (try refine ⟨by kernel_rfl, ?_⟩)))
          | (with_reducible refine xC_intro (d82 _ (big hl)) ?_; simp -implicitDefEqProofs [hP, hN, hv, hu, he])
          | (with_reducible refine yC_intro (d82 _ (big hl)) ?_; simp -implicitDefEqProofs [hP, hN, hv, hu, he]; (try refine ⟨by kernel_rfl, ?_⟩))
          | (with_reducible refine xC_intro (d82 _ (big hm)) ?_; simp -implicitDefEqProofs [hP, hN, hv, hu, he])
          | (with_reducible refine yC_intro (d82 _ (big hm)) ?_; simp -implicitDefEqProofs [hP, hN, hv, hu, he]; (try refine ⟨by kernel_rfl, ?_⟩))
          | with_reducible refine xTwo_intro ?_ ?_
          | (with_reducible refine WP.cond' ?_; simp -implicitDefEqProofs [hP, hN, hv, hu, he])
          | (with_reducible refine xCond_split (fun hcd => ?_) (fun hcd => ?_) <;> (try (exfalso; clear hP hN; simp_all; done)) <;> (try (exfalso; simp at *; omega)))
          | with_reducible refine WP.block ?_
          | (with_reducible refine WP.skip ?_; simp [hv, hu, he])
          | (with_reducible refine WP.exit ?_; simp [hv, hu, he])
          | (with_reducible refine WP.ret ?_; simp [hv, hu, he]))
        all_goals simp [hullL, hv, hu, he]
end Go.Ab
