/- Contracts: the rest of config's reference; boxes and lists compared. -/
import Derived.Test.YtagmnknighofeaaCf16
set_option linter.all false
namespace Go.Ab
open Go.Proofs
theorem valid_range {x : Int × Int} (h : validB x.1 x.2 = true) : -2147483648 ≤ x.1 ∧ x.1 ≤ x.2 ∧ x.2 ≤ 2147483648 := by
  simp only [validB, Bool.and_eq_true, decide_eq_true_eq] at h; omega
theorem d105 (x : Int × Int) : DetH Try.prog 105 [.pv (encI x)] [] [] (.pv (Z (midI x))) := by
  cases hv : validB x.1 x.2 with
  | false =>
    have hr : midI x = 0 := by simp [midI, hv]
    rw [hr]
    refine detP_of Try.func105 rfl (by kernel_rfl) (by simp [Try.f105]) rfl ?_
    intro C hP hN
    simp only [Try.f105] at hN ⊢
    repeat' (first
      | with_reducible refine WP.seq ?_
      | (with_reducible refine WP.region (hn := []) ?_; simp -implicitDefEqProofs [hP, hN, hv])
      | (with_reducible refine WP.draw (hn := []) (by rw [hP]; kernel_rfl) (by kernel_rfl) ?_; simp -implicitDefEqProofs [hP, hN, hv]; (try refine ⟨by kernel_rfl, ?_⟩))
      | (with_reducible refine xB_split (by simp [hv]) (fun hgd => ?_) (fun hgd => ?_) <;> first | (exfalso; simp at hgd; done) | (exfalso; simp at hgd; omega) | simp -implicitDefEqProofs [hP, hN, hv])
      | (with_reducible refine yB_split (by simp [hv]) (fun hgd => ?_) (fun hgd => ?_) <;> first | (exfalso; simp at hgd; done) | (exfalso; simp at hgd; omega) | (simp -implicitDefEqProofs [hP, hN, hv] <;> (try refine ⟨by kernel_rfl, ?_⟩)))
      | (with_reducible refine xC_intro (d115 _ _) ?_; simp -implicitDefEqProofs [hP, hN, hv])
      | (with_reducible refine yC_intro (d115 _ _) ?_; simp -implicitDefEqProofs [hP, hN, hv]; (try refine ⟨by kernel_rfl, ?_⟩))
      | with_reducible refine xTwo_intro ?_ ?_
      | (with_reducible refine WP.cond' ?_; simp -implicitDefEqProofs [hP, hN, hv])
      | (with_reducible refine xCond_split (fun hcd => ?_) (fun hcd => ?_) <;> (try (exfalso; clear hP hN; simp_all; done)) <;> (try (exfalso; simp at *; omega)))
      | with_reducible refine WP.block ?_
      | (with_reducible refine WP.skip ?_; simp [hv])
      | (with_reducible refine WP.exit ?_; simp [hv])
      | (with_reducible refine WP.ret ?_; simp [hv]))
  | true =>
    have hb := valid_range hv
    have hr : midI x = floorI (wr (x.1 + x.2)) 2 := by
      rw [midI, hv]
      simp only [if_true]
      rw [wr_id (by omega) (by omega), floorI_eq (by decide) (by omega) (by omega), Int.fdiv_eq_ediv_of_nonneg _ (by decide)]
    rw [hr]
    refine detP_of Try.func105 rfl (by kernel_rfl) (by simp [Try.f105]) rfl ?_
    intro C hP hN
    simp only [Try.f105] at hN ⊢
    repeat' (first
      | with_reducible refine WP.seq ?_
      | (with_reducible refine WP.region (hn := []) ?_; simp -implicitDefEqProofs [hP, hN, hv])
      | (with_reducible refine WP.draw (hn := []) (by rw [hP]; kernel_rfl) (by kernel_rfl) ?_; simp -implicitDefEqProofs [hP, hN, hv]; (try refine ⟨by kernel_rfl, ?_⟩))
      | (with_reducible refine xB_split (by simp [hv]) (fun hgd => ?_) (fun hgd => ?_) <;> first | (exfalso; simp at hgd; done) | (exfalso; simp at hgd; omega) | simp -implicitDefEqProofs [hP, hN, hv])
      | (with_reducible refine yB_split (by simp [hv]) (fun hgd => ?_) (fun hgd => ?_) <;> first | (exfalso; simp at hgd; done) | (exfalso; simp at hgd; omega) | (simp -implicitDefEqProofs [hP, hN, hv] <;> (try refine ⟨by kernel_rfl, ?_⟩)))
      | (with_reducible refine xC_intro (d115 _ _) ?_; simp -implicitDefEqProofs [hP, hN, hv])
      | (with_reducible refine yC_intro (d115 _ _) ?_; simp -implicitDefEqProofs [hP, hN, hv]; (try refine ⟨by kernel_rfl, ?_⟩))
      | (with_reducible refine xC_intro (d121 _ _ (by decide)) ?_; simp -implicitDefEqProofs [hP, hN, hv])
      | (with_reducible refine yC_intro (d121 _ _ (by decide)) ?_; simp -implicitDefEqProofs [hP, hN, hv]; (try refine ⟨by kernel_rfl, ?_⟩))
      | with_reducible refine xTwo_intro ?_ ?_
      | (with_reducible refine WP.cond' ?_; simp -implicitDefEqProofs [hP, hN, hv])
      | (with_reducible refine xCond_split (fun hcd => ?_) (fun hcd => ?_) <;> (try (exfalso; clear hP hN; simp_all; done)) <;> (try (exfalso; simp at *; omega)))
      | with_reducible refine WP.block ?_
      | (with_reducible refine WP.skip ?_; simp [hv])
      | (with_reducible refine WP.exit ?_; simp [hv])
      | (with_reducible refine WP.ret ?_; simp [hv]))
set_option maxHeartbeats 4000000 in
theorem d46 (xs : List (Int × Int)) (hl : xs.length ≤ 16777216) : DetH Try.prog 46 [.pv (iv xs)] [] [] (.pv (zs (middleL xs))) := by
  cases hv : allB vI xs with
  | false =>
    have hr : middleL xs = [] := by simp [middleL, hv]
    rw [hr]
    refine detP_of Try.func46 rfl (by kernel_rfl) (by simp [Try.f46]) rfl ?_
    intro C hP hN
    simp only [Try.f46] at hN ⊢
    repeat' (first
      | with_reducible refine WP.seq ?_
      | (with_reducible refine WP.region (hn := []) ?_; simp -implicitDefEqProofs [hP, hN, hv])
      | (with_reducible refine WP.draw (hn := []) (by rw [hP]; kernel_rfl) (by kernel_rfl) ?_; simp -implicitDefEqProofs [hP, hN, hv]; (try refine ⟨by kernel_rfl, ?_⟩))
      | (with_reducible refine xB_split (by simp [hv]) (fun hgd => ?_) (fun hgd => ?_) <;> first | (exfalso; simp at hgd; done) | (exfalso; simp at hgd; omega) | simp -implicitDefEqProofs [hP, hN, hv])
      | (with_reducible refine yB_split (by simp [hv]) (fun hgd => ?_) (fun hgd => ?_) <;> first | (exfalso; simp at hgd; done) | (exfalso; simp at hgd; omega) | (simp -implicitDefEqProofs [hP, hN, hv] <;> (try refine ⟨by kernel_rfl, ?_⟩)))
      | (with_reducible refine xC_intro (d82 _ (big hl)) ?_; simp -implicitDefEqProofs [hP, hN, hv])
      | (with_reducible refine yC_intro (d82 _ (big hl)) ?_; simp -implicitDefEqProofs [hP, hN, hv]; (try refine ⟨by kernel_rfl, ?_⟩))
      | with_reducible refine xTwo_intro ?_ ?_
      | (with_reducible refine WP.cond' ?_; simp -implicitDefEqProofs [hP, hN, hv])
      | (with_reducible refine xCond_split (fun hcd => ?_) (fun hcd => ?_) <;> (try (exfalso; clear hP hN; simp_all; done)) <;> (try (exfalso; simp at *; omega)))
      | with_reducible refine WP.block ?_
      | (with_reducible refine WP.skip ?_; simp [hv])
      | (with_reducible refine WP.exit ?_; simp [hv])
      | (with_reducible refine WP.ret ?_; simp [hv]))
  | true =>
    have hr : middleL xs = xs.map midI := by simp [middleL, hv]
    rw [hr]
    refine detP_of Try.func46 rfl (by kernel_rfl) (by simp [Try.f46]) rfl ?_
    intro C hP hN
    simp only [Try.f46] at hN ⊢
    repeat' (first
      | with_reducible refine WP.seq ?_
      | (with_reducible refine WP.region (hn := [3]) ?_; simp -implicitDefEqProofs [hP, hN, hv])
      | (with_reducible refine WP.draw (hn := [3]) (by rw [hP]; kernel_rfl) (by kernel_rfl) ?_; simp -implicitDefEqProofs [hP, hN, hv]; (try refine ⟨by kernel_rfl, ?_⟩))
      | (with_reducible refine xB_split (by simp [hv]) (fun hgd => ?_) (fun hgd => ?_) <;> first | (exfalso; simp at hgd; done) | (exfalso; simp at hgd; omega) | simp -implicitDefEqProofs [hP, hN, hv])
      | (with_reducible refine yB_split (by simp [hv]) (fun hgd => ?_) (fun hgd => ?_) <;> first | (exfalso; simp at hgd; done) | (exfalso; simp at hgd; omega) | (simp -implicitDefEqProofs [hP, hN, hv] <;> (try refine ⟨by kernel_rfl, ?_⟩)))
      | (with_reducible refine xC_intro (d82 _ (big hl)) ?_; simp -implicitDefEqProofs [hP, hN, hv])
      | (with_reducible refine yC_intro (d82 _ (big hl)) ?_; simp -implicitDefEqProofs [hP, hN, hv]; (try refine ⟨by kernel_rfl, ?_⟩))
      | with_reducible refine xTwo_intro ?_ ?_
      | (with_reducible refine WP.cond' ?_; simp -implicitDefEqProofs [hP, hN, hv])
      | (with_reducible refine xCond_split (fun hcd => ?_) (fun hcd => ?_) <;> (try (exfalso; clear hP hN; simp_all; done)) <;> (try (exfalso; simp at *; omega)))
      | with_reducible refine WP.block ?_
      | (with_reducible refine WP.skip ?_; simp [hv])
      | (with_reducible refine WP.exit ?_; simp [hv])
      | (with_reducible refine WP.ret ?_; simp [hv]))
    refine WP.loopN [] xs.length (fun i st => st.t 0 = .pv (iv xs) ∧ st.t 4 = .pv (Z i) ∧ st.t 3 = .arr 3 i ∧ st.h 3 = some (.row 2 1 ((xs.map fun x => Z (midI x)).take i) 0)) (by simp) ?_
    rintro i st hi ⟨g0, g4, g3, hb⟩
    by_cases hlt : i < xs.length
    · have hw := wr_succ hlt (big hl)
      have hz : min i xs.length = i := by omega
      have hs := take_map_step (f := fun x => Z (midI x)) hlt
      repeat' (first
        | with_reducible refine WP.seq ?_
        | (with_reducible refine WP.region (hn := []) ?_; simp -implicitDefEqProofs [hP, hN, g0, g4, g3, hb, hlt, hw, hz, hs, show (i + 1) * 8 ≤ 140737488355328 by omega, show i + 1 ≤ 9223372036854775807 by omega])
        | (with_reducible refine WP.draw (hn := []) (by rw [hP]; kernel_rfl) (by kernel_rfl) ?_; simp -implicitDefEqProofs [hP, hN, g0, g4, g3, hb, hlt, hw, hz, hs, show (i + 1) * 8 ≤ 140737488355328 by omega, show i + 1 ≤ 9223372036854775807 by omega]; (try refine ⟨by kernel_rfl, ?_⟩))
        | (with_reducible refine xB_split (by simp [g0, g4, g3, hb, hlt, hw, hz, hs, show (i + 1) * 8 ≤ 140737488355328 by omega, show i + 1 ≤ 9223372036854775807 by omega]) (fun hgd => ?_) (fun hgd => ?_) <;> first | (exfalso; simp at hgd; done) | (exfalso; simp at hgd; omega) | simp -implicitDefEqProofs [hP, hN, g0, g4, g3, hb, hlt, hw, hz, hs, show (i + 1) * 8 ≤ 140737488355328 by omega, show i + 1 ≤ 9223372036854775807 by omega])
        | (with_reducible refine yB_split (by simp [g0, g4, g3, hb, hlt, hw, hz, hs, show (i + 1) * 8 ≤ 140737488355328 by omega, show i + 1 ≤ 9223372036854775807 by omega]) (fun hgd => ?_) (fun hgd => ?_) <;> first | (exfalso; simp at hgd; done) | (exfalso; simp at hgd; omega) | (simp -implicitDefEqProofs [hP, hN, g0, g4, g3, hb, hlt, hw, hz, hs, show (i + 1) * 8 ≤ 140737488355328 by omega, show i + 1 ≤ 9223372036854775807 by omega] <;> (try refine ⟨by kernel_rfl, ?_⟩)))
        | (with_reducible refine xC_intro (d105 _) ?_; simp -implicitDefEqProofs [hP, hN, g0, g4, g3, hb, hlt, hw, hz, hs, show (i + 1) * 8 ≤ 140737488355328 by omega, show i + 1 ≤ 9223372036854775807 by omega])
        | (with_reducible refine yC_intro (d105 _) ?_; simp -implicitDefEqProofs [hP, hN, g0, g4, g3, hb, hlt, hw, hz, hs, show (i + 1) * 8 ≤ 140737488355328 by omega, show i + 1 ≤ 9223372036854775807 by omega]; (try refine ⟨by kernel_rfl, ?_⟩))
        | with_reducible refine xTwo_intro ?_ ?_
        | (with_reducible refine WP.cond' ?_; simp -implicitDefEqProofs [hP, hN, g0, g4, g3, hb, hlt, hw, hz, hs, show (i + 1) * 8 ≤ 140737488355328 by omega, show i + 1 ≤ 9223372036854775807 by omega])
        | (with_reducible refine xCond_split (fun hcd => ?_) (fun hcd => ?_) <;> (try (exfalso; clear hP hN; simp_all; done)) <;> (try (exfalso; simp at *; omega)))
        | with_reducible refine WP.block ?_
        | (with_reducible refine WP.skip ?_; simp [g0, g4, g3, hb, hlt, hw, hz, hs, show (i + 1) * 8 ≤ 140737488355328 by omega, show i + 1 ≤ 9223372036854775807 by omega])
        | (with_reducible refine WP.exit ?_; simp [g0, g4, g3, hb, hlt, hw, hz, hs, show (i + 1) * 8 ≤ 140737488355328 by omega, show i + 1 ≤ 9223372036854775807 by omega])
        | (with_reducible refine WP.ret ?_; simp [g0, g4, g3, hb, hlt, hw, hz, hs, show (i + 1) * 8 ≤ 140737488355328 by omega, show i + 1 ≤ 9223372036854775807 by omega]))
    · have hz : min i xs.length = i := by omega
      repeat' (first
        | with_reducible refine WP.seq ?_
        | (with_reducible refine WP.region (hn := []) ?_; simp -implicitDefEqProofs [hP, hN, g0, g4, g3, hb, hlt, hz])
        | (with_reducible refine WP.draw (hn := []) (by rw [hP]; kernel_rfl) (by kernel_rfl) ?_; simp -implicitDefEqProofs [hP, hN, g0, g4, g3, hb, hlt, hz]; (try refine ⟨by kernel_rfl, ?_⟩))
        | (with_reducible refine xB_split (by simp [g0, g4, g3, hb, hlt, hz]) (fun hgd => ?_) (fun hgd => ?_) <;> first | (exfalso; simp at hgd; done) | (exfalso; simp at hgd; omega) | simp -implicitDefEqProofs [hP, hN, g0, g4, g3, hb, hlt, hz])
        | (with_reducible refine yB_split (by simp [g0, g4, g3, hb, hlt, hz]) (fun hgd => ?_) (fun hgd => ?_) <;> first | (exfalso; simp at hgd; done) | (exfalso; simp at hgd; omega) | (simp -implicitDefEqProofs [hP, hN, g0, g4, g3, hb, hlt, hz] <;> (try refine ⟨by kernel_rfl, ?_⟩)))
        | with_reducible refine xTwo_intro ?_ ?_
        | (with_reducible refine WP.cond' ?_; simp -implicitDefEqProofs [hP, hN, g0, g4, g3, hb, hlt, hz])
        | (with_reducible refine xCond_split (fun hcd => ?_) (fun hcd => ?_) <;> (try (exfalso; clear hP hN; simp_all; done)) <;> (try (exfalso; simp at *; omega)))
        | with_reducible refine WP.block ?_
        | (with_reducible refine WP.skip ?_; simp [g0, g4, g3, hb, hlt, hz])
        | (with_reducible refine WP.exit ?_; simp [g0, g4, g3, hb, hlt, hz])
        | (with_reducible refine WP.ret ?_; simp [g0, g4, g3, hb, hlt, hz]))
      exact take_done (by simp) hlt
theorem clamp_eq {x : Int × Int} (h : validB x.1 x.2 = true) (y : Int) : max x.1 (min y x.2) = clampI x y := by
  have := valid_range h
  unfold clampI; omega
set_option maxHeartbeats 4000000 in
theorem d45 (xs : List (Int × Int)) (ys : List Int) (hl : xs.length ≤ 16777216) : DetH Try.prog 45 [.pv (iv xs), .pv (zs ys)] [] [] (.pv (zs (clampL xs ys))) := by
  cases hv : allB vI xs with
  | false =>
    have hr : clampL xs ys = [] := by simp [clampL, hv]
    rw [hr]
    refine detP_of Try.func45 rfl (by kernel_rfl) (by simp [Try.f45]) rfl ?_
    intro C hP hN
    simp only [Try.f45] at hN ⊢
    repeat' (first
      | with_reducible refine WP.seq ?_
      | (with_reducible refine WP.region (hn := []) ?_; simp -implicitDefEqProofs [hP, hN, hv])
      | (with_reducible refine WP.draw (hn := []) (by rw [hP]; kernel_rfl) (by kernel_rfl) ?_; simp -implicitDefEqProofs [hP, hN, hv]; (try refine ⟨by kernel_rfl, ?_⟩))
      | (with_reducible refine xB_split (by simp [hv]) (fun hgd => ?_) (fun hgd => ?_) <;> first | (exfalso; simp at hgd; done) | (exfalso; simp at hgd; omega) | simp -implicitDefEqProofs [hP, hN, hv])
      | (with_reducible refine yB_split (by simp [hv]) (fun hgd => ?_) (fun hgd => ?_) <;> first | (exfalso; simp at hgd; done) | (exfalso; simp at hgd; omega) | (simp -implicitDefEqProofs [hP, hN, hv] <;> (try refine ⟨by kernel_rfl, ?_⟩)))
      | (with_reducible refine xC_intro (d82 _ (big hl)) ?_; simp -implicitDefEqProofs [hP, hN, hv])
      | (with_reducible refine yC_intro (d82 _ (big hl)) ?_; simp -implicitDefEqProofs [hP, hN, hv]; (try refine ⟨by kernel_rfl, ?_⟩))
      | with_reducible refine xTwo_intro ?_ ?_
      | (with_reducible refine WP.cond' ?_; simp -implicitDefEqProofs [hP, hN, hv])
      | (with_reducible refine xCond_split (fun hcd => ?_) (fun hcd => ?_) <;> (try (exfalso; clear hP hN; simp_all; done)) <;> (try (exfalso; simp at *; omega)))
      | with_reducible refine WP.block ?_
      | (with_reducible refine WP.skip ?_; simp [hv])
      | (with_reducible refine WP.exit ?_; simp [hv])
      | (with_reducible refine WP.ret ?_; simp [hv]))
  | true =>
    by_cases he : xs.length = ys.length
    · have he' : ((xs.length : Int) != ys.length) = false := by simp [he]
      have hr : clampL xs ys = List.zipWith clampI xs ys := by simp [clampL, hv, he]
      rw [hr]
      refine detP_of Try.func45 rfl (by kernel_rfl) (by simp [Try.f45]) rfl ?_
      intro C hP hN
      simp only [Try.f45] at hN ⊢
      repeat' (first
        | with_reducible refine WP.seq ?_
        | (with_reducible refine WP.region (hn := [5]) ?_; simp -implicitDefEqProofs [hP, hN, hv, he'])
        | (with_reducible refine WP.draw (hn := [5]) (by rw [hP]; kernel_rfl) (by kernel_rfl) ?_; simp -implicitDefEqProofs [hP, hN, hv, he']; (try refine ⟨by kernel_rfl, ?_⟩))
        | (with_reducible refine xB_split (by simp [hv, he']) (fun hgd => ?_) (fun hgd => ?_) <;> first | (exfalso; simp at hgd; done) | (exfalso; simp at hgd; omega) | simp -implicitDefEqProofs [hP, hN, hv, he'])
        | (with_reducible refine yB_split (by simp [hv, he']) (fun hgd => ?_) (fun hgd => ?_) <;> first | (exfalso; simp at hgd; done) | (exfalso; simp at hgd; omega) | (simp -implicitDefEqProofs [hP, hN, hv, he'] <;> (try refine ⟨by kernel_rfl, ?_⟩)))
        | (with_reducible refine xC_intro (d82 _ (big hl)) ?_; simp -implicitDefEqProofs [hP, hN, hv, he'])
        | (with_reducible refine yC_intro (d82 _ (big hl)) ?_; simp -implicitDefEqProofs [hP, hN, hv, he']; (try refine ⟨by kernel_rfl, ?_⟩))
        | with_reducible refine xTwo_intro ?_ ?_
        | (with_reducible refine WP.cond' ?_; simp -implicitDefEqProofs [hP, hN, hv, he'])
        | (with_reducible refine xCond_split (fun hcd => ?_) (fun hcd => ?_) <;> (try (exfalso; clear hP hN; simp_all; done)) <;> (try (exfalso; simp at *; omega)))
        | with_reducible refine WP.block ?_
        | (with_reducible refine WP.skip ?_; simp [hv, he'])
        | (with_reducible refine WP.exit ?_; simp [hv, he'])
        | (with_reducible refine WP.ret ?_; simp [hv, he']))
      refine WP.loopN [] xs.length (fun i st => st.t 0 = .pv (iv xs) ∧ st.t 1 = .pv (zs ys) ∧ st.t 6 = .pv (Z i) ∧ st.t 5 = .arr 5 i ∧ st.h 5 = some (.row 2 1 ((List.zipWith (fun x y => Z (clampI x y)) xs ys).take i) 0)) (by simp) ?_
      rintro i st hi ⟨g0, g1, g6, g5, hb⟩
      by_cases hlt : i < xs.length
      · have hw := wr_succ hlt (big hl)
        have hlt' : i < ys.length := by omega
        have hz : min i (min xs.length ys.length) = i := by omega
        have hs := take_zip_step (f := fun x y => Z (clampI x y)) hlt hlt'
        have hc := clamp_eq (allB_iff.1 hv _ (List.getElem_mem hlt)) ys[i]
        repeat' (first
          | with_reducible refine WP.seq ?_
          | (with_reducible refine WP.region (hn := []) ?_; simp -implicitDefEqProofs [hP, hN, g0, g1, g6, g5, hb, hlt, hlt', hw, hz, hc, hs, show (i + 1) * 8 ≤ 140737488355328 by omega, show i + 1 ≤ 9223372036854775807 by omega])
          | (with_reducible refine WP.draw (hn := []) (by rw [hP]; kernel_rfl) (by kernel_rfl) ?_; simp -implicitDefEqProofs [hP, hN, g0, g1, g6, g5, hb, hlt, hlt', hw, hz, hc, hs, show (i + 1) * 8 ≤ 140737488355328 by omega, show i + 1 ≤ 9223372036854775807 by omega]; (try refine ⟨by kernel_rfl, ?_⟩))
          | (with_reducible refine xB_split (by simp [g0, g1, g6, g5, hb, hlt, hlt', hw, hz, hc, hs, show (i + 1) * 8 ≤ 140737488355328 by omega, show i + 1 ≤ 9223372036854775807 by omega]) (fun hgd => ?_) (fun hgd => ?_) <;> first | (exfalso; simp at hgd; done) | (exfalso; simp at hgd; omega) | simp -implicitDefEqProofs [hP, hN, g0, g1, g6, g5, hb, hlt, hlt', hw, hz, hc, hs, show (i + 1) * 8 ≤ 140737488355328 by omega, show i + 1 ≤ 9223372036854775807 by omega])
          | (with_reducible refine yB_split (by simp [g0, g1, g6, g5, hb, hlt, hlt', hw, hz, hc, hs, show (i + 1) * 8 ≤ 140737488355328 by omega, show i + 1 ≤ 9223372036854775807 by omega]) (fun hgd => ?_) (fun hgd => ?_) <;> first | (exfalso; simp at hgd; done) | (exfalso; simp at hgd; omega) | (simp -implicitDefEqProofs [hP, hN, g0, g1, g6, g5, hb, hlt, hlt', hw, hz, hc, hs, show (i + 1) * 8 ≤ 140737488355328 by omega, show i + 1 ≤ 9223372036854775807 by omega] <;> (try refine ⟨by kernel_rfl, ?_⟩)))
          | with_reducible refine xTwo_intro ?_ ?_
          | (with_reducible refine WP.cond' ?_; simp -implicitDefEqProofs [hP, hN, g0, g1, g6, g5, hb, hlt, hlt', hw, hz, hc, hs, show (i + 1) * 8 ≤ 140737488355328 by omega, show i + 1 ≤ 9223372036854775807 by omega])
          | (with_reducible refine xCond_split (fun hcd => ?_) (fun hcd => ?_) <;> (try (exfalso; clear hP hN; simp_all; done)) <;> (try (exfalso; simp at *; omega)))
          | with_reducible refine WP.block ?_
          | (with_reducible refine WP.skip ?_; simp [g0, g1, g6, g5, hb, hlt, hlt', hw, hz, hc, hs, show (i + 1) * 8 ≤ 140737488355328 by omega, show i + 1 ≤ 9223372036854775807 by omega])
          | (with_reducible refine WP.exit ?_; simp [g0, g1, g6, g5, hb, hlt, hlt', hw, hz, hc, hs, show (i + 1) * 8 ≤ 140737488355328 by omega, show i + 1 ≤ 9223372036854775807 by omega])
          | (with_reducible refine WP.ret ?_; simp [g0, g1, g6, g5, hb, hlt, hlt', hw, hz, hc, hs, show (i + 1) * 8 ≤ 140737488355328 by omega, show i + 1 ≤ 9223372036854775807 by omega]))
      · have hz : min i (min xs.length ys.length) = i := by omega
        have hlt' : ¬ i < ys.length := by omega
        repeat' (first
          | with_reducible refine WP.seq ?_
          | (with_reducible refine WP.region (hn := []) ?_; simp -implicitDefEqProofs [hP, hN, g0, g1, g6, g5, hb, hlt, hlt', hz])
          | (with_reducible refine WP.draw (hn := []) (by rw [hP]; kernel_rfl) (by kernel_rfl) ?_; simp -implicitDefEqProofs [hP, hN, g0, g1, g6, g5, hb, hlt, hlt', hz]; (try refine ⟨by kernel_rfl, ?_⟩))
          | (with_reducible refine xB_split (by simp [g0, g1, g6, g5, hb, hlt, hlt', hz]) (fun hgd => ?_) (fun hgd => ?_) <;> first | (exfalso; simp at hgd; done) | (exfalso; simp at hgd; omega) | simp -implicitDefEqProofs [hP, hN, g0, g1, g6, g5, hb, hlt, hlt', hz])
          | (with_reducible refine yB_split (by simp [g0, g1, g6, g5, hb, hlt, hlt', hz]) (fun hgd => ?_) (fun hgd => ?_) <;> first | (exfalso; simp at hgd; done) | (exfalso; simp at hgd; omega) | (simp -implicitDefEqProofs [hP, hN, g0, g1, g6, g5, hb, hlt, hlt', hz] <;> (try refine ⟨by kernel_rfl, ?_⟩)))
          | with_reducible refine xTwo_intro ?_ ?_
          | (with_reducible refine WP.cond' ?_; simp -implicitDefEqProofs [hP, hN, g0, g1, g6, g5, hb, hlt, hlt', hz])
          | (with_reducible refine xCond_split (fun hcd => ?_) (fun hcd => ?_) <;> (try (exfalso; clear hP hN; simp_all; done)) <;> (try (exfalso; simp at *; omega)))
          | with_reducible refine WP.block ?_
          | (with_reducible refine WP.skip ?_; simp [g0, g1, g6, g5, hb, hlt, hlt', hz])
          | (with_reducible refine WP.exit ?_; simp [g0, g1, g6, g5, hb, hlt, hlt', hz])
          | (with_reducible refine WP.ret ?_; simp [g0, g1, g6, g5, hb, hlt, hlt', hz]))
        exact take_done (by simp; omega) hlt
    · have he' : ((xs.length : Int) != ys.length) = true := by simp; omega
      have hr : clampL xs ys = [] := by simp [clampL, he]
      rw [hr]
      refine detP_of Try.func45 rfl (by kernel_rfl) (by simp [Try.f45]) rfl ?_
      intro C hP hN
      simp only [Try.f45] at hN ⊢
      repeat' (first
        | with_reducible refine WP.seq ?_
        | (with_reducible refine WP.region (hn := []) ?_; simp -implicitDefEqProofs [hP, hN, hv, he'])
        | (with_reducible refine WP.draw (hn := []) (by rw [hP]; kernel_rfl) (by kernel_rfl) ?_; simp -implicitDefEqProofs [hP, hN, hv, he']; (try refine ⟨by kernel_rfl, ?_⟩))
        | (with_reducible refine xB_split (by simp [hv, he']) (fun hgd => ?_) (fun hgd => ?_) <;> first | (exfalso; simp at hgd; done) | (exfalso; simp at hgd; omega) | simp -implicitDefEqProofs [hP, hN, hv, he'])
        | (with_reducible refine yB_split (by simp [hv, he']) (fun hgd => ?_) (fun hgd => ?_) <;> first | (exfalso; simp at hgd; done) | (exfalso; simp at hgd; omega) | (simp -implicitDefEqProofs [hP, hN, hv, he'] <;> (try refine ⟨by kernel_rfl, ?_⟩)))
        | (with_reducible refine xC_intro (d82 _ (big hl)) ?_; simp -implicitDefEqProofs [hP, hN, hv, he'])
        | (with_reducible refine yC_intro (d82 _ (big hl)) ?_; simp -implicitDefEqProofs [hP, hN, hv, he']; (try refine ⟨by kernel_rfl, ?_⟩))
        | with_reducible refine xTwo_intro ?_ ?_
        | (with_reducible refine WP.cond' ?_; simp -implicitDefEqProofs [hP, hN, hv, he'])
        | (with_reducible refine xCond_split (fun hcd => ?_) (fun hcd => ?_) <;> (try (exfalso; clear hP hN; simp_all; done)) <;> (try (exfalso; simp at *; omega)))
        | with_reducible refine WP.block ?_
        | (with_reducible refine WP.skip ?_; simp [hv, he'])
        | (with_reducible refine WP.exit ?_; simp [hv, he'])
        | (with_reducible refine WP.ret ?_; simp [hv, he']))
def touchL (xs ys : List (Int × Int)) : Bool := allB vI xs && allB vI ys && decide (xs.length = ys.length) && allZ touchI xs ys
set_option maxHeartbeats 4000000 in
theorem d55 (xs ys : List (Int × Int)) (hl : xs.length ≤ 9223372036854775807) (hm : ys.length ≤ 9223372036854775807) : DetH Try.prog 55 [.pv (iv xs), .pv (iv ys)] [] [] (.pv (B (touchL xs ys))) := by
  cases hv : allB vI xs with
  | false =>
    have hr : touchL xs ys = false := by simp [touchL, hv]
    rw [hr]
    refine detP_of Try.func55 rfl (by kernel_rfl) (by simp [Try.f55]) rfl ?_
    intro C hP hN
    simp only [Try.f55] at hN ⊢
    repeat' (first
      | with_reducible refine WP.seq ?_
      | (with_reducible refine WP.region (hn := []) ?_; simp -implicitDefEqProofs [hP, hN, hv])
      | (with_reducible refine WP.draw (hn := []) (by rw [hP]; kernel_rfl) (by kernel_rfl) ?_; simp -implicitDefEqProofs [hP, hN, hv]; (try refine ⟨by kernel_rfl, ?_⟩))
      | (with_reducible refine xB_split (by simp [hv]) (fun hgd => ?_) (fun hgd => ?_) <;> first | (exfalso; simp at hgd; done) | (exfalso; simp at hgd; omega) | simp -implicitDefEqProofs [hP, hN, hv])
      | (with_reducible refine yB_split (by simp [hv]) (fun hgd => ?_) (fun hgd => ?_) <;> first | (exfalso; simp at hgd; done) | (exfalso; simp at hgd; omega) | (simp -implicitDefEqProofs [hP, hN, hv] <;> (try refine ⟨by kernel_rfl, ?_⟩)))
      | (with_reducible refine xC_intro (d82 _ hl) ?_; simp -implicitDefEqProofs [hP, hN, hv])
      | (with_reducible refine yC_intro (d82 _ hl) ?_; simp -implicitDefEqProofs [hP, hN, hv]; (try refine ⟨by kernel_rfl, ?_⟩))
      | (with_reducible refine xC_intro (d82 _ hm) ?_; simp -implicitDefEqProofs [hP, hN, hv])
      | (with_reducible refine yC_intro (d82 _ hm) ?_; simp -implicitDefEqProofs [hP, hN, hv]; (try refine ⟨by kernel_rfl, ?_⟩))
      | with_reducible refine xTwo_intro ?_ ?_
      | (with_reducible refine WP.cond' ?_; simp -implicitDefEqProofs [hP, hN, hv])
      | (with_reducible refine xCond_split (fun hcd => ?_) (fun hcd => ?_) <;> (try (exfalso; clear hP hN; simp_all; done)) <;> (try (exfalso; simp at *; omega)))
      | with_reducible refine WP.block ?_
      | (with_reducible refine WP.skip ?_; simp [hv])
      | (with_reducible refine WP.exit ?_; simp [hv])
      | (with_reducible refine WP.ret ?_; simp [hv]))
  | true =>
    cases hu : allB vI ys with
    | false =>
      have hr : touchL xs ys = false := by simp [touchL, hv, hu]
      rw [hr]
      refine detP_of Try.func55 rfl (by kernel_rfl) (by simp [Try.f55]) rfl ?_
      intro C hP hN
      simp only [Try.f55] at hN ⊢
      repeat' (first
        | with_reducible refine WP.seq ?_
        | (with_reducible refine WP.region (hn := []) ?_; simp -implicitDefEqProofs [hP, hN, hv, hu])
        | (with_reducible refine WP.draw (hn := []) (by rw [hP]; kernel_rfl) (by kernel_rfl) ?_; simp -implicitDefEqProofs [hP, hN, hv, hu]; (try refine ⟨by kernel_rfl, ?_⟩))
        | (with_reducible refine xB_split (by simp [hv, hu]) (fun hgd => ?_) (fun hgd => ?_) <;> first | (exfalso; simp at hgd; done) | (exfalso; simp at hgd; omega) | simp -implicitDefEqProofs [hP, hN, hv, hu])
        | (with_reducible refine yB_split (by simp [hv, hu]) (fun hgd => ?_) (fun hgd => ?_) <;> first | (exfalso; simp at hgd; done) | (exfalso; simp at hgd; omega) | (simp -implicitDefEqProofs [hP, hN, hv, hu] <;> (try refine ⟨by kernel_rfl, ?_⟩)))
        | (with_reducible refine xC_intro (d82 _ hl) ?_; simp -implicitDefEqProofs [hP, hN, hv, hu])
        | (with_reducible refine yC_intro (d82 _ hl) ?_; simp -implicitDefEqProofs [hP, hN, hv, hu]; (try refine ⟨by kernel_rfl, ?_⟩))
        | (with_reducible refine xC_intro (d82 _ hm) ?_; simp -implicitDefEqProofs [hP, hN, hv, hu])
        | (with_reducible refine yC_intro (d82 _ hm) ?_; simp -implicitDefEqProofs [hP, hN, hv, hu]; (try refine ⟨by kernel_rfl, ?_⟩))
        | with_reducible refine xTwo_intro ?_ ?_
        | (with_reducible refine WP.cond' ?_; simp -implicitDefEqProofs [hP, hN, hv, hu])
        | (with_reducible refine xCond_split (fun hcd => ?_) (fun hcd => ?_) <;> (try (exfalso; clear hP hN; simp_all; done)) <;> (try (exfalso; simp at *; omega)))
        | with_reducible refine WP.block ?_
        | (with_reducible refine WP.skip ?_; simp [hv, hu])
        | (with_reducible refine WP.exit ?_; simp [hv, hu])
        | (with_reducible refine WP.ret ?_; simp [hv, hu]))
    | true =>
      by_cases he : xs.length = ys.length
      · have he' : ((xs.length : Int) != ys.length) = false := by simp [he]
        have hr : touchL xs ys = allZ touchI xs ys := by simp [touchL, hv, hu, he]
        rw [hr]
        refine detP_of Try.func55 rfl (by kernel_rfl) (by simp [Try.f55]) rfl ?_
        intro C hP hN
        simp only [Try.f55] at hN ⊢
        repeat' (first
          | with_reducible refine WP.seq ?_
          | (with_reducible refine WP.region (hn := []) ?_; simp -implicitDefEqProofs [hP, hN, hv, hu, he'])
          | (with_reducible refine WP.draw (hn := []) (by rw [hP]; kernel_rfl) (by kernel_rfl) ?_; simp -implicitDefEqProofs [hP, hN, hv, hu, he']; (try refine ⟨by kernel_rfl, ?_⟩))
          | (with_reducible refine xB_split (by simp [hv, hu, he']) (fun hgd => ?_) (fun hgd => ?_) <;> first | (exfalso; simp at hgd; done) | (exfalso; simp at hgd; omega) | simp -implicitDefEqProofs [hP, hN, hv, hu, he'])
          | (with_reducible refine yB_split (by simp [hv, hu, he']) (fun hgd => ?_) (fun hgd => ?_) <;> first | (exfalso; simp at hgd; done) | (exfalso; simp at hgd; omega) | (simp -implicitDefEqProofs [hP, hN, hv, hu, he'] <;> (try refine ⟨by kernel_rfl, ?_⟩)))
          | (with_reducible refine xC_intro (d82 _ hl) ?_; simp -implicitDefEqProofs [hP, hN, hv, hu, he'])
          | (with_reducible refine yC_intro (d82 _ hl) ?_; simp -implicitDefEqProofs [hP, hN, hv, hu, he']; (try refine ⟨by kernel_rfl, ?_⟩))
          | (with_reducible refine xC_intro (d82 _ hm) ?_; simp -implicitDefEqProofs [hP, hN, hv, hu, he'])
          | (with_reducible refine yC_intro (d82 _ hm) ?_; simp -implicitDefEqProofs [hP, hN, hv, hu, he']; (try refine ⟨by kernel_rfl, ?_⟩))
          | with_reducible refine xTwo_intro ?_ ?_
          | (with_reducible refine WP.cond' ?_; simp -implicitDefEqProofs [hP, hN, hv, hu, he'])
          | (with_reducible refine xCond_split (fun hcd => ?_) (fun hcd => ?_) <;> (try (exfalso; clear hP hN; simp_all; done)) <;> (try (exfalso; simp at *; omega)))
          | with_reducible refine WP.block ?_
          | (with_reducible refine WP.skip ?_; simp [hv, hu, he'])
          | (with_reducible refine WP.exit ?_; simp [hv, hu, he'])
          | (with_reducible refine WP.ret ?_; simp [hv, hu, he']))
        refine WP.loopN [6] xs.length (fun i st => st.t 0 = .pv (iv xs) ∧ st.t 1 = .pv (iv ys) ∧ st.t 5 = .pv (Z i) ∧ st.h 6 = none ∧ allZt touchI xs ys i = true) (by simp [allZt]) ?_
        rintro i st hi ⟨g0, g1, g5, hb, hq⟩
        by_cases hlt : i < xs.length
        · have hw := wr_succ hlt hl
          have hlt' : i < ys.length := by omega
          have hF : touchI xs[i] ys[i] = false → allZ touchI xs ys = false := allZ_false hlt hlt'
          have hS : touchI xs[i] ys[i] = true → allZt touchI xs ys (i + 1) = true := allZ_step hlt hlt' hq
          have cm := d127 xs[i].1 xs[i].2 ys[i].1 ys[i].2
          cases ht : touchI xs[i] ys[i] with
          | true =>
            have ht' : (validB xs[i].1 xs[i].2 && validB ys[i].1 ys[i].2 && decide (max xs[i].1 ys[i].1 ≤ min xs[i].2 ys[i].2)) = true := ht
            rw [if_pos ht'] at cm
            repeat' (first
              | with_reducible refine WP.seq ?_
              | (with_reducible refine WP.region (hn := []) ?_; simp -implicitDefEqProofs [hP, hN, g0, g1, g5, hb, hlt, hlt', hw])
              | (with_reducible refine WP.draw (hn := []) (by rw [hP]; kernel_rfl) (by kernel_rfl) ?_; simp -implicitDefEqProofs [hP, hN, g0, g1, g5, hb, hlt, hlt', hw]; (try refine ⟨by kernel_rfl, ?_⟩))
              | (with_reducible refine xB_split (by simp [g0, g1, g5, hb, hlt, hlt', hw]) (fun hgd => ?_) (fun hgd => ?_) <;> first | (exfalso; simp at hgd; done) | (exfalso; simp at hgd; omega) | simp -implicitDefEqProofs [hP, hN, g0, g1, g5, hb, hlt, hlt', hw])
              | (with_reducible refine yB_split (by simp [g0, g1, g5, hb, hlt, hlt', hw]) (fun hgd => ?_) (fun hgd => ?_) <;> first | (exfalso; simp at hgd; done) | (exfalso; simp at hgd; omega) | (simp -implicitDefEqProofs [hP, hN, g0, g1, g5, hb, hlt, hlt', hw] <;> (try refine ⟨by kernel_rfl, ?_⟩)))
              | (with_reducible refine xC_intro (cm) ?_; simp -implicitDefEqProofs [hP, hN, g0, g1, g5, hb, hlt, hlt', hw])
              | (with_reducible refine yC_intro (cm) ?_; simp -implicitDefEqProofs [hP, hN, g0, g1, g5, hb, hlt, hlt', hw]; (try refine ⟨by kernel_rfl, ?_⟩))
              | with_reducible refine xTwo_intro ?_ ?_
              | (with_reducible refine WP.cond' ?_; simp -implicitDefEqProofs [hP, hN, g0, g1, g5, hb, hlt, hlt', hw])
              | (with_reducible refine xCond_split (fun hcd => ?_) (fun hcd => ?_) <;> (try (exfalso; clear hP hN; simp_all; done)) <;> (try (exfalso; simp at *; omega)))
              | with_reducible refine WP.block ?_
              | (with_reducible refine WP.skip ?_; simp [g0, g1, g5, hb, hlt, hlt', hw])
              | (with_reducible refine WP.exit ?_; simp [g0, g1, g5, hb, hlt, hlt', hw])
              | (with_reducible refine WP.ret ?_; simp [g0, g1, g5, hb, hlt, hlt', hw]))
            all_goals simpa using hS ht
          | false =>
            have ht' : (validB xs[i].1 xs[i].2 && validB ys[i].1 ys[i].2 && decide (max xs[i].1 ys[i].1 ≤ min xs[i].2 ys[i].2)) = false := ht
            rw [if_neg (by simp [ht'])] at cm
            repeat' (first
              | with_reducible refine WP.seq ?_
              | (with_reducible refine WP.region (hn := []) ?_; simp -implicitDefEqProofs [hP, hN, g0, g1, g5, hb, hlt, hlt', hw])
              | (with_reducible refine WP.draw (hn := []) (by rw [hP]; kernel_rfl) (by kernel_rfl) ?_; simp -implicitDefEqProofs [hP, hN, g0, g1, g5, hb, hlt, hlt', hw]; (try refine ⟨by kernel_rfl, ?_⟩))
              | (with_reducible refine xB_split (by simp [g0, g1, g5, hb, hlt, hlt', hw]) (fun hgd => ?_) (fun hgd => ?_) <;> first | (exfalso; simp at hgd; done) | (exfalso; simp at hgd; omega) | simp -implicitDefEqProofs [hP, hN, g0, g1, g5, hb, hlt, hlt', hw])
              | (with_reducible refine yB_split (by simp [g0, g1, g5, hb, hlt, hlt', hw]) (fun hgd => ?_) (fun hgd => ?_) <;> first | (exfalso; simp at hgd; done) | (exfalso; simp at hgd; omega) | (simp -implicitDefEqProofs [hP, hN, g0, g1, g5, hb, hlt, hlt', hw] <;> (try refine ⟨by kernel_rfl, ?_⟩)))
              | (with_reducible refine xC_intro (cm) ?_; simp -implicitDefEqProofs [hP, hN, g0, g1, g5, hb, hlt, hlt', hw])
              | (with_reducible refine yC_intro (cm) ?_; simp -implicitDefEqProofs [hP, hN, g0, g1, g5, hb, hlt, hlt', hw]; (try refine ⟨by kernel_rfl, ?_⟩))
              | with_reducible refine xTwo_intro ?_ ?_
              | (with_reducible refine WP.cond' ?_; simp -implicitDefEqProofs [hP, hN, g0, g1, g5, hb, hlt, hlt', hw])
              | (with_reducible refine xCond_split (fun hcd => ?_) (fun hcd => ?_) <;> (try (exfalso; clear hP hN; simp_all; done)) <;> (try (exfalso; simp at *; omega)))
              | with_reducible refine WP.block ?_
              | (with_reducible refine WP.skip ?_; simp [g0, g1, g5, hb, hlt, hlt', hw])
              | (with_reducible refine WP.exit ?_; simp [g0, g1, g5, hb, hlt, hlt', hw])
              | (with_reducible refine WP.ret ?_; simp [g0, g1, g5, hb, hlt, hlt', hw]))
            all_goals simp [hF ht]
        · have hlt' : ¬ i < ys.length := by omega
          repeat' (first
            | with_reducible refine WP.seq ?_
            | (with_reducible refine WP.region (hn := []) ?_; simp -implicitDefEqProofs [hP, hN, g0, g1, g5, hb, hlt])
            | (with_reducible refine WP.draw (hn := []) (by rw [hP]; kernel_rfl) (by kernel_rfl) ?_; simp -implicitDefEqProofs [hP, hN, g0, g1, g5, hb, hlt]; (try refine ⟨by kernel_rfl, ?_⟩))
            | (with_reducible refine xB_split (by simp [g0, g1, g5, hb, hlt]) (fun hgd => ?_) (fun hgd => ?_) <;> first | (exfalso; simp at hgd; done) | (exfalso; simp at hgd; omega) | simp -implicitDefEqProofs [hP, hN, g0, g1, g5, hb, hlt])
            | (with_reducible refine yB_split (by simp [g0, g1, g5, hb, hlt]) (fun hgd => ?_) (fun hgd => ?_) <;> first | (exfalso; simp at hgd; done) | (exfalso; simp at hgd; omega) | (simp -implicitDefEqProofs [hP, hN, g0, g1, g5, hb, hlt] <;> (try refine ⟨by kernel_rfl, ?_⟩)))
            | with_reducible refine xTwo_intro ?_ ?_
            | (with_reducible refine WP.cond' ?_; simp -implicitDefEqProofs [hP, hN, g0, g1, g5, hb, hlt])
            | (with_reducible refine xCond_split (fun hcd => ?_) (fun hcd => ?_) <;> (try (exfalso; clear hP hN; simp_all; done)) <;> (try (exfalso; simp at *; omega)))
            | with_reducible refine WP.block ?_
            | (with_reducible refine WP.skip ?_; simp [g0, g1, g5, hb, hlt])
            | (with_reducible refine WP.exit ?_; simp [g0, g1, g5, hb, hlt])
            | (with_reducible refine WP.ret ?_; simp [g0, g1, g5, hb, hlt]))
          all_goals simp [allZ_done hlt hq]
      · have he' : ((xs.length : Int) != ys.length) = true := by simp; omega
        have hr : touchL xs ys = false := by simp [touchL, he]
        rw [hr]
        refine detP_of Try.func55 rfl (by kernel_rfl) (by simp [Try.f55]) rfl ?_
        intro C hP hN
        simp only [Try.f55] at hN ⊢
        repeat' (first
          | with_reducible refine WP.seq ?_
          | (with_reducible refine WP.region (hn := []) ?_; simp -implicitDefEqProofs [hP, hN, hv, hu, he'])
          | (with_reducible refine WP.draw (hn := []) (by rw [hP]; kernel_rfl) (by kernel_rfl) ?_; simp -implicitDefEqProofs [hP, hN, hv, hu, he']; (try refine ⟨by kernel_rfl, ?_⟩))
          | (with_reducible refine xB_split (by simp [hv, hu, he']) (fun hgd => ?_) (fun hgd => ?_) <;> first | (exfalso; simp at hgd; done) | (exfalso; simp at hgd; omega) | simp -implicitDefEqProofs [hP, hN, hv, hu, he'])
          | (with_reducible refine yB_split (by simp [hv, hu, he']) (fun hgd => ?_) (fun hgd => ?_) <;> first | (exfalso; simp at hgd; done) | (exfalso; simp at hgd; omega) | (simp -implicitDefEqProofs [hP, hN, hv, hu, he'] <;> (try refine ⟨by kernel_rfl, ?_⟩)))
          | (with_reducible refine xC_intro (d82 _ hl) ?_; simp -implicitDefEqProofs [hP, hN, hv, hu, he'])
          | (with_reducible refine yC_intro (d82 _ hl) ?_; simp -implicitDefEqProofs [hP, hN, hv, hu, he']; (try refine ⟨by kernel_rfl, ?_⟩))
          | (with_reducible refine xC_intro (d82 _ hm) ?_; simp -implicitDefEqProofs [hP, hN, hv, hu, he'])
          | (with_reducible refine yC_intro (d82 _ hm) ?_; simp -implicitDefEqProofs [hP, hN, hv, hu, he']; (try refine ⟨by kernel_rfl, ?_⟩))
          | with_reducible refine xTwo_intro ?_ ?_
          | (with_reducible refine WP.cond' ?_; simp -implicitDefEqProofs [hP, hN, hv, hu, he'])
          | (with_reducible refine xCond_split (fun hcd => ?_) (fun hcd => ?_) <;> (try (exfalso; clear hP hN; simp_all; done)) <;> (try (exfalso; simp at *; omega)))
          | with_reducible refine WP.block ?_
          | (with_reducible refine WP.skip ?_; simp [hv, hu, he'])
          | (with_reducible refine WP.exit ?_; simp [hv, hu, he'])
          | (with_reducible refine WP.ret ?_; simp [hv, hu, he']))
end Go.Ab
