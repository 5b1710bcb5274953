/- Contracts: the reference's pieces. -/
import Derived.Test.YtagmnknighofeaaCf12
set_option linter.all false
namespace Go.Ab
open Go.Proofs
def floorI (a b : Int) : Int := if a.tmod b < 0 then wr (wr (a.tdiv b) - 1) else wr (a.tdiv b)
def ceilI (a b : Int) : Int := if 0 < a.tmod b then wr (wr (a.tdiv b) + 1) else wr (a.tdiv b)
theorem d121 (a b : Int) (hb : b ≠ 0) : DetH Try.prog 121 [.pv (Z a), .pv (Z b)] [] [] (.pv (Z (floorI a b))) := by
  refine detP_of Try.func121 rfl (by kernel_rfl) (by simp [Try.f121]) rfl ?_
  intro C hP hN
  simp only [Try.f121] at hN ⊢
  repeat' (first
    | with_reducible refine WP.seq ?_
    | (with_reducible refine WP.region (hn := []) ?_; simp -implicitDefEqProofs [hP, hN, hb])
    | (with_reducible refine WP.draw (hn := []) (by rw [hP]; kernel_rfl) (by kernel_rfl) ?_; simp -implicitDefEqProofs [hP, hN, hb]; (try refine ⟨by kernel_rfl, ?_⟩))
    | (with_reducible refine xB_split (by simp [hb]) (fun hgd => ?_) (fun hgd => ?_) <;> first | (exfalso; simp at hgd; done) | (exfalso; simp at hgd; omega) | simp -implicitDefEqProofs [hP, hN, hb])
    | (with_reducible refine yB_split (by simp [hb]) (fun hgd => ?_) (fun hgd => ?_) <;> first | (exfalso; simp at hgd; done) | (exfalso; simp at hgd; omega) | (simp -implicitDefEqProofs [hP, hN, hb] <;> (try refine ⟨by kernel_rfl, ?_⟩)))
    | with_reducible refine xTwo_intro ?_ ?_
    | (with_reducible refine WP.cond' ?_; simp -implicitDefEqProofs [hP, hN, hb])
    | (with_reducible refine xCond_split (fun hcd => ?_) (fun hcd => ?_) <;> (try (exfalso; clear hP hN; simp_all; done)) <;> (try (exfalso; simp at *; omega)))
    | with_reducible refine WP.block ?_
    | (with_reducible refine WP.skip ?_; simp [hb])
    | (with_reducible refine WP.exit ?_; simp [hb])
    | (with_reducible refine WP.ret ?_; simp [hb]))
  all_goals (first | (simp_all [floorI]; done) | ((try simp_all [floorI]) <;> (try omega) <;> grind))
theorem d120 (xs ys : List Int) (d : Int) (hl : xs.length ≤ 9223372036854775807) (hm : ys.length ≤ 9223372036854775807) : DetH Try.prog 120 [.pv (zs xs), .pv (zs ys), .pv (Z d)] [] [] (.pv (B (motionB xs ys d))) := by
  have e : motionB xs ys d = (allB smallB xs && allB smallB ys && decide (xs.length = ys.length) && decide (0 ≤ d) && decide (d ≤ 20)) := by
    unfold motionB
    cases allB smallB xs <;> cases allB smallB ys <;> cases decide (xs.length = ys.length) <;> rfl
  rw [e]
  refine detP_of Try.func120 rfl (by kernel_rfl) (by simp [Try.f120]) rfl ?_
  intro C hP hN
  simp only [Try.f120] at hN ⊢
  repeat' (first
    | with_reducible refine WP.seq ?_
    | (with_reducible refine WP.region (hn := []) ?_; simp -implicitDefEqProofs [hP, hN])
    | (with_reducible refine WP.draw (hn := []) (by rw [hP]; kernel_rfl) (by kernel_rfl) ?_; simp -implicitDefEqProofs [hP, hN]; (try refine ⟨by kernel_rfl, ?_⟩))
    | (with_reducible refine xB_split (by simp) (fun hgd => ?_) (fun hgd => ?_) <;> first | (exfalso; simp at hgd; done) | (exfalso; simp at hgd; omega) | simp -implicitDefEqProofs [hP, hN])
    | (with_reducible refine yB_split (by simp) (fun hgd => ?_) (fun hgd => ?_) <;> first | (exfalso; simp at hgd; done) | (exfalso; simp at hgd; omega) | (simp -implicitDefEqProofs [hP, hN] <;> (try refine ⟨by kernel_rfl, ?_⟩)))
    | (with_reducible refine xC_intro (d166 _ hl) ?_; simp -implicitDefEqProofs [hP, hN])
    | (with_reducible refine yC_intro (d166 _ hl) ?_; simp -implicitDefEqProofs [hP, hN]; (try refine ⟨by kernel_rfl, ?_⟩))
    | (with_reducible refine xC_intro (d166 _ hm) ?_; simp -implicitDefEqProofs [hP, hN])
    | (with_reducible refine yC_intro (d166 _ hm) ?_; simp -implicitDefEqProofs [hP, hN]; (try refine ⟨by kernel_rfl, ?_⟩))
    | with_reducible refine xTwo_intro ?_ ?_
    | (with_reducible refine WP.cond' ?_; simp -implicitDefEqProofs [hP, hN])
    | (with_reducible refine xCond_split (fun hcd => ?_) (fun hcd => ?_) <;> (try (exfalso; clear hP hN; simp_all; done)) <;> (try (exfalso; simp at *; omega)))
    | with_reducible refine WP.block ?_
    | (with_reducible refine WP.skip ?_; simp)
    | (with_reducible refine WP.exit ?_; simp)
    | (with_reducible refine WP.ret ?_; simp))
  all_goals (first | (simp_all; done) | ((try simp_all) <;> (try omega) <;> grind))
def refPieceI (idx d f t : Int) : Int × Int :=
  let s := wr (idx * wr (t - f)); let e := wr (wr (idx + 1) * wr (t - f))
  (wr (f + floorI (min s e) (2 ^ d.toNat)), wr (f + ceilI (max s e) (2 ^ d.toNat)))
def refPieceL (xs ys : List Int) (d i : Int) : List (Int × Int) × Bool := if motionB xs ys d && decide (0 ≤ i) && decide (i < 2 ^ d.toNat) then (List.zipWith (refPieceI i d) xs ys, true) else ([], false)
def refAtI (idx d f t : Int) : Int := wr (f + floorI (wr (idx * wr (t - f))) (2 ^ d.toNat))
def refAtL (xs ys : List Int) (d i : Int) : List Int × Bool := if motionB xs ys d && decide (0 ≤ i) && decide (i ≤ 2 ^ d.toNat) then (List.zipWith (refAtI i d) xs ys, true) else ([], false)
set_option maxHeartbeats 4000000 in
theorem d53 (xs ys : List Int) (d i : Int) (hl : xs.length ≤ 16777216) (hm : ys.length ≤ 16777216) : DetH Try.prog 53 [.pv (zs xs), .pv (zs ys), .pv (Z d), .pv (Z i)] [] [] (.pv (.tup [zs (refAtL xs ys d i).1, B (refAtL xs ys d i).2])) := by
  cases hmo : motionB xs ys d with
  | false =>
    refine detP_of Try.func53 rfl (by kernel_rfl) (by simp [Try.f53]) rfl ?_
    intro C hP hN
    simp only [Try.f53] at hN ⊢
    repeat' (first
      | with_reducible refine WP.seq ?_
      | (with_reducible refine WP.region (hn := []) ?_; simp -implicitDefEqProofs [hP, hN, hmo])
      | (with_reducible refine WP.draw (hn := []) (by rw [hP]; kernel_rfl) (by kernel_rfl) ?_; simp -implicitDefEqProofs [hP, hN, hmo]; (try refine ⟨by kernel_rfl, ?_⟩))
      | (with_reducible refine xB_split (by simp [hmo]) (fun hgd => ?_) (fun hgd => ?_) <;> first | (exfalso; simp at hgd; done) | (exfalso; simp at hgd; omega) | simp -implicitDefEqProofs [hP, hN, hmo])
      | (with_reducible refine yB_split (by simp [hmo]) (fun hgd => ?_) (fun hgd => ?_) <;> first | (exfalso; simp at hgd; done) | (exfalso; simp at hgd; omega) | (simp -implicitDefEqProofs [hP, hN, hmo] <;> (try refine ⟨by kernel_rfl, ?_⟩)))
      | (with_reducible refine xC_intro (d120 _ _ _ (big hl) (big hm)) ?_; simp -implicitDefEqProofs [hP, hN, hmo])
      | (with_reducible refine yC_intro (d120 _ _ _ (big hl) (big hm)) ?_; simp -implicitDefEqProofs [hP, hN, hmo]; (try refine ⟨by kernel_rfl, ?_⟩))
      | with_reducible refine xTwo_intro ?_ ?_
      | (with_reducible refine WP.cond' ?_; simp -implicitDefEqProofs [hP, hN, hmo])
      | (with_reducible refine xCond_split (fun hcd => ?_) (fun hcd => ?_) <;> (try (exfalso; clear hP hN; simp_all; done)) <;> (try (exfalso; simp at *; omega)))
      | with_reducible refine WP.block ?_
      | (with_reducible refine WP.skip ?_; simp [hmo])
      | (with_reducible refine WP.exit ?_; simp [hmo])
      | (with_reducible refine WP.ret ?_; simp [hmo]))
    all_goals simp [refAtL, hmo]
  | true =>
    obtain ⟨he, _, _, h0, hd⟩ := motionB_true hmo
    have hd' : d < 64 := by omega
    have hu : IntKind.u64.wrap d = d := by rw [IntKind.wrap_u64]; omega
    have hne : (2 : Int) ^ d.toNat ≠ 0 := by have := Int.pow_pos (n := (2 : Int)) (m := d.toNat) (by decide); omega
    by_cases hi : 0 ≤ i ∧ i ≤ 2 ^ d.toNat
    · obtain ⟨hi0, hi1⟩ := hi
      have hL : refAtL xs ys d i = (List.zipWith (refAtI i d) xs ys, true) := by simp [refAtL, hmo, hi0, hi1]
      rw [hL]
      refine detP_of Try.func53 rfl (by kernel_rfl) (by simp [Try.f53]) rfl ?_
      intro C hP hN
      simp only [Try.f53] at hN ⊢
      repeat' (first
        | with_reducible refine WP.seq ?_
        | (with_reducible refine WP.region (hn := [10]) ?_; simp -implicitDefEqProofs [hP, hN, hmo, h0, hu, bits64, min64 hd', wr_shl h0 hd, Int.not_lt.2 hi0, Int.not_lt.2 hi1])
        | (with_reducible refine WP.draw (hn := [10]) (by rw [hP]; kernel_rfl) (by kernel_rfl) ?_; simp -implicitDefEqProofs [hP, hN, hmo, h0, hu, bits64, min64 hd', wr_shl h0 hd, Int.not_lt.2 hi0, Int.not_lt.2 hi1]; (try refine ⟨by kernel_rfl, ?_⟩))
        | (with_reducible refine xB_split (by simp [hmo, h0, hu, bits64, min64 hd', wr_shl h0 hd, Int.not_lt.2 hi0, Int.not_lt.2 hi1]) (fun hgd => ?_) (fun hgd => ?_) <;> first | (exfalso; simp at hgd; done) | (exfalso; simp at hgd; omega) | simp -implicitDefEqProofs [hP, hN, hmo, h0, hu, bits64, min64 hd', wr_shl h0 hd, Int.not_lt.2 hi0, Int.not_lt.2 hi1])
        | (with_reducible refine yB_split (by simp [hmo, h0, hu, bits64, min64 hd', wr_shl h0 hd, Int.not_lt.2 hi0, Int.not_lt.2 hi1]) (fun hgd => ?_) (fun hgd => ?_) <;> first | (exfalso; simp at hgd; done) | (exfalso; simp at hgd; omega) | (simp -implicitDefEqProofs [hP, hN, hmo, h0, hu, bits64, min64 hd', wr_shl h0 hd, Int.not_lt.2 hi0, Int.not_lt.2 hi1] <;> (try refine ⟨by kernel_rfl, ?_⟩)))
        | (with_reducible refine xC_intro (d120 _ _ _ (big hl) (big hm)) ?_; simp -implicitDefEqProofs [hP, hN, hmo, h0, hu, bits64, min64 hd', wr_shl h0 hd, Int.not_lt.2 hi0, Int.not_lt.2 hi1])
        | (with_reducible refine yC_intro (d120 _ _ _ (big hl) (big hm)) ?_; simp -implicitDefEqProofs [hP, hN, hmo, h0, hu, bits64, min64 hd', wr_shl h0 hd, Int.not_lt.2 hi0, Int.not_lt.2 hi1]; (try refine ⟨by kernel_rfl, ?_⟩))
        | with_reducible refine xTwo_intro ?_ ?_
        | (with_reducible refine WP.cond' ?_; simp -implicitDefEqProofs [hP, hN, hmo, h0, hu, bits64, min64 hd', wr_shl h0 hd, Int.not_lt.2 hi0, Int.not_lt.2 hi1])
        | (with_reducible refine xCond_split (fun hcd => ?_) (fun hcd => ?_) <;> (try (exfalso; clear hP hN; simp_all; done)) <;> (try (exfalso; simp at *; omega)))
        | with_reducible refine WP.block ?_
        | (with_reducible refine WP.skip ?_; simp [hmo, h0, hu, bits64, min64 hd', wr_shl h0 hd, Int.not_lt.2 hi0, Int.not_lt.2 hi1])
        | (with_reducible refine WP.exit ?_; simp [hmo, h0, hu, bits64, min64 hd', wr_shl h0 hd, Int.not_lt.2 hi0, Int.not_lt.2 hi1])
        | (with_reducible refine WP.ret ?_; simp [hmo, h0, hu, bits64, min64 hd', wr_shl h0 hd, Int.not_lt.2 hi0, Int.not_lt.2 hi1]))
      refine WP.loopN [] xs.length (fun k st => st.t 0 = .pv (zs xs) ∧ st.t 1 = .pv (zs ys) ∧ st.t 2 = .pv (Z d) ∧ st.t 3 = .pv (Z i) ∧ st.t 11 = .pv (Z k) ∧ st.t 10 = .arr 10 k ∧ st.h 10 = some (.row 2 1 ((List.zipWith (fun x y => Z (refAtI i d x y)) xs ys).take k) 0)) (by simp) ?_
      rintro k st hk ⟨g0, g1, g2, g3, g11, g10, hr⟩
      by_cases hlt : k < xs.length
      · have hw := wr_succ hlt (big hl)
        have hlt' : k < ys.length := by omega
        have hz : min k (min xs.length ys.length) = k := by omega
        have hs := take_zip_step (f := fun x y => Z (refAtI i d x y)) hlt hlt'
        repeat' (first
          | with_reducible refine WP.seq ?_
          | (with_reducible refine WP.region (hn := []) ?_; simp -implicitDefEqProofs [hP, hN, g0, g1, g2, g3, g11, g10, hr, hlt, hlt', hw, hz, h0, hu, bits64, min64 hd', wr_shl h0 hd, show (k + 1) * 8 ≤ 140737488355328 by omega, show k ≤ 9223372036854775806 by omega])
          | (with_reducible refine WP.draw (hn := []) (by rw [hP]; kernel_rfl) (by kernel_rfl) ?_; simp -implicitDefEqProofs [hP, hN, g0, g1, g2, g3, g11, g10, hr, hlt, hlt', hw, hz, h0, hu, bits64, min64 hd', wr_shl h0 hd, show (k + 1) * 8 ≤ 140737488355328 by omega, show k ≤ 9223372036854775806 by omega]; (try refine ⟨by kernel_rfl, ?_⟩))
          | (with_reducible refine xB_split (by simp [g0, g1, g2, g3, g11, g10, hr, hlt, hlt', hw, hz, h0, hu, bits64, min64 hd', wr_shl h0 hd, show (k + 1) * 8 ≤ 140737488355328 by omega, show k ≤ 9223372036854775806 by omega]) (fun hgd => ?_) (fun hgd => ?_) <;> first | (exfalso; simp at hgd; done) | (exfalso; simp at hgd; omega) | simp -implicitDefEqProofs [hP, hN, g0, g1, g2, g3, g11, g10, hr, hlt, hlt', hw, hz, h0, hu, bits64, min64 hd', wr_shl h0 hd, show (k + 1) * 8 ≤ 140737488355328 by omega, show k ≤ 9223372036854775806 by omega])
          | (with_reducible refine yB_split (by simp [g0, g1, g2, g3, g11, g10, hr, hlt, hlt', hw, hz, h0, hu, bits64, min64 hd', wr_shl h0 hd, show (k + 1) * 8 ≤ 140737488355328 by omega, show k ≤ 9223372036854775806 by omega]) (fun hgd => ?_) (fun hgd => ?_) <;> first | (exfalso; simp at hgd; done) | (exfalso; simp at hgd; omega) | (simp -implicitDefEqProofs [hP, hN, g0, g1, g2, g3, g11, g10, hr, hlt, hlt', hw, hz, h0, hu, bits64, min64 hd', wr_shl h0 hd, show (k + 1) * 8 ≤ 140737488355328 by omega, show k ≤ 9223372036854775806 by omega] <;> (try refine ⟨by kernel_rfl, ?_⟩)))
          | (with_reducible refine xC_intro (d121 _ _ hne) ?_; simp -implicitDefEqProofs [hP, hN, g0, g1, g2, g3, g11, g10, hr, hlt, hlt', hw, hz, h0, hu, bits64, min64 hd', wr_shl h0 hd, show (k + 1) * 8 ≤ 140737488355328 by omega, show k ≤ 9223372036854775806 by omega])
          | (with_reducible refine yC_intro (d121 _ _ hne) ?_; simp -implicitDefEqProofs [hP, hN, g0, g1, g2, g3, g11, g10, hr, hlt, hlt', hw, hz, h0, hu, bits64, min64 hd', wr_shl h0 hd, show (k + 1) * 8 ≤ 140737488355328 by omega, show k ≤ 9223372036854775806 by omega]; (try refine ⟨by kernel_rfl, ?_⟩))
          | with_reducible refine xTwo_intro ?_ ?_
          | (with_reducible refine WP.cond' ?_; simp -implicitDefEqProofs [hP, hN, g0, g1, g2, g3, g11, g10, hr, hlt, hlt', hw, hz, h0, hu, bits64, min64 hd', wr_shl h0 hd, show (k + 1) * 8 ≤ 140737488355328 by omega, show k ≤ 9223372036854775806 by omega])
          | (with_reducible refine xCond_split (fun hcd => ?_) (fun hcd => ?_) <;> (try (exfalso; clear hP hN; simp_all; done)) <;> (try (exfalso; simp at *; omega)))
          | with_reducible refine WP.block ?_
          | (with_reducible refine WP.skip ?_; simp [g0, g1, g2, g3, g11, g10, hr, hlt, hlt', hw, hz, h0, hu, bits64, min64 hd', wr_shl h0 hd, show (k + 1) * 8 ≤ 140737488355328 by omega, show k ≤ 9223372036854775806 by omega])
          | (with_reducible refine WP.exit ?_; simp [g0, g1, g2, g3, g11, g10, hr, hlt, hlt', hw, hz, h0, hu, bits64, min64 hd', wr_shl h0 hd, show (k + 1) * 8 ≤ 140737488355328 by omega, show k ≤ 9223372036854775806 by omega])
          | (with_reducible refine WP.ret ?_; simp [g0, g1, g2, g3, g11, g10, hr, hlt, hlt', hw, hz, h0, hu, bits64, min64 hd', wr_shl h0 hd, show (k + 1) * 8 ≤ 140737488355328 by omega, show k ≤ 9223372036854775806 by omega]))
        all_goals (rw [← hs]; simp [refAtI])
      · have hz : min k (min xs.length ys.length) = k := by omega
        repeat' (first
          | with_reducible refine WP.seq ?_
          | (with_reducible refine WP.region (hn := []) ?_; simp -implicitDefEqProofs [hP, hN, g0, g1, g2, g3, g11, g10, hr, hlt, hz])
          | (with_reducible refine WP.draw (hn := []) (by rw [hP]; kernel_rfl) (by kernel_rfl) ?_; simp -implicitDefEqProofs [hP, hN, g0, g1, g2, g3, g11, g10, hr, hlt, hz]; (try refine ⟨by kernel_rfl, ?_⟩))
          | (with_reducible refine xB_split (by simp [g0, g1, g2, g3, g11, g10, hr, hlt, hz]) (fun hgd => ?_) (fun hgd => ?_) <;> first | (exfalso; simp at hgd; done) | (exfalso; simp at hgd; omega) | simp -implicitDefEqProofs [hP, hN, g0, g1, g2, g3, g11, g10, hr, hlt, hz])
          | (with_reducible refine yB_split (by simp [g0, g1, g2, g3, g11, g10, hr, hlt, hz]) (fun hgd => ?_) (fun hgd => ?_) <;> first | (exfalso; simp at hgd; done) | (exfalso; simp at hgd; omega) | (simp -implicitDefEqProofs [hP, hN, g0, g1, g2, g3, g11, g10, hr, hlt, hz] <;> (try refine ⟨by kernel_rfl, ?_⟩)))
          | with_reducible refine xTwo_intro ?_ ?_
          | (with_reducible refine WP.cond' ?_; simp -implicitDefEqProofs [hP, hN, g0, g1, g2, g3, g11, g10, hr, hlt, hz])
          | (with_reducible refine xCond_split (fun hcd => ?_) (fun hcd => ?_) <;> (try (exfalso; clear hP hN; simp_all; done)) <;> (try (exfalso; simp at *; omega)))
          | with_reducible refine WP.block ?_
          | (with_reducible refine WP.skip ?_; simp [g0, g1, g2, g3, g11, g10, hr, hlt, hz])
          | (with_reducible refine WP.exit ?_; simp [g0, g1, g2, g3, g11, g10, hr, hlt, hz])
          | (with_reducible refine WP.ret ?_; simp [g0, g1, g2, g3, g11, g10, hr, hlt, hz]))
        exact take_done (by simp; omega) hlt
    · have hL : refAtL xs ys d i = ([], false) := by
        unfold refAtL; rw [if_neg]; simp only [Bool.and_eq_true, decide_eq_true_eq]; omega
      rw [hL]
      by_cases hi0 : i < 0
      · skip
        refine detP_of Try.func53 rfl (by kernel_rfl) (by simp [Try.f53]) rfl ?_
        intro C hP hN
        simp only [Try.f53] at hN ⊢
        repeat' (first
          | with_reducible refine WP.seq ?_
          | (with_reducible refine WP.region (hn := []) ?_; simp -implicitDefEqProofs [hP, hN, hmo, h0, hu, bits64, min64 hd', wr_shl h0 hd, hi0])
          | (with_reducible refine WP.draw (hn := []) (by rw [hP]; kernel_rfl) (by kernel_rfl) ?_; simp -implicitDefEqProofs [hP, hN, hmo, h0, hu, bits64, min64 hd', wr_shl h0 hd, hi0]; (try refine ⟨by kernel_rfl, ?_⟩))
          | (with_reducible refine xB_split (by simp [hmo, h0, hu, bits64, min64 hd', wr_shl h0 hd, hi0]) (fun hgd => ?_) (fun hgd => ?_) <;> first | (exfalso; simp at hgd; done) | (exfalso; simp at hgd; omega) | simp -implicitDefEqProofs [hP, hN, hmo, h0, hu, bits64, min64 hd', wr_shl h0 hd, hi0])
          | (with_reducible refine yB_split (by simp [hmo, h0, hu, bits64, min64 hd', wr_shl h0 hd, hi0]) (fun hgd => ?_) (fun hgd => ?_) <;> first | (exfalso; simp at hgd; done) | (exfalso; simp at hgd; omega) | (simp -implicitDefEqProofs [hP, hN, hmo, h0, hu, bits64, min64 hd', wr_shl h0 hd, hi0] <;> (try refine ⟨by kernel_rfl, ?_⟩)))
          | (with_reducible refine xC_intro (d120 _ _ _ (big hl) (big hm)) ?_; simp -implicitDefEqProofs [hP, hN, hmo, h0, hu, bits64, min64 hd', wr_shl h0 hd, hi0])
          | (with_reducible refine yC_intro (d120 _ _ _ (big hl) (big hm)) ?_; simp -implicitDefEqProofs [hP, hN, hmo, h0, hu, bits64, min64 hd', wr_shl h0 hd, hi0]; (try refine ⟨by kernel_rfl, ?_⟩))
          | with_reducible refine xTwo_intro ?_ ?_
          | (with_reducible refine WP.cond' ?_; simp -implicitDefEqProofs [hP, hN, hmo, h0, hu, bits64, min64 hd', wr_shl h0 hd, hi0])
          | (with_reducible refine xCond_split (fun hcd => ?_) (fun hcd => ?_) <;> (try (exfalso; clear hP hN; simp_all; done)) <;> (try (exfalso; simp at *; omega)))
          | with_reducible refine WP.block ?_
          | (with_reducible refine WP.skip ?_; simp [hmo, h0, hu, bits64, min64 hd', wr_shl h0 hd, hi0])
          | (with_reducible refine WP.exit ?_; simp [hmo, h0, hu, bits64, min64 hd', wr_shl h0 hd, hi0])
          | (with_reducible refine WP.ret ?_; simp [hmo, h0, hu, bits64, min64 hd', wr_shl h0 hd, hi0]))
      · have hi1 : 2 ^ d.toNat < i := by omega
        refine detP_of Try.func53 rfl (by kernel_rfl) (by simp [Try.f53]) rfl ?_
        intro C hP hN
        simp only [Try.f53] at hN ⊢
        repeat' (first
          | with_reducible refine WP.seq ?_
          | (with_reducible refine WP.region (hn := []) ?_; simp -implicitDefEqProofs [hP, hN, hmo, h0, hu, bits64, min64 hd', wr_shl h0 hd, hi0, hi1])
          | (with_reducible refine WP.draw (hn := []) (by rw [hP]; kernel_rfl) (by kernel_rfl) ?_; simp -implicitDefEqProofs [hP, hN, hmo, h0, hu, bits64, min64 hd', wr_shl h0 hd, hi0, hi1]; (try refine ⟨by kernel_rfl, ?_⟩))
          | (with_reducible refine xB_split (by simp [hmo, h0, hu, bits64, min64 hd', wr_shl h0 hd, hi0, hi1]) (fun hgd => ?_) (fun hgd => ?_) <;> first | (exfalso; simp at hgd; done) | (exfalso; simp at hgd; omega) | simp -implicitDefEqProofs [hP, hN, hmo, h0, hu, bits64, min64 hd', wr_shl h0 hd, hi0, hi1])
          | (with_reducible refine yB_split (by simp [hmo, h0, hu, bits64, min64 hd', wr_shl h0 hd, hi0, hi1]) (fun hgd => ?_) (fun hgd => ?_) <;> first | (exfalso; simp at hgd; done) | (exfalso; simp at hgd; omega) | (simp -implicitDefEqProofs [hP, hN, hmo, h0, hu, bits64, min64 hd', wr_shl h0 hd, hi0, hi1] <;> (try refine ⟨by kernel_rfl, ?_⟩)))
          | (with_reducible refine xC_intro (d120 _ _ _ (big hl) (big hm)) ?_; simp -implicitDefEqProofs [hP, hN, hmo, h0, hu, bits64, min64 hd', wr_shl h0 hd, hi0, hi1])
          | (with_reducible refine yC_intro (d120 _ _ _ (big hl) (big hm)) ?_; simp -implicitDefEqProofs [hP, hN, hmo, h0, hu, bits64, min64 hd', wr_shl h0 hd, hi0, hi1]; (try refine ⟨by kernel_rfl, ?_⟩))
          | with_reducible refine xTwo_intro ?_ ?_
          | (with_reducible refine WP.cond' ?_; simp -implicitDefEqProofs [hP, hN, hmo, h0, hu, bits64, min64 hd', wr_shl h0 hd, hi0, hi1])
          | (with_reducible refine xCond_split (fun hcd => ?_) (fun hcd => ?_) <;> (try (exfalso; clear hP hN; simp_all; done)) <;> (try (exfalso; simp at *; omega)))
          | with_reducible refine WP.block ?_
          | (with_reducible refine WP.skip ?_; simp [hmo, h0, hu, bits64, min64 hd', wr_shl h0 hd, hi0, hi1])
          | (with_reducible refine WP.exit ?_; simp [hmo, h0, hu, bits64, min64 hd', wr_shl h0 hd, hi0, hi1])
          | (with_reducible refine WP.ret ?_; simp [hmo, h0, hu, bits64, min64 hd', wr_shl h0 hd, hi0, hi1]))
end Go.Ab
