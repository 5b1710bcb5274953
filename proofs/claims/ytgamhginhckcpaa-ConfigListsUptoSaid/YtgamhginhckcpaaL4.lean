/- The walk of ConfigReverse. -/
import Derived.Test.YtgamhginhckcpaaCf10
set_option linter.all false
namespace Go.Ab
open Go.Proofs
theorem cfgL_len (l : List Int) (js : List J) : (cfgL l js).length = js.length := by simp [cfgL]
theorem piece_len (xs ys : List Int) (d i : Int) : (pieceL xs ys d i).1.length ≤ xs.length := by
  unfold pieceL; split <;> simp; omega
theorem mot_facts (depth index : Int) : 0 ≤ motD depth ∧ motD depth < 20 ∧ 0 ≤ motI depth index ∧ motI depth index < 2 ^ (motD depth).toNat ∧ (2 : Int) ^ (motD depth).toNat ≤ 524288 := by
  have h := round_range depth (k := 20) (by decide) (by decide)
  have hp : ∀ n : Nat, n < 20 → (2 : Int) ^ n ≤ 524288 ∧ 0 < (2 : Int) ^ n := by decide
  have hp' := hp (motD depth).toNat (by unfold motD; omega)
  have h2 := round_range index (k := 2 ^ (motD depth).toNat) hp'.2 (by omega)
  exact ⟨h.1, h.2, h2.1, h2.2, hp'.1⟩
def revB (p q : List Int) (d i : Int) : Bool := (pieceL p q d i).2 && (pieceL q p d (2 ^ d.toNat - 1 - i)).2 && sameX (pieceL p q d i).1 (pieceL q p d (2 ^ d.toNat - 1 - i)).1
set_option maxHeartbeats 4000000 in
theorem d4 (l m n : List Int) (depth index : Int) : DetH Try.prog 4 [.pv (zs l), .pv (zs m), .pv (zs n), .pv (Z depth), .pv (Z index)] [] [] (.pv (B (revB (cfgL m (rJs l 0)) (cfgL n (rJs l 0)) (motD depth) (motI depth index)))) := by
  obtain ⟨h1, h2, h3, h4, h5⟩ := mot_facts depth index
  have hlen := rJs_len l 0
  have hp : (cfgL m (rJs l 0)).length ≤ 16777216 := by rw [cfgL_len]; omega
  have hq : (cfgL n (rJs l 0)).length ≤ 16777216 := by rw [cfgL_len]; omega
  have hu : IntKind.u64.wrap (motD depth) = motD depth := by rw [IntKind.wrap_u64]; omega
  have hd' : motD depth < 64 := by omega
  have hw1 : IntKind.i64.wrap (2 ^ (motD depth).toNat - 1) = 2 ^ (motD depth).toNat - 1 := wr_id (by omega) (by omega)
  have hw2 : IntKind.i64.wrap (2 ^ (motD depth).toNat - 1 - motI depth index) = 2 ^ (motD depth).toNat - 1 - motI depth index := wr_id (by omega) (by omega)
  refine detP_of Try.func4 rfl (by kernel_rfl) (by simp [Try.f4]) rfl ?_
  intro C hP hN
  simp only [Try.f4] at hN ⊢
  repeat' (first
    | with_reducible refine WP.seq ?_
    | (with_reducible refine WP.region (hn := []) ?_; simp [hP, hN, hu, h1, bits64, min64 hd', wr_shl h1 (by omega), hw1, hw2])
    | (with_reducible refine WP.draw (hn := []) (by rw [hP]; kernel_rfl) (by kernel_rfl) ?_; simp [hP, hN, hu, h1, bits64, min64 hd', wr_shl h1 (by omega), hw1, hw2]; (try refine ⟨by kernel_rfl, ?_⟩))
    | (with_reducible refine xB_split (by simp [hu, h1, bits64, min64 hd', wr_shl h1 (by omega), hw1, hw2]) (fun hgd => ?_) (fun hgd => ?_) <;> first | (exfalso; simp at hgd; done) | (exfalso; simp at hgd; omega) | simp [hP, hN, hu, h1, bits64, min64 hd', wr_shl h1 (by omega), hw1, hw2])
    | (with_reducible refine yB_split (by simp [hu, h1, bits64, min64 hd', wr_shl h1 (by omega), hw1, hw2]) (fun hgd => ?_) (fun hgd => ?_) <;> first | (exfalso; simp at hgd; done) | (exfalso; simp at hgd; omega) | (simp [hP, hN, hu, h1, bits64, min64 hd', wr_shl h1 (by omega), hw1, hw2] <;> (try refine ⟨by kernel_rfl, ?_⟩)))
    | (with_reducible refine xC_intro (d13 _ _ _ _ _) ?_; simp [hP, hN, hu, h1, bits64, min64 hd', wr_shl h1 (by omega), hw1, hw2])
    | (with_reducible refine yC_intro (d13 _ _ _ _ _) ?_; simp [hP, hN, hu, h1, bits64, min64 hd', wr_shl h1 (by omega), hw1, hw2]; (try refine ⟨by kernel_rfl, ?_⟩))
    | (with_reducible refine xC_intro (d14 _ _ _ _ hp hq) ?_; simp [hP, hN, hu, h1, bits64, min64 hd', wr_shl h1 (by omega), hw1, hw2])
    | (with_reducible refine yC_intro (d14 _ _ _ _ hp hq) ?_; simp [hP, hN, hu, h1, bits64, min64 hd', wr_shl h1 (by omega), hw1, hw2]; (try refine ⟨by kernel_rfl, ?_⟩))
    | (with_reducible refine xC_intro (d14 _ _ _ _ hq hp) ?_; simp [hP, hN, hu, h1, bits64, min64 hd', wr_shl h1 (by omega), hw1, hw2])
    | (with_reducible refine yC_intro (d14 _ _ _ _ hq hp) ?_; simp [hP, hN, hu, h1, bits64, min64 hd', wr_shl h1 (by omega), hw1, hw2]; (try refine ⟨by kernel_rfl, ?_⟩))
    | (with_reducible refine xC_intro (d16) ?_; simp [hP, hN, hu, h1, bits64, min64 hd', wr_shl h1 (by omega), hw1, hw2])
    | (with_reducible refine yC_intro (d16) ?_; simp [hP, hN, hu, h1, bits64, min64 hd', wr_shl h1 (by omega), hw1, hw2]; (try refine ⟨by kernel_rfl, ?_⟩))
    | (with_reducible refine xC_intro (d20 _ _ (big (Nat.le_trans (piece_len _ _ _ _) hp)) (big (Nat.le_trans (piece_len _ _ _ _) hq))) ?_; simp [hP, hN, hu, h1, bits64, min64 hd', wr_shl h1 (by omega), hw1, hw2])
    | (with_reducible refine yC_intro (d20 _ _ (big (Nat.le_trans (piece_len _ _ _ _) hp)) (big (Nat.le_trans (piece_len _ _ _ _) hq))) ?_; simp [hP, hN, hu, h1, bits64, min64 hd', wr_shl h1 (by omega), hw1, hw2]; (try refine ⟨by kernel_rfl, ?_⟩))
    | with_reducible refine xTwo_intro ?_ ?_
    | (with_reducible refine WP.cond' ?_; simp [hP, hN, hu, h1, bits64, min64 hd', wr_shl h1 (by omega), hw1, hw2])
    | (with_reducible refine xCond_split (fun hcd => ?_) (fun hcd => ?_) <;> (try (exfalso; clear hP hN; simp_all; done)) <;> (try (exfalso; simp at *; omega)))
    | with_reducible refine WP.block ?_
    | (with_reducible refine WP.skip ?_; simp [hu, h1, bits64, min64 hd', wr_shl h1 (by omega), hw1, hw2])
    | (with_reducible refine WP.exit ?_; simp [hu, h1, bits64, min64 hd', wr_shl h1 (by omega), hw1, hw2])
    | (with_reducible refine WP.ret ?_; simp [hu, h1, bits64, min64 hd', wr_shl h1 (by omega), hw1, hw2]))
  all_goals simp_all [revB]
end Go.Ab
