/- ConfigPieces: the reference's pieces are the program's. -/
import Derived.Test.YtgamhginhckcpaaCf13
import Derived.Test.YtgamhginhckcpaaPl3
set_option linter.all false
namespace Go.Ab
open Go.Proofs
theorem ediv_uniq {a b k : Int} (hb : 0 < b) (h1 : k * b ≤ a) (h2 : a < (k + 1) * b) : a / b = k := by
  have := (Int.le_ediv_iff_mul_le hb).2 h1
  have := (Int.ediv_lt_iff_lt_mul hb).2 h2
  omega
theorem floorI_eq {a b : Int} (hb : 0 < b) (h1 : -4611686018427387904 ≤ a) (h2 : a ≤ 4611686018427387904) : floorI a b = a / b := by
  have hq := Int.mul_tdiv_add_tmod a b
  have h3 : -b < a.tmod b := Int.lt_tmod_of_pos a hb
  have h4 : a.tmod b < b := Int.tmod_lt_of_pos a hb
  have hbd := ediv_bound (a := a) (N := b) (B := 4611686018427387904) hb h1 h2
  rw [Int.mul_comm] at hq
  unfold floorI
  split
  · have e : a / b = a.tdiv b - 1 := ediv_uniq hb (by rw [Int.sub_mul]; omega) (by rw [show a.tdiv b - 1 + 1 = a.tdiv b by omega]; omega)
    rw [wr_id (n := a.tdiv b) (by omega) (by omega), wr_id (by omega) (by omega), e]
  · have e : a / b = a.tdiv b := ediv_uniq hb (by omega) (by rw [Int.add_mul]; omega)
    rw [wr_id (n := a.tdiv b) (by omega) (by omega), e]
theorem ceilI_eq {a b : Int} (hb : 0 < b) (h1 : -4611686018427387904 ≤ a) (h2 : a ≤ 4611686018427387904) : ceilI a b = -(-a / b) := by
  have hq := Int.mul_tdiv_add_tmod a b
  have h3 : -b < a.tmod b := Int.lt_tmod_of_pos a hb
  have h4 : a.tmod b < b := Int.tmod_lt_of_pos a hb
  have hbd := ediv_bound (a := -a) (N := b) (B := 4611686018427387904) hb (by omega) (by omega)
  rw [Int.mul_comm] at hq
  unfold ceilI
  split
  · have e : -a / b = -a.tdiv b - 1 := ediv_uniq hb (by rw [Int.sub_mul, Int.neg_mul]; omega) (by rw [show -a.tdiv b - 1 + 1 = -a.tdiv b by omega, Int.neg_mul]; omega)
    rw [wr_id (n := a.tdiv b) (by omega) (by omega), wr_id (by omega) (by omega), e]; omega
  · have e : -a / b = -a.tdiv b := ediv_uniq hb (by rw [Int.neg_mul]; omega) (by rw [Int.add_mul, Int.neg_mul]; omega)
    rw [wr_id (n := a.tdiv b) (by omega) (by omega), e]; omega
theorem refPieceI_eq {i d f t : Int} (hi : 0 ≤ i) (hi' : i ≤ 1048576) (hf : small f) (ht : small t) : refPieceI i d f t = pieceI i d f t := by
  rw [pieceI_eq hi hi' hf ht]
  unfold small at hf ht
  have e1 : wr (t - f) = t - f := wr_id (by omega) (by omega)
  have e0 : wr (i + 1) = i + 1 := wr_id (by omega) (by omega)
  have b1 := mul_bound (i := i) (D := t - f) (A := 1048577) (B := 4294967296) hi (by omega) (by omega) (by omega)
  have b2 := mul_bound (i := i + 1) (D := t - f) (A := 1048577) (B := 4294967296) (by omega) (by omega) (by omega) (by omega)
  have e2 : wr (i * (t - f)) = i * (t - f) := wr_id (by omega) (by omega)
  have e3 : wr ((i + 1) * (t - f)) = (i + 1) * (t - f) := wr_id (by omega) (by omega)
  simp only [refPieceI, pieceP, e1, e0, e2, e3]
  generalize i * (t - f) = a at *
  generalize (i + 1) * (t - f) = b at *
  have hN : (0 : Int) < 2 ^ d.toNat := pow_pos2 _
  rw [floorI_eq hN (by omega) (by omega), ceilI_eq hN (by omega) (by omega)]
  have c1 := ediv_bound (a := min a b) (N := 2 ^ d.toNat) (B := 1048577 * 4294967296) hN (by omega) (by omega)
  have c2 := ediv_bound (a := -max a b) (N := 2 ^ d.toNat) (B := 1048577 * 4294967296) hN (by omega) (by omega)
  rw [wr_id (by omega) (by omega), wr_id (by omega) (by omega)]
  refine Prod.ext rfl ?_
  simp only; omega
theorem refAtI_eq {i d f t : Int} (hi : 0 ≤ i) (hi' : i ≤ 1048576) (hf : small f) (ht : small t) : refAtI i d f t = atI i d f t := by
  rw [atI_eq hi hi' hf ht]
  unfold small at hf ht
  have e1 : wr (t - f) = t - f := wr_id (by omega) (by omega)
  have b1 := mul_bound (i := i) (D := t - f) (A := 1048577) (B := 4294967296) hi (by omega) (by omega) (by omega)
  have e2 : wr (i * (t - f)) = i * (t - f) := wr_id (by omega) (by omega)
  have hN : (0 : Int) < 2 ^ d.toNat := pow_pos2 _
  simp only [refAtI, atP, e1, e2]
  rw [floorI_eq hN (by omega) (by omega)]
  have c1 := ediv_bound (a := i * (t - f)) (N := 2 ^ d.toNat) (B := 1048577 * 4294967296) hN (by omega) (by omega)
  rw [wr_id (by omega) (by omega)]
theorem small_of {xs : List Int} (h : allB smallB xs = true) : ∀ x ∈ xs, small x := by
  rw [allB_iff] at h
  intro x hx
  have := h x hx
  simpa [smallB, small] using this
theorem zip_congr {α β γ : Type} {f g : α → β → γ} : ∀ {xs : List α} {ys : List β}, (∀ a ∈ xs, ∀ b ∈ ys, f a b = g a b) → List.zipWith f xs ys = List.zipWith g xs ys
  | [], _, _ => rfl
  | _ :: _, [], _ => rfl
  | a :: xs, b :: ys, h => by
    simp only [List.zipWith_cons_cons]
    rw [h a (by simp) b (by simp), zip_congr (fun a ha b hb => h a (by simp [ha]) b (by simp [hb]))]
theorem refPieceL_eq (xs ys : List Int) (d i : Int) : refPieceL xs ys d i = pieceL xs ys d i := by
  unfold refPieceL pieceL
  split
  · rename_i h
    simp only [Bool.and_eq_true, decide_eq_true_eq] at h
    obtain ⟨_, hx, hy, h0, hd⟩ := motionB_true h.1.1
    have hb := pow_le20 hd
    refine Prod.ext ?_ rfl
    exact zip_congr (fun a ha b hb' => refPieceI_eq h.1.2 (by omega) (small_of hx a ha) (small_of hy b hb'))
  · rfl
theorem refAtL_eq (xs ys : List Int) (d i : Int) : refAtL xs ys d i = atL xs ys d i := by
  unfold refAtL atL
  split
  · rename_i h
    simp only [Bool.and_eq_true, decide_eq_true_eq] at h
    obtain ⟨_, hx, hy, h0, hd⟩ := motionB_true h.1.1
    have hb := pow_le20 hd
    refine Prod.ext ?_ rfl
    exact zip_congr (fun a ha b hb' => refAtI_eq h.1.2 (by omega) (small_of hx a ha) (small_of hy b hb'))
  · rfl
theorem atL_len (xs ys : List Int) (d i : Int) : (atL xs ys d i).1.length ≤ xs.length := by unfold atL; split <;> simp; omega
set_option maxHeartbeats 4000000 in
theorem d23 (xs ys : List Int) (d i : Int) (hl : xs.length ≤ 16777216) (hm : ys.length ≤ 16777216) : DetH Try.prog 23 [.pv (zs xs), .pv (zs ys), .pv (Z d), .pv (Z i)] [] [] (.pv (B true)) := by
  have c1 := d14 xs ys d i hl hm
  have c2 := d51 xs ys d i hl hm
  have c3 := d24 xs ys d i hl hm
  have c4 := d52 xs ys d i hl hm
  rw [refPieceL_eq] at c2
  rw [refAtL_eq] at c4
  have l1 : (pieceL xs ys d i).1.length ≤ 9223372036854775807 := big (Nat.le_trans (piece_len _ _ _ _) hl)
  have l2 : (atL xs ys d i).1.length ≤ 9223372036854775807 := big (Nat.le_trans (atL_len _ _ _ _) hl)
  have c5 := d20 (pieceL xs ys d i).1 (pieceL xs ys d i).1 l1 l1
  have c6 := d26 (atL xs ys d i).1 (atL xs ys d i).1 l2 l2
  rw [same_refl] at c5 c6
  refine detP_of Try.func23 rfl (by kernel_rfl) (by simp [Try.f23]) rfl ?_
  intro C hP hN
  simp only [Try.f23] at hN ⊢
  repeat' (first
    | with_reducible refine WP.seq ?_
    | (with_reducible refine WP.region (hn := []) ?_; simp [hP, hN])
    | (with_reducible refine WP.draw (hn := []) (by rw [hP]; kernel_rfl) (by kernel_rfl) ?_; simp [hP, hN]; (try refine ⟨by kernel_rfl, ?_⟩))
    | (with_reducible refine xB_split (by simp) (fun hgd => ?_) (fun hgd => ?_) <;> first | (exfalso; simp at hgd; done) | (exfalso; simp at hgd; omega) | simp [hP, hN])
    | (with_reducible refine yB_split (by simp) (fun hgd => ?_) (fun hgd => ?_) <;> first | (exfalso; simp at hgd; done) | (exfalso; simp at hgd; omega) | (simp [hP, hN] <;> (try refine ⟨by kernel_rfl, ?_⟩)))
    | (with_reducible refine xC_intro (c1) ?_; simp [hP, hN])
    | (with_reducible refine yC_intro (c1) ?_; simp [hP, hN]; (try refine ⟨by kernel_rfl, ?_⟩))
    | (with_reducible refine xC_intro (c2) ?_; simp [hP, hN])
    | (with_reducible refine yC_intro (c2) ?_; simp [hP, hN]; (try refine ⟨by kernel_rfl, ?_⟩))
    | (with_reducible refine xC_intro (c3) ?_; simp [hP, hN])
    | (with_reducible refine yC_intro (c3) ?_; simp [hP, hN]; (try refine ⟨by kernel_rfl, ?_⟩))
    | (with_reducible refine xC_intro (c4) ?_; simp [hP, hN])
    | (with_reducible refine yC_intro (c4) ?_; simp [hP, hN]; (try refine ⟨by kernel_rfl, ?_⟩))
    | (with_reducible refine xC_intro (c5) ?_; simp [hP, hN])
    | (with_reducible refine yC_intro (c5) ?_; simp [hP, hN]; (try refine ⟨by kernel_rfl, ?_⟩))
    | (with_reducible refine xC_intro (c6) ?_; simp [hP, hN])
    | (with_reducible refine yC_intro (c6) ?_; simp [hP, hN]; (try refine ⟨by kernel_rfl, ?_⟩))
    | with_reducible refine xTwo_intro ?_ ?_
    | (with_reducible refine WP.cond' ?_; simp [hP, hN])
    | (with_reducible refine xCond_split (fun hcd => ?_) (fun hcd => ?_) <;> (try (exfalso; clear hP hN; simp_all; done)) <;> (try (exfalso; simp at *; omega)))
    | with_reducible refine WP.block ?_
    | (with_reducible refine WP.skip ?_; simp)
    | (with_reducible refine WP.exit ?_; simp)
    | (with_reducible refine WP.ret ?_; simp))
set_option maxHeartbeats 4000000 in
theorem d5 (p q : List Int) (depth index : Int) (l m n : List Int) (hp : p.length ≤ 16777216) (hq : q.length ≤ 16777216) : DetH Try.prog 5 [.pv (zs p), .pv (zs q), .pv (Z depth), .pv (Z index), .pv (zs l), .pv (zs m), .pv (zs n)] [] [] (.pv (B true)) := by
  have hlen := rJs_len l 0
  have hx : (cfgL m (rJs l 0)).length ≤ 16777216 := by rw [cfgL_len]; omega
  have hy : (cfgL n (rJs l 0)).length ≤ 16777216 := by rw [cfgL_len]; omega
  have cr := d21 l
  have ca := d22 m (rJs l 0) (rMs l 0) (by omega) (rJs_ok l 0)
  have cb := d22 n (rJs l 0) (rMs l 0) (by omega) (rJs_ok l 0)
  generalize cfgL m (rJs l 0) = x at *
  generalize cfgL n (rJs l 0) = y at *
  have hr := round_range depth (k := 23) (by decide) (by decide)
  have r1 := d15 depth 23 (by decide)
  generalize roundI depth 23 = e at *
  obtain ⟨f, hf⟩ : ∃ f, f = e - 1 := ⟨_, rfl⟩
  have w1 : IntKind.i64.wrap (e - 1) = f := by rw [hf]; exact wr_id (by omega) (by omega)
  have hm0 : 0 ≤ max 0 f ∧ max 0 f ≤ 21 := by omega
  have hu : IntKind.u64.wrap (max 0 f) = max 0 f := by rw [IntKind.wrap_u64]; omega
  have hm64 : max 0 f < 64 := by omega
  have hpw : (0 : Int) < 2 ^ (max 0 f).toNat ∧ (2 : Int) ^ (max 0 f).toNat ≤ 2097152 := by
    have h : ∀ k : Nat, k ≤ 21 → (0 : Int) < 2 ^ k ∧ (2 : Int) ^ k ≤ 2097152 := by decide
    exact h _ (by omega)
  have w2 : IntKind.i64.wrap (2 ^ (max 0 f).toNat) = 2 ^ (max 0 f).toNat := wr_id (by omega) (by omega)
  have w3 : IntKind.i64.wrap (2 ^ (max 0 f).toNat + 3) = 2 ^ (max 0 f).toNat + 3 := wr_id (by omega) (by omega)
  have r2 := d15 index (2 ^ (max 0 f).toNat + 3) (by omega)
  have hr2 := round_range index (k := 2 ^ (max 0 f).toNat + 3) (by omega) (by omega)
  generalize roundI index (2 ^ (max 0 f).toNat + 3) = g at *
  have w4 : IntKind.i64.wrap (g - 1) = g - 1 := wr_id (by omega) (by omega)
  refine detP_of Try.func5 rfl (by kernel_rfl) (by simp [Try.f5]) rfl ?_
  intro C hP hN
  simp only [Try.f5] at hN ⊢
  repeat' (first
    | with_reducible refine WP.seq ?_
    | (with_reducible refine WP.region (hn := []) ?_; simp [hP, hN, srcP, w1, hu, hm0.1, bits64, min64 hm64, w2, w3, w4])
    | (with_reducible refine WP.draw (hn := []) (by rw [hP]; kernel_rfl) (by kernel_rfl) ?_; simp [hP, hN, srcP, w1, hu, hm0.1, bits64, min64 hm64, w2, w3, w4]; (try refine ⟨by kernel_rfl, ?_⟩))
    | (with_reducible refine xB_split (by simp [srcP, w1, hu, hm0.1, bits64, min64 hm64, w2, w3, w4]) (fun hgd => ?_) (fun hgd => ?_) <;> first | (exfalso; simp at hgd; done) | (exfalso; simp at hgd; omega) | simp [hP, hN, srcP, w1, hu, hm0.1, bits64, min64 hm64, w2, w3, w4])
    | (with_reducible refine yB_split (by simp [srcP, w1, hu, hm0.1, bits64, min64 hm64, w2, w3, w4]) (fun hgd => ?_) (fun hgd => ?_) <;> first | (exfalso; simp at hgd; done) | (exfalso; simp at hgd; omega) | (simp [hP, hN, srcP, w1, hu, hm0.1, bits64, min64 hm64, w2, w3, w4] <;> (try refine ⟨by kernel_rfl, ?_⟩)))
    | (with_reducible refine xC_intro (cr) ?_; simp [hP, hN, srcP, w1, hu, hm0.1, bits64, min64 hm64, w2, w3, w4])
    | (with_reducible refine yC_intro (cr) ?_; simp [hP, hN, srcP, w1, hu, hm0.1, bits64, min64 hm64, w2, w3, w4]; (try refine ⟨by kernel_rfl, ?_⟩))
    | (with_reducible refine xC_intro (ca) ?_; simp [hP, hN, srcP, w1, hu, hm0.1, bits64, min64 hm64, w2, w3, w4])
    | (with_reducible refine yC_intro (ca) ?_; simp [hP, hN, srcP, w1, hu, hm0.1, bits64, min64 hm64, w2, w3, w4]; (try refine ⟨by kernel_rfl, ?_⟩))
    | (with_reducible refine xC_intro (cb) ?_; simp [hP, hN, srcP, w1, hu, hm0.1, bits64, min64 hm64, w2, w3, w4])
    | (with_reducible refine yC_intro (cb) ?_; simp [hP, hN, srcP, w1, hu, hm0.1, bits64, min64 hm64, w2, w3, w4]; (try refine ⟨by kernel_rfl, ?_⟩))
    | (with_reducible refine xC_intro (r1) ?_; simp [hP, hN, srcP, w1, hu, hm0.1, bits64, min64 hm64, w2, w3, w4])
    | (with_reducible refine yC_intro (r1) ?_; simp [hP, hN, srcP, w1, hu, hm0.1, bits64, min64 hm64, w2, w3, w4]; (try refine ⟨by kernel_rfl, ?_⟩))
    | (with_reducible refine xC_intro (r2) ?_; simp [hP, hN, srcP, w1, hu, hm0.1, bits64, min64 hm64, w2, w3, w4])
    | (with_reducible refine yC_intro (r2) ?_; simp [hP, hN, srcP, w1, hu, hm0.1, bits64, min64 hm64, w2, w3, w4]; (try refine ⟨by kernel_rfl, ?_⟩))
    | (with_reducible refine xC_intro (d23 _ _ _ _ hp hq) ?_; simp [hP, hN, srcP, w1, hu, hm0.1, bits64, min64 hm64, w2, w3, w4])
    | (with_reducible refine yC_intro (d23 _ _ _ _ hp hq) ?_; simp [hP, hN, srcP, w1, hu, hm0.1, bits64, min64 hm64, w2, w3, w4]; (try refine ⟨by kernel_rfl, ?_⟩))
    | (with_reducible refine xC_intro (d23 _ _ _ _ hx hy) ?_; simp [hP, hN, srcP, w1, hu, hm0.1, bits64, min64 hm64, w2, w3, w4])
    | (with_reducible refine yC_intro (d23 _ _ _ _ hx hy) ?_; simp [hP, hN, srcP, w1, hu, hm0.1, bits64, min64 hm64, w2, w3, w4]; (try refine ⟨by kernel_rfl, ?_⟩))
    | (with_reducible refine xC_intro (d23 _ _ _ _ hp hy) ?_; simp [hP, hN, srcP, w1, hu, hm0.1, bits64, min64 hm64, w2, w3, w4])
    | (with_reducible refine yC_intro (d23 _ _ _ _ hp hy) ?_; simp [hP, hN, srcP, w1, hu, hm0.1, bits64, min64 hm64, w2, w3, w4]; (try refine ⟨by kernel_rfl, ?_⟩))
    | (with_reducible refine xC_intro (d16) ?_; simp [hP, hN, srcP, w1, hu, hm0.1, bits64, min64 hm64, w2, w3, w4])
    | (with_reducible refine yC_intro (d16) ?_; simp [hP, hN, srcP, w1, hu, hm0.1, bits64, min64 hm64, w2, w3, w4]; (try refine ⟨by kernel_rfl, ?_⟩))
    | with_reducible refine xTwo_intro ?_ ?_
    | (with_reducible refine WP.cond' ?_; simp [hP, hN, srcP, w1, hu, hm0.1, bits64, min64 hm64, w2, w3, w4])
    | (with_reducible refine xCond_split (fun hcd => ?_) (fun hcd => ?_) <;> (try (exfalso; clear hP hN; simp_all; done)) <;> (try (exfalso; simp at *; omega)))
    | with_reducible refine WP.block ?_
    | (with_reducible refine WP.skip ?_; simp [srcP, w1, hu, hm0.1, bits64, min64 hm64, w2, w3, w4])
    | (with_reducible refine WP.exit ?_; simp [srcP, w1, hu, hm0.1, bits64, min64 hm64, w2, w3, w4])
    | (with_reducible refine WP.ret ?_; simp [srcP, w1, hu, hm0.1, bits64, min64 hm64, w2, w3, w4]))
end Go.Ab
