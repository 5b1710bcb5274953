/- ConfigNested and ConfigEnds: the walks. -/
import Derived.Test.YtgamhginhckcpaaPl3
set_option linter.all false
namespace Go.Ab
open Go.Proofs
set_option maxHeartbeats 4000000 in
theorem d3 (l m n : List Int) (depth index more at_ : Int) : DetH Try.prog 3 [.pv (zs l), .pv (zs m), .pv (zs n), .pv (Z depth), .pv (Z index), .pv (Z more), .pv (Z at_)] [] [] (.pv (B true)) := by
  have hM := mot_mot l m n depth index
  have hmo := d13 l m n depth index
  obtain ⟨_, _, _, _, hpw⟩ := mot_facts depth index
  generalize cfgL m (rJs l 0) = p at hM hmo
  generalize cfgL n (rJs l 0) = q at hM hmo
  generalize motD depth = d at hM hmo hpw
  generalize motI depth index = i at hM hmo
  have hd0 := hM.d0
  have hd1 := hM.d1
  have hi0 := hM.i0
  have hi1 := hM.i1
  have hp : p.length ≤ 16777216 := by have := hM.le; omega
  have hq : q.length ≤ 16777216 := by have := hM.le; have := hM.len; omega
  have hkr := round_range more (k := 20 - d + 1) (by omega) (by omega)
  generalize hk : roundI more (20 - d + 1) = k at hkr
  have hpk := pow_le20 (d := k) (by omega)
  have hKpos : (0 : Int) < 2 ^ k.toNat := pow_pos2 _
  have har := round_range at_ (k := 2 ^ k.toNat) hKpos (by omega)
  generalize ha : roundI at_ (2 ^ k.toNat) = a at har
  have hnb := nest_true (k := k) (at_ := a) hM hkr.1 (by omega) har.1 har.2
  have ht : ∀ x y, ((pieceL p q x y).1.length ≤ 9223372036854775807) := fun x y => big (Nat.le_trans (piece_len p q x y) hp)
  have c1 := d14 p q d i hp hq
  have c2 := d14 p q (d + 1) (2 * i) hp hq
  have c3 := d14 p q (d + 1) (2 * i + 1) hp hq
  have c4 := d14 p q (d + k) (i * 2 ^ k.toNat + a) hp hq
  have w1 := d17 (pieceL p q (d + 1) (2 * i)).1 (pieceL p q d i).1 (ht _ _) (ht _ _)
  have w2 := d17 (pieceL p q (d + 1) (2 * i + 1)).1 (pieceL p q d i).1 (ht _ _) (ht _ _)
  have w3 := d17 (pieceL p q (d + k) (i * 2 ^ k.toNat + a)).1 (pieceL p q d i).1 (ht _ _) (ht _ _)
  have hbl : ∀ xs : List Int, (boxL xs).length ≤ xs.length := fun xs => by unfold boxL; split <;> simp
  have hhl : (hullL (boxL p) (boxL q)).length ≤ 9223372036854775807 := by
    have := hbl p
    unfold hullL; split <;> simp; omega
  have b1 := d19 p hp
  have b2 := d19 q hq
  have b3 := d18 (boxL p) (boxL q) (Nat.le_trans (hbl _) hp) (Nat.le_trans (hbl _) hq)
  have w4 := d17 (pieceL p q d i).1 (hullL (boxL p) (boxL q)) (ht _ _) hhl
  simp only [nestB, Bool.and_eq_true, decide_eq_true_eq] at hnb
  obtain ⟨⟨⟨⟨⟨⟨⟨⟨g1, g2⟩, g3⟩, g4⟩, g5⟩, g6⟩, g7⟩, g8⟩, g9⟩ := hnb
  rw [g1] at c1
  rw [g2] at c2
  rw [g3] at c3
  rw [g4] at c4
  rw [g5] at w1
  rw [g6] at w2
  rw [g7] at w3
  rw [g8] at w4
  have r1 := d15 more (20 - d + 1) (by omega)
  have r2 := d15 at_ (2 ^ k.toNat) (by omega)
  rw [hk] at r1
  rw [ha] at r2
  have hu : IntKind.u64.wrap k = k := by rw [IntKind.wrap_u64]; omega
  have hk64 : k < 64 := by omega
  have bik : 0 ≤ i * 2 ^ k.toNat ∧ i * 2 ^ k.toNat ≤ 1099511627776 := by
    have h1 : i * 2 ^ k.toNat ≤ 1048576 * 2 ^ k.toNat := Int.mul_le_mul_of_nonneg_right (by omega) (by omega)
    have h2 : (1048576 : Int) * 2 ^ k.toNat ≤ 1048576 * 1048576 := by omega
    exact ⟨Int.mul_nonneg hi0 (by omega), by omega⟩
  have e1 : IntKind.i64.wrap (d + 1) = d + 1 := wr_id (by omega) (by omega)
  have e2 : IntKind.i64.wrap (2 * i) = 2 * i := wr_id (by omega) (by omega)
  have e3 : IntKind.i64.wrap (2 * i + 1) = 2 * i + 1 := wr_id (by omega) (by omega)
  have e4 : IntKind.i64.wrap (20 - d) = 20 - d := wr_id (by omega) (by omega)
  have e5 : IntKind.i64.wrap (20 - d + 1) = 20 - d + 1 := wr_id (by omega) (by omega)
  have e6 : IntKind.i64.wrap (d + k) = d + k := wr_id (by omega) (by omega)
  have e7 : IntKind.i64.wrap (i * 2 ^ k.toNat) = i * 2 ^ k.toNat := wr_id (by omega) (by omega)
  have e8 : IntKind.i64.wrap (i * 2 ^ k.toNat + a) = i * 2 ^ k.toNat + a := wr_id (by omega) (by omega)
  have e9 : IntKind.i64.wrap (2 ^ k.toNat) = 2 ^ k.toNat := wr_id (by omega) (by omega)
  refine detP_of Try.func3 rfl (by kernel_rfl) (by simp [Try.f3]) rfl ?_
  intro C hP hN
  simp only [Try.f3] at hN ⊢
  repeat' (first
    | with_reducible refine WP.seq ?_
    | (with_reducible refine WP.region (hn := []) ?_; simp [hP, hN, hu, hkr.1, bits64, min64 hk64, e1, e2, e3, e4, e5, e6, e7, e8, e9, g9])
    | (with_reducible refine WP.draw (hn := []) (by rw [hP]; kernel_rfl) (by kernel_rfl) ?_; simp [hP, hN, hu, hkr.1, bits64, min64 hk64, e1, e2, e3, e4, e5, e6, e7, e8, e9, g9]; (try refine ⟨by kernel_rfl, ?_⟩))
    | (with_reducible refine xB_split (by simp [hu, hkr.1, bits64, min64 hk64, e1, e2, e3, e4, e5, e6, e7, e8, e9, g9]) (fun hgd => ?_) (fun hgd => ?_) <;> first | (exfalso; simp at hgd; done) | (exfalso; simp at hgd; omega) | simp [hP, hN, hu, hkr.1, bits64, min64 hk64, e1, e2, e3, e4, e5, e6, e7, e8, e9, g9])
    | (with_reducible refine yB_split (by simp [hu, hkr.1, bits64, min64 hk64, e1, e2, e3, e4, e5, e6, e7, e8, e9, g9]) (fun hgd => ?_) (fun hgd => ?_) <;> first | (exfalso; simp at hgd; done) | (exfalso; simp at hgd; omega) | (simp [hP, hN, hu, hkr.1, bits64, min64 hk64, e1, e2, e3, e4, e5, e6, e7, e8, e9, g9] <;> (try refine ⟨by kernel_rfl, ?_⟩)))
    | (with_reducible refine xC_intro (hmo) ?_; simp [hP, hN, hu, hkr.1, bits64, min64 hk64, e1, e2, e3, e4, e5, e6, e7, e8, e9, g9])
    | (with_reducible refine yC_intro (hmo) ?_; simp [hP, hN, hu, hkr.1, bits64, min64 hk64, e1, e2, e3, e4, e5, e6, e7, e8, e9, g9]; (try refine ⟨by kernel_rfl, ?_⟩))
    | (with_reducible refine xC_intro (c1) ?_; simp [hP, hN, hu, hkr.1, bits64, min64 hk64, e1, e2, e3, e4, e5, e6, e7, e8, e9, g9])
    | (with_reducible refine yC_intro (c1) ?_; simp [hP, hN, hu, hkr.1, bits64, min64 hk64, e1, e2, e3, e4, e5, e6, e7, e8, e9, g9]; (try refine ⟨by kernel_rfl, ?_⟩))
    | (with_reducible refine xC_intro (c2) ?_; simp [hP, hN, hu, hkr.1, bits64, min64 hk64, e1, e2, e3, e4, e5, e6, e7, e8, e9, g9])
    | (with_reducible refine yC_intro (c2) ?_; simp [hP, hN, hu, hkr.1, bits64, min64 hk64, e1, e2, e3, e4, e5, e6, e7, e8, e9, g9]; (try refine ⟨by kernel_rfl, ?_⟩))
    | (with_reducible refine xC_intro (c3) ?_; simp [hP, hN, hu, hkr.1, bits64, min64 hk64, e1, e2, e3, e4, e5, e6, e7, e8, e9, g9])
    | (with_reducible refine yC_intro (c3) ?_; simp [hP, hN, hu, hkr.1, bits64, min64 hk64, e1, e2, e3, e4, e5, e6, e7, e8, e9, g9]; (try refine ⟨by kernel_rfl, ?_⟩))
    | (with_reducible refine xC_intro (c4) ?_; simp [hP, hN, hu, hkr.1, bits64, min64 hk64, e1, e2, e3, e4, e5, e6, e7, e8, e9, g9])
    | (with_reducible refine yC_intro (c4) ?_; simp [hP, hN, hu, hkr.1, bits64, min64 hk64, e1, e2, e3, e4, e5, e6, e7, e8, e9, g9]; (try refine ⟨by kernel_rfl, ?_⟩))
    | (with_reducible refine xC_intro (w1) ?_; simp [hP, hN, hu, hkr.1, bits64, min64 hk64, e1, e2, e3, e4, e5, e6, e7, e8, e9, g9])
    | (with_reducible refine yC_intro (w1) ?_; simp [hP, hN, hu, hkr.1, bits64, min64 hk64, e1, e2, e3, e4, e5, e6, e7, e8, e9, g9]; (try refine ⟨by kernel_rfl, ?_⟩))
    | (with_reducible refine xC_intro (w2) ?_; simp [hP, hN, hu, hkr.1, bits64, min64 hk64, e1, e2, e3, e4, e5, e6, e7, e8, e9, g9])
    | (with_reducible refine yC_intro (w2) ?_; simp [hP, hN, hu, hkr.1, bits64, min64 hk64, e1, e2, e3, e4, e5, e6, e7, e8, e9, g9]; (try refine ⟨by kernel_rfl, ?_⟩))
    | (with_reducible refine xC_intro (w3) ?_; simp [hP, hN, hu, hkr.1, bits64, min64 hk64, e1, e2, e3, e4, e5, e6, e7, e8, e9, g9])
    | (with_reducible refine yC_intro (w3) ?_; simp [hP, hN, hu, hkr.1, bits64, min64 hk64, e1, e2, e3, e4, e5, e6, e7, e8, e9, g9]; (try refine ⟨by kernel_rfl, ?_⟩))
    | (with_reducible refine xC_intro (w4) ?_; simp [hP, hN, hu, hkr.1, bits64, min64 hk64, e1, e2, e3, e4, e5, e6, e7, e8, e9, g9])
    | (with_reducible refine yC_intro (w4) ?_; simp [hP, hN, hu, hkr.1, bits64, min64 hk64, e1, e2, e3, e4, e5, e6, e7, e8, e9, g9]; (try refine ⟨by kernel_rfl, ?_⟩))
    | (with_reducible refine xC_intro (b1) ?_; simp [hP, hN, hu, hkr.1, bits64, min64 hk64, e1, e2, e3, e4, e5, e6, e7, e8, e9, g9])
    | (with_reducible refine yC_intro (b1) ?_; simp [hP, hN, hu, hkr.1, bits64, min64 hk64, e1, e2, e3, e4, e5, e6, e7, e8, e9, g9]; (try refine ⟨by kernel_rfl, ?_⟩))
    | (with_reducible refine xC_intro (b2) ?_; simp [hP, hN, hu, hkr.1, bits64, min64 hk64, e1, e2, e3, e4, e5, e6, e7, e8, e9, g9])
    | (with_reducible refine yC_intro (b2) ?_; simp [hP, hN, hu, hkr.1, bits64, min64 hk64, e1, e2, e3, e4, e5, e6, e7, e8, e9, g9]; (try refine ⟨by kernel_rfl, ?_⟩))
    | (with_reducible refine xC_intro (b3) ?_; simp [hP, hN, hu, hkr.1, bits64, min64 hk64, e1, e2, e3, e4, e5, e6, e7, e8, e9, g9])
    | (with_reducible refine yC_intro (b3) ?_; simp [hP, hN, hu, hkr.1, bits64, min64 hk64, e1, e2, e3, e4, e5, e6, e7, e8, e9, g9]; (try refine ⟨by kernel_rfl, ?_⟩))
    | (with_reducible refine xC_intro (r1) ?_; simp [hP, hN, hu, hkr.1, bits64, min64 hk64, e1, e2, e3, e4, e5, e6, e7, e8, e9, g9])
    | (with_reducible refine yC_intro (r1) ?_; simp [hP, hN, hu, hkr.1, bits64, min64 hk64, e1, e2, e3, e4, e5, e6, e7, e8, e9, g9]; (try refine ⟨by kernel_rfl, ?_⟩))
    | (with_reducible refine xC_intro (r2) ?_; simp [hP, hN, hu, hkr.1, bits64, min64 hk64, e1, e2, e3, e4, e5, e6, e7, e8, e9, g9])
    | (with_reducible refine yC_intro (r2) ?_; simp [hP, hN, hu, hkr.1, bits64, min64 hk64, e1, e2, e3, e4, e5, e6, e7, e8, e9, g9]; (try refine ⟨by kernel_rfl, ?_⟩))
    | (with_reducible refine xC_intro (d16) ?_; simp [hP, hN, hu, hkr.1, bits64, min64 hk64, e1, e2, e3, e4, e5, e6, e7, e8, e9, g9])
    | (with_reducible refine yC_intro (d16) ?_; simp [hP, hN, hu, hkr.1, bits64, min64 hk64, e1, e2, e3, e4, e5, e6, e7, e8, e9, g9]; (try refine ⟨by kernel_rfl, ?_⟩))
    | (with_reducible refine WP.cond' ?_; simp [hP, hN, hu, hkr.1, bits64, min64 hk64, e1, e2, e3, e4, e5, e6, e7, e8, e9, g9])
    | (with_reducible refine xCond_split (fun hcd => ?_) (fun hcd => ?_) <;> (try (exfalso; clear hP hN; simp_all; done)) <;> (try (exfalso; simp at *; omega)))
    | with_reducible refine WP.block ?_
    | (with_reducible refine WP.skip ?_; simp [hu, hkr.1, bits64, min64 hk64, e1, e2, e3, e4, e5, e6, e7, e8, e9, g9])
    | (with_reducible refine WP.exit ?_; simp [hu, hkr.1, bits64, min64 hk64, e1, e2, e3, e4, e5, e6, e7, e8, e9, g9])
    | (with_reducible refine WP.ret ?_; simp [hu, hkr.1, bits64, min64 hk64, e1, e2, e3, e4, e5, e6, e7, e8, e9, g9]))
set_option maxHeartbeats 4000000 in
theorem d6 (l m n : List Int) (depth index : Int) : DetH Try.prog 6 [.pv (zs l), .pv (zs m), .pv (zs n), .pv (Z depth), .pv (Z index)] [] [] (.pv (B true)) := by
  have hM := mot_mot l m n depth index
  have hmo := d13 l m n depth index
  obtain ⟨_, _, _, _, hpw⟩ := mot_facts depth index
  generalize cfgL m (rJs l 0) = p at hM hmo
  generalize cfgL n (rJs l 0) = q at hM hmo
  generalize motD depth = d at hM hmo hpw
  generalize motI depth index = i at hM hmo
  have hd0 := hM.d0
  have hd1 := hM.d1
  have hi0 := hM.i0
  have hi1 := hM.i1
  have hp : p.length ≤ 16777216 := by have := hM.le; omega
  have hq : q.length ≤ 16777216 := by have := hM.le; have := hM.len; omega
  have hnb := ends_true hM
  have ht : ∀ x y, ((pieceL p q x y).1.length ≤ 9223372036854775807) := fun x y => big (Nat.le_trans (piece_len p q x y) hp)
  have hta : ∀ x y, ((atL p q x y).1.length ≤ 9223372036854775807) := fun x y => by unfold atL; split <;> simp; omega
  have c1 := d14 p q d i hp hq
  have c2 := d24 p q d i hp hq
  have c3 := d24 p q d (i + 1) hp hq
  have c4 := d24 p q d 0 hp hq
  have c5 := d24 p q d (2 ^ d.toNat) hp hq
  have w1 := d25 (pieceL p q d i).1 (atL p q d i).1 (ht _ _) (hta _ _)
  have w2 := d25 (pieceL p q d i).1 (atL p q d (i + 1)).1 (ht _ _) (hta _ _)
  have w3 := d26 (atL p q d 0).1 p (hta _ _) (big hp)
  have w4 := d26 (atL p q d (2 ^ d.toNat)).1 q (hta _ _) (big hq)
  simp only [endsB, Bool.and_eq_true, decide_eq_true_eq] at hnb
  obtain ⟨⟨⟨⟨⟨⟨⟨⟨g1, g2⟩, g3⟩, g4⟩, g5⟩, g6⟩, g7⟩, g8⟩, g9⟩ := hnb
  rw [g1] at c1
  rw [g2] at c2
  rw [g3] at c3
  rw [g4] at c4
  rw [g5] at c5
  rw [g6] at w1
  rw [g7] at w2
  rw [g8] at w3
  rw [g9] at w4
  have hu : IntKind.u64.wrap d = d := by rw [IntKind.wrap_u64]; omega
  have hd' : d < 64 := by omega
  have e1 : IntKind.i64.wrap (i + 1) = i + 1 := wr_id (by omega) (by omega)
  refine detP_of Try.func6 rfl (by kernel_rfl) (by simp [Try.f6]) rfl ?_
  intro C hP hN
  simp only [Try.f6] at hN ⊢
  repeat' (first
    | with_reducible refine WP.seq ?_
    | (with_reducible refine WP.region (hn := []) ?_; simp [hP, hN, hu, hd0, bits64, min64 hd', wr_shl hd0 (by omega), e1])
    | (with_reducible refine WP.draw (hn := []) (by rw [hP]; kernel_rfl) (by kernel_rfl) ?_; simp [hP, hN, hu, hd0, bits64, min64 hd', wr_shl hd0 (by omega), e1]; (try refine ⟨by kernel_rfl, ?_⟩))
    | (with_reducible refine xB_split (by simp [hu, hd0, bits64, min64 hd', wr_shl hd0 (by omega), e1]) (fun hgd => ?_) (fun hgd => ?_) <;> first | (exfalso; simp at hgd; done) | (exfalso; simp at hgd; omega) | simp [hP, hN, hu, hd0, bits64, min64 hd', wr_shl hd0 (by omega), e1])
    | (with_reducible refine yB_split (by simp [hu, hd0, bits64, min64 hd', wr_shl hd0 (by omega), e1]) (fun hgd => ?_) (fun hgd => ?_) <;> first | (exfalso; simp at hgd; done) | (exfalso; simp at hgd; omega) | (simp [hP, hN, hu, hd0, bits64, min64 hd', wr_shl hd0 (by omega), e1] <;> (try refine ⟨by kernel_rfl, ?_⟩)))
    | (with_reducible refine xC_intro (hmo) ?_; simp [hP, hN, hu, hd0, bits64, min64 hd', wr_shl hd0 (by omega), e1])
    | (with_reducible refine yC_intro (hmo) ?_; simp [hP, hN, hu, hd0, bits64, min64 hd', wr_shl hd0 (by omega), e1]; (try refine ⟨by kernel_rfl, ?_⟩))
    | (with_reducible refine xC_intro (c1) ?_; simp [hP, hN, hu, hd0, bits64, min64 hd', wr_shl hd0 (by omega), e1])
    | (with_reducible refine yC_intro (c1) ?_; simp [hP, hN, hu, hd0, bits64, min64 hd', wr_shl hd0 (by omega), e1]; (try refine ⟨by kernel_rfl, ?_⟩))
    | (with_reducible refine xC_intro (c2) ?_; simp [hP, hN, hu, hd0, bits64, min64 hd', wr_shl hd0 (by omega), e1])
    | (with_reducible refine yC_intro (c2) ?_; simp [hP, hN, hu, hd0, bits64, min64 hd', wr_shl hd0 (by omega), e1]; (try refine ⟨by kernel_rfl, ?_⟩))
    | (with_reducible refine xC_intro (c3) ?_; simp [hP, hN, hu, hd0, bits64, min64 hd', wr_shl hd0 (by omega), e1])
    | (with_reducible refine yC_intro (c3) ?_; simp [hP, hN, hu, hd0, bits64, min64 hd', wr_shl hd0 (by omega), e1]; (try refine ⟨by kernel_rfl, ?_⟩))
    | (with_reducible refine xC_intro (c4) ?_; simp [hP, hN, hu, hd0, bits64, min64 hd', wr_shl hd0 (by omega), e1])
    | (with_reducible refine yC_intro (c4) ?_; simp [hP, hN, hu, hd0, bits64, min64 hd', wr_shl hd0 (by omega), e1]; (try refine ⟨by kernel_rfl, ?_⟩))
    | (with_reducible refine xC_intro (c5) ?_; simp [hP, hN, hu, hd0, bits64, min64 hd', wr_shl hd0 (by omega), e1])
    | (with_reducible refine yC_intro (c5) ?_; simp [hP, hN, hu, hd0, bits64, min64 hd', wr_shl hd0 (by omega), e1]; (try refine ⟨by kernel_rfl, ?_⟩))
    | (with_reducible refine xC_intro (w1) ?_; simp [hP, hN, hu, hd0, bits64, min64 hd', wr_shl hd0 (by omega), e1])
    | (with_reducible refine yC_intro (w1) ?_; simp [hP, hN, hu, hd0, bits64, min64 hd', wr_shl hd0 (by omega), e1]; (try refine ⟨by kernel_rfl, ?_⟩))
    | (with_reducible refine xC_intro (w2) ?_; simp [hP, hN, hu, hd0, bits64, min64 hd', wr_shl hd0 (by omega), e1])
    | (with_reducible refine yC_intro (w2) ?_; simp [hP, hN, hu, hd0, bits64, min64 hd', wr_shl hd0 (by omega), e1]; (try refine ⟨by kernel_rfl, ?_⟩))
    | (with_reducible refine xC_intro (w3) ?_; simp [hP, hN, hu, hd0, bits64, min64 hd', wr_shl hd0 (by omega), e1])
    | (with_reducible refine yC_intro (w3) ?_; simp [hP, hN, hu, hd0, bits64, min64 hd', wr_shl hd0 (by omega), e1]; (try refine ⟨by kernel_rfl, ?_⟩))
    | (with_reducible refine xC_intro (w4) ?_; simp [hP, hN, hu, hd0, bits64, min64 hd', wr_shl hd0 (by omega), e1])
    | (with_reducible refine yC_intro (w4) ?_; simp [hP, hN, hu, hd0, bits64, min64 hd', wr_shl hd0 (by omega), e1]; (try refine ⟨by kernel_rfl, ?_⟩))
    | (with_reducible refine xC_intro (d16) ?_; simp [hP, hN, hu, hd0, bits64, min64 hd', wr_shl hd0 (by omega), e1])
    | (with_reducible refine yC_intro (d16) ?_; simp [hP, hN, hu, hd0, bits64, min64 hd', wr_shl hd0 (by omega), e1]; (try refine ⟨by kernel_rfl, ?_⟩))
    | (with_reducible refine WP.cond' ?_; simp [hP, hN, hu, hd0, bits64, min64 hd', wr_shl hd0 (by omega), e1])
    | (with_reducible refine xCond_split (fun hcd => ?_) (fun hcd => ?_) <;> (try (exfalso; clear hP hN; simp_all; done)) <;> (try (exfalso; simp at *; omega)))
    | with_reducible refine WP.block ?_
    | (with_reducible refine WP.skip ?_; simp [hu, hd0, bits64, min64 hd', wr_shl hd0 (by omega), e1])
    | (with_reducible refine WP.exit ?_; simp [hu, hd0, bits64, min64 hd', wr_shl hd0 (by omega), e1])
    | (with_reducible refine WP.ret ?_; simp [hu, hd0, bits64, min64 hd', wr_shl hd0 (by omega), e1]))
end Go.Ab
