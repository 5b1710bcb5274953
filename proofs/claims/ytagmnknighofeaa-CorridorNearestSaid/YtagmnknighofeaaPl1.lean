/- Plain facts about pieces of motions. -/
import Derived.Test.YtagmnknighofeaaL4
set_option linter.all false
namespace Go.Ab
theorem mul_bound {i D A B : Int} (h0 : 0 ≤ i) (hA : i ≤ A) (h1 : -B ≤ D) (h2 : D ≤ B) : -(A * B) ≤ i * D ∧ i * D ≤ A * B := by
  have hB : 0 ≤ B := by omega
  have hAB : i * B ≤ A * B := Int.mul_le_mul_of_nonneg_right hA hB
  have e1 : i * D ≤ i * B := Int.mul_le_mul_of_nonneg_left h2 h0
  have e2 : i * (-B) ≤ i * D := Int.mul_le_mul_of_nonneg_left h1 h0
  rw [Int.mul_neg] at e2
  omega
theorem pow_pos2 (n : Nat) : (0 : Int) < 2 ^ n := Int.pow_pos (by decide)
theorem fdiv_ediv (a : Int) (n : Nat) : a.fdiv (2 ^ n) = a / 2 ^ n := Int.fdiv_eq_ediv_of_nonneg a (Int.le_of_lt (pow_pos2 n))
theorem ediv_bound {a N B : Int} (hN : 0 < N) (h1 : -B ≤ a) (h2 : a ≤ B) : -B ≤ a / N ∧ a / N ≤ B := by
  have hB : 0 ≤ B := by omega
  constructor
  · have : (-B) * N ≤ a := by
      have : (-B) * N ≤ (-B) * 1 := Int.mul_le_mul_of_nonpos_left (by omega) (by omega)
      omega
    exact (Int.le_ediv_iff_mul_le hN).2 this
  · have : a / N < B + 1 := (Int.ediv_lt_iff_lt_mul hN).2 (by
      have : (B + 1) * 1 ≤ (B + 1) * N := Int.mul_le_mul_of_nonneg_left (by omega) (by omega)
      omega)
    omega
def small (x : Int) : Prop := -2147483648 ≤ x ∧ x ≤ 2147483648
/-- A piece without the wrapping. -/
def pieceP (N i f t : Int) : Int × Int := (f + min (i * (t - f)) ((i + 1) * (t - f)) / N, f - (-max (i * (t - f)) ((i + 1) * (t - f))) / N)
theorem pieceI_eq {i d f t : Int} (hi : 0 ≤ i) (hi' : i ≤ 1048576) (hf : small f) (ht : small t) : pieceI i d f t = pieceP (2 ^ d.toNat) i f t := by
  unfold small at hf ht
  have e1 : wr (t - f) = t - f := wr_id (by omega) (by omega)
  have e0 : wr (i + 1) = i + 1 := wr_id (by omega) (by omega)
  have b1 := mul_bound (i := i) (D := t - f) (A := 1048577) (B := 4294967296) hi (by omega) (by omega) (by omega)
  have b2 := mul_bound (i := i + 1) (D := t - f) (A := 1048577) (B := 4294967296) (by omega) (by omega) (by omega) (by omega)
  have e2 : wr (i * (t - f)) = i * (t - f) := wr_id (by omega) (by omega)
  have e3 : wr ((i + 1) * (t - f)) = (i + 1) * (t - f) := wr_id (by omega) (by omega)
  simp only [pieceI, pieceP, e1, e0, e2, e3, fdiv_ediv]
  generalize i * (t - f) = a at *
  generalize (i + 1) * (t - f) = b at *
  have e4 : wr (-max a b) = -max a b := wr_id (by omega) (by omega)
  rw [e4]
  have c1 := ediv_bound (a := min a b) (N := 2 ^ d.toNat) (B := 1048577 * 4294967296) (pow_pos2 _) (by omega) (by omega)
  have c2 := ediv_bound (a := -max a b) (N := 2 ^ d.toNat) (B := 1048577 * 4294967296) (pow_pos2 _) (by omega) (by omega)
  rw [wr_id (by omega) (by omega), wr_id (by omega) (by omega)]
theorem pieceP_rev {N i f t : Int} (hN : 0 < N) : pieceP N i f t = pieceP N (N - 1 - i) t f := by
  have h1 : (N - 1 - i) * (f - t) = (i + 1) * (t - f) + N * (-(t - f)) := by
    have : f - t = -(t - f) := by omega
    rw [this]
    generalize t - f = D
    simp only [Int.sub_mul, Int.add_mul, Int.mul_neg, Int.neg_mul]
    omega
  have h2 : (N - 1 - i + 1) * (f - t) = i * (t - f) + N * (-(t - f)) := by
    have : f - t = -(t - f) := by omega
    rw [this]
    generalize t - f = D
    simp only [Int.sub_mul, Int.add_mul, Int.mul_neg, Int.neg_mul]
    omega
  unfold pieceP
  rw [h1, h2]
  generalize i * (t - f) = a
  generalize (i + 1) * (t - f) = b
  have e1 : min (b + N * (-(t - f))) (a + N * (-(t - f))) = min a b + N * (-(t - f)) := by omega
  have e2 : -max (b + N * (-(t - f))) (a + N * (-(t - f))) = -max a b + N * (t - f) := by rw [Int.mul_neg]; omega
  rw [e1, e2, Int.add_mul_ediv_left _ _ (by omega), Int.add_mul_ediv_left _ _ (by omega)]
  refine Prod.ext ?_ ?_ <;> simp <;> omega
end Go.Ab
