/- ConfigPieces: the reference's pieces are the program's. -/
import Derived.Test.YtagmnknighofeaaCf13
import Derived.Test.YtagmnknighofeaaPl3
set_option linter.all false
namespace Go.Ab
open Go.Proofs
theorem ediv_uniq {a b k : Int} (hb : 0 < b) (h1 : k * b ≤ a) (h2 : a < (k + 1) * b) : a / b = k := by
  have := (Int.le_ediv_iff_mul_le hb).2 h1
  have := (Int.ediv_lt_iff_lt_mul hb).2 h2
  omega
theorem floorI_eq {a b : Int} (hb : 0 < b) (h1 : -4611686018427387904 ≤ a) (h2 : a ≤ 4611686018427387904) : floorI a b = a / b := by
  have hq := Int.mul_tdiv_add_tmod a b
  have h3 : -b < a.tmod b := Int.lt_tmod_of_pos a hb
  have h4 : a.tmod b < b := Int.tmod_lt_of_pos a hb
  have hbd := ediv_bound (a := a) (N := b) (B := 4611686018427387904) hb h1 h2
  rw [Int.mul_comm] at hq
  unfold floorI
  split
  · have e : a / b = a.tdiv b - 1 := ediv_uniq hb (by rw [Int.sub_mul]; omega) (by rw [show a.tdiv b - 1 + 1 = a.tdiv b by omega]; omega)
    rw [wr_id (n := a.tdiv b) (by omega) (by omega), wr_id (by omega) (by omega), e]
  · have e : a / b = a.tdiv b := ediv_uniq hb (by omega) (by rw [Int.add_mul]; omega)
    rw [wr_id (n := a.tdiv b) (by omega) (by omega), e]
theorem ceilI_eq {a b : Int} (hb : 0 < b) (h1 : -4611686018427387904 ≤ a) (h2 : a ≤ 4611686018427387904) : ceilI a b = -(-a / b) := by
  have hq := Int.mul_tdiv_add_tmod a b
  have h3 : -b < a.tmod b := Int.lt_tmod_of_pos a hb
  have h4 : a.tmod b < b := Int.tmod_lt_of_pos a hb
  have hbd := ediv_bound (a := -a) (N := b) (B := 4611686018427387904) hb (by omega) (by omega)
  rw [Int.mul_comm] at hq
  unfold ceilI
  split
  · have e : -a / b = -a.tdiv b - 1 := ediv_uniq hb (by rw [Int.sub_mul, Int.neg_mul]; omega) (by rw [show -a.tdiv b - 1 + 1 = -a.tdiv b by omega, Int.neg_mul]; omega)
    rw [wr_id (n := a.tdiv b) (by omega) (by omega), wr_id (by omega) (by omega), e]; omega
  · have e : -a / b = -a.tdiv b := ediv_uniq hb (by rw [Int.neg_mul]; omega) (by rw [Int.add_mul, Int.neg_mul]; omega)
    rw [wr_id (n := a.tdiv b) (by omega) (by omega), e]; omega
theorem refPieceI_eq {i d f t : Int} (hi : 0 ≤ i) (hi' : i ≤ 1048576) (hf : small f) (ht : small t) : refPieceI i d f t = pieceI i d f t := by
  rw [pieceI_eq hi hi' hf ht]
  unfold small at hf ht
  have e1 : wr (t - f) = t - f := wr_id (by omega) (by omega)
  have e0 : wr (i + 1) = i + 1 := wr_id (by omega) (by omega)
  have b1 := mul_bound (i := i) (D := t - f) (A := 1048577) (B := 4294967296) hi (by omega) (by omega) (by omega)
  have b2 := mul_bound (i := i + 1) (D := t - f) (A := 1048577) (B := 4294967296) (by omega) (by omega) (by omega) (by omega)
  have e2 : wr (i * (t - f)) = i * (t - f) := wr_id (by omega) (by omega)
  have e3 : wr ((i + 1) * (t - f)) = (i + 1) * (t - f) := wr_id (by omega) (by omega)
  simp only [refPieceI, pieceP, e1, e0, e2, e3]
  generalize i * (t - f) = a at *
  generalize (i + 1) * (t - f) = b at *
  have hN : (0 : Int) < 2 ^ d.toNat := pow_pos2 _
  rw [floorI_eq hN (by omega) (by omega), ceilI_eq hN (by omega) (by omega)]
  have c1 := ediv_bound (a := min a b) (N := 2 ^ d.toNat) (B := 1048577 * 4294967296) hN (by omega) (by omega)
  have c2 := ediv_bound (a := -max a b) (N := 2 ^ d.toNat) (B := 1048577 * 4294967296) hN (by omega) (by omega)
  rw [wr_id (by omega) (by omega), wr_id (by omega) (by omega)]
  refine Prod.ext rfl ?_
  simp only; omega
theorem refAtI_eq {i d f t : Int} (hi : 0 ≤ i) (hi' : i ≤ 1048576) (hf : small f) (ht : small t) : refAtI i d f t = atI i d f t := by
  rw [atI_eq hi hi' hf ht]
  unfold small at hf ht
  have e1 : wr (t - f) = t - f := wr_id (by omega) (by omega)
  have b1 := mul_bound (i := i) (D := t - f) (A := 1048577) (B := 4294967296) hi (by omega) (by omega) (by omega)
  have e2 : wr (i * (t - f)) = i * (t - f) := wr_id (by omega) (by omega)
  have hN : (0 : Int) < 2 ^ d.toNat := pow_pos2 _
  simp only [refAtI, atP, e1, e2]
  rw [floorI_eq hN (by omega) (by omega)]
  have c1 := ediv_bound (a := i * (t - f)) (N := 2 ^ d.toNat) (B := 1048577 * 4294967296) hN (by omega) (by omega)
  rw [wr_id (by omega) (by omega)]
theorem small_of {xs : List Int} (h : allB smallB xs = true) : ∀ x ∈ xs, small x := by
  rw [allB_iff] at h
  intro x hx
  have := h x hx
  simpa [smallB, small] using this
theorem zip_congr {α β γ : Type} {f g : α → β → γ} : ∀ {xs : List α} {ys : List β}, (∀ a ∈ xs, ∀ b ∈ ys, f a b = g a b) → List.zipWith f xs ys = List.zipWith g xs ys
  | [], _, _ => rfl
  | _ :: _, [], _ => rfl
  | a :: xs, b :: ys, h => by
    simp only [List.zipWith_cons_cons]
    rw [h a (by simp) b (by simp), zip_congr (fun a ha b hb => h a (by simp [ha]) b (by simp [hb]))]
theorem refPieceL_eq (xs ys : List Int) (d i : Int) : refPieceL xs ys d i = pieceL xs ys d i := by
  unfold refPieceL pieceL
  split
  · rename_i h
    simp only [Bool.and_eq_true, decide_eq_true_eq] at h
    obtain ⟨_, hx, hy, h0, hd⟩ := motionB_true h.1.1
    have hb := pow_le20 hd
    refine Prod.ext ?_ rfl
    exact zip_congr (fun a ha b hb' => refPieceI_eq h.1.2 (by omega) (small_of hx a ha) (small_of hy b hb'))
  · rfl
theorem refAtL_eq (xs ys : List Int) (d i : Int) : refAtL xs ys d i = atL xs ys d i := by
  unfold refAtL atL
  split
  · rename_i h
    simp only [Bool.and_eq_true, decide_eq_true_eq] at h
    obtain ⟨_, hx, hy, h0, hd⟩ := motionB_true h.1.1
    have hb := pow_le20 hd
    refine Prod.ext ?_ rfl
    exact zip_congr (fun a ha b hb' => refAtI_eq h.1.2 (by omega) (small_of hx a ha) (small_of hy b hb'))
  · rfl
theorem atL_len (xs ys : List Int) (d i : Int) : (atL xs ys d i).1.length ≤ xs.length := by unfold atL; split <;> simp; omega
end Go.Ab
