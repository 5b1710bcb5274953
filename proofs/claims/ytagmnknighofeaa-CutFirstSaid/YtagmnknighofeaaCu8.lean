/- Contracts: the entry of a motion into a box. -/
import Derived.Test.YtagmnknighofeaaCu7
set_option linter.all false
namespace Go.Ab
open Go.Proofs
def gcdZ (a b : Int) : Int := (Int.gcd a b : Int)
theorem gcdZ_step {a b : Int} (hb : 0 < b) (ha : 0 ≤ a) : gcdZ b (a % b) = gcdZ a b := by
  unfold gcdZ
  congr 1
  rw [Int.gcd_comm a b]
  obtain ⟨n, rfl⟩ : ∃ n : Nat, a = n := ⟨a.toNat, by omega⟩
  obtain ⟨m, rfl⟩ : ∃ m : Nat, b = m := ⟨b.toNat, by omega⟩
  rw [← Int.natCast_emod, Int.gcd_natCast_natCast, Int.gcd_natCast_natCast, Nat.gcd_comm m n, Nat.gcd_comm m (n % m), ← Nat.gcd_rec, Nat.gcd_comm]
theorem gcdZ_zero {a : Int} (ha : 0 ≤ a) : gcdZ a 0 = a := by
  unfold gcdZ; simp; omega
def lowF (f : Fr) : Fr := (f.1 / gcdZ f.1 f.2, f.2 / gcdZ f.1 f.2)
theorem gcdZ_pos {a b : Int} (hb : 0 < b) : 0 < gcdZ a b := by
  unfold gcdZ
  have : 0 < Int.gcd a b := Int.gcd_pos_of_ne_zero_right _ (by omega)
  omega
set_option maxRecDepth 10000 in
set_option maxHeartbeats 4000000 in
theorem d137 (f : Fr) (ha : 0 ≤ f.1) (hb : 0 < f.2) (h1 : f.1 < 9223372036854775808) (h2 : f.2 < 9223372036854775808) : DetH Try.prog 137 [.pv (encI f)] [] [] (.pv (encI (lowF f))) := by
  obtain ⟨a, b⟩ := f
  simp only at ha hb h1 h2
  have hgp := gcdZ_pos (a := a) hb
  have q1 : a.tdiv (gcdZ a b) = a / gcdZ a b := Int.tdiv_eq_ediv_of_nonneg ha
  have q2 : b.tdiv (gcdZ a b) = b / gcdZ a b := Int.tdiv_eq_ediv_of_nonneg (by omega)
  have hn1 := Int.ediv_nonneg ha (show 0 ≤ gcdZ a b by omega)
  have hn2 := Int.ediv_nonneg (show 0 ≤ b by omega) (show 0 ≤ gcdZ a b by omega)
  have hl1 := Int.ediv_le_self (gcdZ a b) ha
  have hl2 := Int.ediv_le_self (gcdZ a b) (show 0 ≤ b by omega)
  have w1 : IntKind.i64.wrap (a / gcdZ a b) = a / gcdZ a b := wr_id (by omega) (by omega)
  have w2 : IntKind.i64.wrap (b / gcdZ a b) = b / gcdZ a b := wr_id (by omega) (by omega)
  have hg0 : ¬ gcdZ a b = 0 := by omega
  simp only [lowF]
  generalize hG : gcdZ a b = G at *
  refine detP_of Try.func137 rfl (by kernel_rfl) (by simp [Try.f137]) rfl ?_
  intro C hP hN
  simp only [Try.f137] at hN ⊢
  repeat' (first
    | with_reducible refine WP.seq ?_
    | (with_reducible ((first | refine WP.region (hn := []) ?_ | refine WP.cond' ?_); simp -implicitDefEqProofs (maxSteps := 2000000) [hP, hN]))
    | (with_reducible ((first | refine WP.draw (hn := []) (by rw [hP]; kernel_rfl) (by kernel_rfl) ?_); simp -implicitDefEqProofs (maxSteps := 2000000) [hP, hN]; (try refine ⟨by kernel_rfl, ?_⟩)))
    | (with_reducible refine xB_split (by simp) (fun hgd => ?_) (fun hgd => ?_) <;> first | (exfalso; simp at hgd; done) | (exfalso; simp at hgd; omega) | simp -implicitDefEqProofs (maxSteps := 2000000) [hP, hN])
    | (with_reducible refine yB_split (by simp) (fun hgd => ?_) (fun hgd => ?_) <;> first | (exfalso; simp at hgd; done) | (exfalso; simp at hgd; omega) | (simp -implicitDefEqProofs (maxSteps := 2000000) [hP, hN] <;> (try refine ⟨by kernel_rfl, ?_⟩)))
    | with_reducible refine xTwo_intro ?_ ?_
    | (with_reducible refine xCond_split (fun hcd => ?_) (fun hcd => ?_) <;> (try (exfalso; clear hP hN; simp_all; done)) <;> (try (exfalso; simp at *; omega)))
    | with_reducible refine WP.block ?_
    | (with_reducible ((first | refine WP.skip ?_ | refine WP.exit ?_ | refine WP.ret ?_); simp)))
  refine WP.loopN [] b.toNat (fun i st => ∃ x y : Int, 0 ≤ x ∧ 0 ≤ y ∧ y + i ≤ b ∧ gcdZ x y = G ∧ st.t 3 = .pv (Z x) ∧ st.t 4 = .pv (Z y) ∧ st.t 1 = .ptr 1 0 ∧ st.t 2 = .ptr 2 0 ∧ st.h 1 = some (.box [.pv (Z a), .pv (Z b)] true false) ∧ st.h 2 = some (.box [.pv (Z 0), .pv (Z 0)] true false)) (by exact ⟨a, b, ha, by omega, by simp, hG, by simp⟩) ?_
  rintro i st hi ⟨x, y, hx, hy, hyi, hg, g3, g4, g1, g2, hb1, hb2⟩
  by_cases hlt : y = 0
  · subst hlt
    rw [gcdZ_zero hx] at hg
    subst hg
    repeat' (first
      | with_reducible refine WP.seq ?_
      | (with_reducible ((first | refine WP.region (hn := []) ?_ | refine WP.cond' ?_); simp -implicitDefEqProofs (maxSteps := 2000000) [hP, hN, g1, g2, g3, g4, hb1, hb2, q1, q2, w1, w2, hg0]))
      | (with_reducible ((first | refine WP.draw (hn := []) (by rw [hP]; kernel_rfl) (by kernel_rfl) ?_); simp -implicitDefEqProofs (maxSteps := 2000000) [hP, hN, g1, g2, g3, g4, hb1, hb2, q1, q2, w1, w2, hg0]; (try refine ⟨by kernel_rfl, ?_⟩)))
      | (with_reducible refine xB_split (by simp [g1, g2, g3, g4, hb1, hb2, q1, q2, w1, w2, hg0]) (fun hgd => ?_) (fun hgd => ?_) <;> first | (exfalso; simp at hgd; done) | (exfalso; simp at hgd; omega) | simp -implicitDefEqProofs (maxSteps := 2000000) [hP, hN, g1, g2, g3, g4, hb1, hb2, q1, q2, w1, w2, hg0])
      | (with_reducible refine yB_split (by simp [g1, g2, g3, g4, hb1, hb2, q1, q2, w1, w2, hg0]) (fun hgd => ?_) (fun hgd => ?_) <;> first | (exfalso; simp at hgd; done) | (exfalso; simp at hgd; omega) | (simp -implicitDefEqProofs (maxSteps := 2000000) [hP, hN, g1, g2, g3, g4, hb1, hb2, q1, q2, w1, w2, hg0] <;> (try refine ⟨by kernel_rfl, ?_⟩)))
      | with_reducible refine xTwo_intro ?_ ?_
      | (with_reducible refine xCond_split (fun hcd => ?_) (fun hcd => ?_) <;> (try (exfalso; clear hP hN; simp_all; done)) <;> (try (exfalso; simp at *; omega)))
      | with_reducible refine WP.block ?_
      | (with_reducible ((first | refine WP.skip ?_ | refine WP.exit ?_ | refine WP.ret ?_); simp [g1, g2, g3, g4, hb1, hb2, q1, q2, w1, w2, hg0])))
  · have hm : x.tmod y = x % y := Int.tmod_eq_emod_of_nonneg hx
    have h1 := Int.emod_nonneg x (show y ≠ 0 by omega)
    have h2 := Int.emod_lt_of_pos x (show 0 < y by omega)
    have hs := gcdZ_step (show 0 < y by omega) hx
    have hne : (y != 0) = true := by simp [hlt]
    repeat' (first
      | with_reducible refine WP.seq ?_
      | (with_reducible ((first | refine WP.region (hn := []) ?_ | refine WP.cond' ?_); simp -implicitDefEqProofs (maxSteps := 2000000) [hP, hN, g1, g2, g3, g4, hb1, hb2, hlt, hne, hm]))
      | (with_reducible ((first | refine WP.draw (hn := []) (by rw [hP]; kernel_rfl) (by kernel_rfl) ?_); simp -implicitDefEqProofs (maxSteps := 2000000) [hP, hN, g1, g2, g3, g4, hb1, hb2, hlt, hne, hm]; (try refine ⟨by kernel_rfl, ?_⟩)))
      | (with_reducible refine xB_split (by simp [g1, g2, g3, g4, hb1, hb2, hlt, hne, hm]) (fun hgd => ?_) (fun hgd => ?_) <;> first | (exfalso; simp at hgd; done) | (exfalso; simp at hgd; omega) | simp -implicitDefEqProofs (maxSteps := 2000000) [hP, hN, g1, g2, g3, g4, hb1, hb2, hlt, hne, hm])
      | (with_reducible refine yB_split (by simp [g1, g2, g3, g4, hb1, hb2, hlt, hne, hm]) (fun hgd => ?_) (fun hgd => ?_) <;> first | (exfalso; simp at hgd; done) | (exfalso; simp at hgd; omega) | (simp -implicitDefEqProofs (maxSteps := 2000000) [hP, hN, g1, g2, g3, g4, hb1, hb2, hlt, hne, hm] <;> (try refine ⟨by kernel_rfl, ?_⟩)))
      | with_reducible refine xTwo_intro ?_ ?_
      | (with_reducible refine xCond_split (fun hcd => ?_) (fun hcd => ?_) <;> (try (exfalso; clear hP hN; simp_all; done)) <;> (try (exfalso; simp at *; omega)))
      | with_reducible refine WP.block ?_
      | (with_reducible ((first | refine WP.skip ?_ | refine WP.exit ?_ | refine WP.ret ?_); simp [g1, g2, g3, g4, hb1, hb2, hlt, hne, hm])))
    all_goals (refine ⟨by omega, y, by omega, x % y, h1, by omega, by rw [hs]; exact hg, rfl, rfl⟩)
end Go.Ab
