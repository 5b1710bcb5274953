/- Contracts: fractions. -/
import Derived.Test.YtagmnknighofeaaCu6
set_option linter.all false
namespace Go.Ab
open Go.Proofs
abbrev U (n : Int) : PV := .val (.int .u64 n)
theorem wu_id {n : Int} (h : 0 ≤ n) (h' : n < 18446744073709551616) : IntKind.u64.wrap n = n := by
  simp only [IntKind.wrap, IntKind.signed, IntKind.bits]
  simp
  omega
theorem and_mask {a : Int} (h : 0 ≤ a) (h' : a < 18446744073709551616) : bitI .and .u64 a 4294967295 = a % 4294967296 := by
  obtain ⟨n, rfl⟩ : ∃ n : Nat, a = n := ⟨a.toNat, by omega⟩
  unfold bitI
  have e : (BitVec.ofInt IntKind.u64.bits (n : Int) &&& BitVec.ofInt IntKind.u64.bits 4294967295).toNat = n % 4294967296 := by
    rw [BitVec.toNat_and]
    have e1 : (BitVec.ofInt IntKind.u64.bits (n : Int)).toNat = n := by
      simp only [IntKind.bits, BitVec.toNat_ofInt]; omega
    have e2 : (BitVec.ofInt IntKind.u64.bits 4294967295).toNat = 2 ^ 32 - 1 := by decide
    rw [e1, e2, Nat.and_two_pow_sub_one_eq_mod]
  simp only [e]
  rw [wu_id (by omega) (by omega)]
  omega
def mhi (x y : Int) : Int := x * y / 18446744073709551616
def mlo (x y : Int) : Int := x * y % 18446744073709551616
theorem mul_parts {x0 x1 y0 y1 : Int} (h1 : 0 ≤ x0) (h2 : x0 < 4294967296) (h3 : 0 ≤ x1) (h4 : x1 < 4294967296) (h5 : 0 ≤ y0) (h6 : y0 < 4294967296) (h7 : 0 ≤ y1) (h8 : y1 < 4294967296) :
    0 ≤ x0 * y0 ∧ x0 * y0 ≤ 18446744065119617025 ∧ 0 ≤ x1 * y0 ∧ x1 * y0 ≤ 18446744065119617025 ∧ 0 ≤ x0 * y1 ∧ x0 * y1 ≤ 18446744065119617025 ∧ 0 ≤ x1 * y1 ∧ x1 * y1 ≤ 18446744065119617025 := by
  have key : ∀ {a b : Int}, 0 ≤ a → a < 4294967296 → 0 ≤ b → b < 4294967296 → 0 ≤ a * b ∧ a * b ≤ 18446744065119617025 := by
    intro a b ha ha' hb hb'
    refine ⟨Int.mul_nonneg ha hb, ?_⟩
    have := Int.mul_le_mul (show a ≤ 4294967295 by omega) (show b ≤ 4294967295 by omega) hb (by decide)
    simpa using this
  have a := key h1 h2 h5 h6
  have b := key h3 h4 h5 h6
  have c := key h1 h2 h7 h8
  have d := key h3 h4 h7 h8
  exact ⟨a.1, a.2, b.1, b.2, c.1, c.2, d.1, d.2⟩
theorem mul_hi {x0 x1 y0 y1 : Int} (h1 : 0 ≤ x0) (h2 : x0 < 4294967296) (h3 : 0 ≤ x1) (h4 : x1 < 4294967296) (h5 : 0 ≤ y0) (h6 : y0 < 4294967296) (h7 : 0 ≤ y1) (h8 : y1 < 4294967296) :
    (x1 * 4294967296 + x0) * (y1 * 4294967296 + y0) / 18446744073709551616 = x1 * y1 + (x1 * y0 + x0 * y0 / 4294967296) / 4294967296 + ((x1 * y0 + x0 * y0 / 4294967296) % 4294967296 + x0 * y1) / 4294967296 := by
  obtain ⟨a1, a2, b1, b2, c1, c2, d1, d2⟩ := mul_parts h1 h2 h3 h4 h5 h6 h7 h8
  have e : (x1 * 4294967296 + x0) * (y1 * 4294967296 + y0) = x1 * y1 * 18446744073709551616 + (x1 * y0) * 4294967296 + (x0 * y1) * 4294967296 + x0 * y0 := by
    rw [Int.add_mul, Int.mul_add, Int.mul_add]
    have e1 : x1 * 4294967296 * (y1 * 4294967296) = x1 * y1 * 18446744073709551616 := by
      rw [show (18446744073709551616 : Int) = 4294967296 * 4294967296 by decide]; ac_rfl
    have e2 : x1 * 4294967296 * y0 = x1 * y0 * 4294967296 := by ac_rfl
    have e3 : x0 * (y1 * 4294967296) = x0 * y1 * 4294967296 := by ac_rfl
    omega
  rw [e]
  generalize x0 * y0 = a at *
  generalize x1 * y0 = b at *
  generalize x0 * y1 = c at *
  generalize x1 * y1 = d at *
  omega
set_option maxRecDepth 10000 in
set_option maxHeartbeats 2000000 in
theorem d174 (x y : Int) (h1 : 0 ≤ x) (h2 : x < 18446744073709551616) (h3 : 0 ≤ y) (h4 : y < 18446744073709551616) : DetH Try.prog 174 [.pv (U x), .pv (U y)] [] [] (.pv (.tup [U (mhi x y), U (mlo x y)])) := by
  have ax := and_mask h1 h2
  have ay := and_mask h3 h4
  obtain ⟨x0, hx0⟩ : ∃ x0, x % 4294967296 = x0 := ⟨_, rfl⟩
  obtain ⟨x1, hx1⟩ : ∃ x1, x / 4294967296 = x1 := ⟨_, rfl⟩
  obtain ⟨y0, hy0⟩ : ∃ y0, y % 4294967296 = y0 := ⟨_, rfl⟩
  obtain ⟨y1, hy1⟩ : ∃ y1, y / 4294967296 = y1 := ⟨_, rfl⟩
  obtain ⟨a1, a2, b1, b2, c1, c2, d1, d2⟩ := mul_parts (x0 := x0) (x1 := x1) (y0 := y0) (y1 := y1) (by omega) (by omega) (by omega) (by omega) (by omega) (by omega) (by omega) (by omega)
  have hhi := mul_hi (x0 := x0) (x1 := x1) (y0 := y0) (y1 := y1) (by omega) (by omega) (by omega) (by omega) (by omega) (by omega) (by omega) (by omega)
  rw [show x1 * 4294967296 + x0 = x by omega, show y1 * 4294967296 + y0 = y by omega] at hhi
  have fx : x.fdiv 4294967296 = x1 := by rw [Int.fdiv_eq_ediv_of_nonneg _ (by decide)]; exact hx1
  have fy : y.fdiv 4294967296 = y1 := by rw [Int.fdiv_eq_ediv_of_nonneg _ (by decide)]; exact hy1
  have w1 : IntKind.u64.wrap (x0 * y0) = x0 * y0 := wu_id a1 (by omega)
  have f1 : (x0 * y0).fdiv 4294967296 = x0 * y0 / 4294967296 := Int.fdiv_eq_ediv_of_nonneg _ (by decide)
  have w2 : IntKind.u64.wrap (x1 * y0) = x1 * y0 := wu_id b1 (by omega)
  obtain ⟨t, ht⟩ : ∃ t, x1 * y0 + x0 * y0 / 4294967296 = t := ⟨_, rfl⟩
  have w3 : IntKind.u64.wrap (x1 * y0 + x0 * y0 / 4294967296) = t := by rw [ht]; exact wu_id (by omega) (by omega)
  have at_ := and_mask (a := t) (by omega) (by omega)
  have ft : t.fdiv 4294967296 = t / 4294967296 := Int.fdiv_eq_ediv_of_nonneg _ (by decide)
  have w4 : IntKind.u64.wrap (x0 * y1) = x0 * y1 := wu_id c1 (by omega)
  have w5 : IntKind.u64.wrap (t % 4294967296 + x0 * y1) = t % 4294967296 + x0 * y1 := wu_id (by omega) (by omega)
  have f5 : (t % 4294967296 + x0 * y1).fdiv 4294967296 = (t % 4294967296 + x0 * y1) / 4294967296 := Int.fdiv_eq_ediv_of_nonneg _ (by decide)
  have w6 : IntKind.u64.wrap (x1 * y1) = x1 * y1 := wu_id d1 (by omega)
  have w7 : IntKind.u64.wrap (x1 * y1 + t / 4294967296) = x1 * y1 + t / 4294967296 := wu_id (by omega) (by omega)
  rw [ht] at hhi
  have hlt : x * y / 18446744073709551616 < 18446744073709551616 := by
    have : x * y ≤ 18446744073709551615 * 18446744073709551615 := Int.mul_le_mul (by omega) (by omega) h3 (by decide)
    omega
  have hnn : 0 ≤ x * y / 18446744073709551616 := Int.ediv_nonneg (Int.mul_nonneg h1 h3) (by decide)
  have w8 : IntKind.u64.wrap (x1 * y1 + t / 4294967296 + (t % 4294967296 + x0 * y1) / 4294967296) = mhi x y := by
    rw [mhi, hhi]
    rw [hhi] at hlt hnn
    exact wu_id hnn hlt
  have w9 : IntKind.u64.wrap (x * y) = mlo x y := by
    simp only [IntKind.wrap, IntKind.signed, IntKind.bits, mlo]; simp
  rw [hx0] at ax
  rw [hy0] at ay
  refine detP_of Try.func174 rfl (by kernel_rfl) (by simp [Try.f174]) rfl ?_
  intro C hP hN
  simp only [Try.f174] at hN ⊢
  repeat' (first
    | with_reducible refine WP.seq ?_
    | (with_reducible ((first | refine WP.region (hn := []) ?_ | refine WP.cond' ?_); simp -implicitDefEqProofs (maxSteps := 2000000) [hP, hN, ax, ay, fx, fy, w1, f1, w2, w3, at_, ft, w4, w5, f5, w6, w7, w8, w9, IntKind.bits]))
    | (with_reducible ((first | refine WP.draw (hn := []) (by rw [hP]; kernel_rfl) (by kernel_rfl) ?_); simp -implicitDefEqProofs (maxSteps := 2000000) [hP, hN, ax, ay, fx, fy, w1, f1, w2, w3, at_, ft, w4, w5, f5, w6, w7, w8, w9, IntKind.bits]; (try refine ⟨by kernel_rfl, ?_⟩)))
    | (with_reducible refine xB_split (by simp [ax, ay, fx, fy, w1, f1, w2, w3, at_, ft, w4, w5, f5, w6, w7, w8, w9, IntKind.bits]) (fun hgd => ?_) (fun hgd => ?_) <;> first | (exfalso; simp at hgd; done) | (exfalso; simp at hgd; omega) | simp -implicitDefEqProofs (maxSteps := 2000000) [hP, hN, ax, ay, fx, fy, w1, f1, w2, w3, at_, ft, w4, w5, f5, w6, w7, w8, w9, IntKind.bits])
    | (with_reducible refine yB_split (by simp [ax, ay, fx, fy, w1, f1, w2, w3, at_, ft, w4, w5, f5, w6, w7, w8, w9, IntKind.bits]) (fun hgd => ?_) (fun hgd => ?_) <;> first | (exfalso; simp at hgd; done) | (exfalso; simp at hgd; omega) | (simp -implicitDefEqProofs (maxSteps := 2000000) [hP, hN, ax, ay, fx, fy, w1, f1, w2, w3, at_, ft, w4, w5, f5, w6, w7, w8, w9, IntKind.bits] <;> (try refine ⟨by kernel_rfl, ?_⟩)))
    | with_reducible refine xTwo_intro ?_ ?_
    | (with_reducible refine xCond_split (fun hcd => ?_) (fun hcd => ?_) <;> (try (exfalso; clear hP hN; simp_all; done)) <;> (try (exfalso; simp at *; omega)))
    | with_reducible refine WP.block ?_
    | (with_reducible ((first | refine WP.skip ?_ | refine WP.exit ?_ | refine WP.ret ?_); simp [ax, ay, fx, fy, w1, f1, w2, w3, at_, ft, w4, w5, f5, w6, w7, w8, w9, IntKind.bits])))
abbrev Fr := Int × Int
def ltF (f g : Fr) : Bool := decide (f.1 * g.2 < g.1 * f.2)
def okF (f : Fr) : Prop := 0 ≤ f.1 ∧ f.1 < 9223372036854775808 ∧ 0 ≤ f.2 ∧ f.2 < 9223372036854775808
theorem lex_lt {u v : Int} : (decide (u / 18446744073709551616 < v / 18446744073709551616) || ((u / 18446744073709551616 == v / 18446744073709551616) && decide (u % 18446744073709551616 < v % 18446744073709551616))) = decide (u < v) := by
  rw [Bool.eq_iff_iff]
  simp only [Bool.or_eq_true, Bool.and_eq_true, decide_eq_true_eq, beq_iff_eq]
  omega
set_option maxHeartbeats 2000000 in
theorem d136 (f g : Fr) (hf : okF f) (hg : okF g) : DetH Try.prog 136 [.pv (encI f), .pv (encI g)] [] [] (.pv (B (ltF f g))) := by
  obtain ⟨f1, f2, f3, f4⟩ := hf
  obtain ⟨g1, g2, g3, g4⟩ := hg
  have c1 := d174 f.1 g.2 f1 (by omega) g3 (by omega)
  have c2 := d174 g.1 f.2 g1 (by omega) f3 (by omega)
  have k1 : IntKind.u64.wrap f.1 = f.1 := wu_id f1 (by omega)
  have k2 : IntKind.u64.wrap f.2 = f.2 := wu_id f3 (by omega)
  have k3 : IntKind.u64.wrap g.1 = g.1 := wu_id g1 (by omega)
  have k4 : IntKind.u64.wrap g.2 = g.2 := wu_id g3 (by omega)
  have hlex : ltF f g = (decide (mhi f.1 g.2 < mhi g.1 f.2) || ((mhi f.1 g.2 == mhi g.1 f.2) && decide (mlo f.1 g.2 < mlo g.1 f.2))) := (lex_lt (u := f.1 * g.2) (v := g.1 * f.2)).symm
  rw [hlex]
  generalize mhi f.1 g.2 = a at *
  generalize mhi g.1 f.2 = b at *
  generalize mlo f.1 g.2 = c at *
  generalize mlo g.1 f.2 = d at *
  refine detP_of Try.func136 rfl (by kernel_rfl) (by simp [Try.f136]) rfl ?_
  intro C hP hN
  simp only [Try.f136] at hN ⊢
  repeat' (first
    | with_reducible refine WP.seq ?_
    | (with_reducible ((first | refine WP.region (hn := []) ?_ | refine xC_intro (c1) ?_ | refine xC_intro (c2) ?_ | refine WP.cond' ?_); simp -implicitDefEqProofs (maxSteps := 2000000) [hP, hN, k1, k2, k3, k4]))
    | (with_reducible ((first | refine WP.draw (hn := []) (by rw [hP]; kernel_rfl) (by kernel_rfl) ?_ | refine yC_intro (c1) ?_ | refine yC_intro (c2) ?_); simp -implicitDefEqProofs (maxSteps := 2000000) [hP, hN, k1, k2, k3, k4]; (try refine ⟨by kernel_rfl, ?_⟩)))
    | (with_reducible refine xB_split (by simp [k1, k2, k3, k4]) (fun hgd => ?_) (fun hgd => ?_) <;> first | (exfalso; simp at hgd; done) | (exfalso; simp at hgd; omega) | simp -implicitDefEqProofs (maxSteps := 2000000) [hP, hN, k1, k2, k3, k4])
    | (with_reducible refine yB_split (by simp [k1, k2, k3, k4]) (fun hgd => ?_) (fun hgd => ?_) <;> first | (exfalso; simp at hgd; done) | (exfalso; simp at hgd; omega) | (simp -implicitDefEqProofs (maxSteps := 2000000) [hP, hN, k1, k2, k3, k4] <;> (try refine ⟨by kernel_rfl, ?_⟩)))
    | with_reducible refine xTwo_intro ?_ ?_
    | (with_reducible refine xCond_split (fun hcd => ?_) (fun hcd => ?_) <;> (try (exfalso; clear hP hN; simp_all; done)) <;> (try (exfalso; simp at *; omega)))
    | with_reducible refine WP.block ?_
    | (with_reducible ((first | refine WP.skip ?_ | refine WP.exit ?_ | refine WP.ret ?_); simp [k1, k2, k3, k4])))
  all_goals (simp_all)
end Go.Ab
