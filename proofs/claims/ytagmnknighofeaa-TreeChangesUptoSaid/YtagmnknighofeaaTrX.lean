/- TrK, TrL, TrO, TrR, TrU, TrV: as one text. -/
import Derived.Test.YtagmnknighofeaaTrE
import Derived.Test.YtagmnknighofeaaTrF
import Derived.Test.YtagmnknighofeaaTrH
set_option linter.all false
/- Contracts: the program's own trees. -/
namespace Go.Ab
open Go.Proofs
def boxOk (t : Tr) (i : Int) : Bool := validT t && decide (0 ≤ i) && decide (i < t.cells.length)
def boxOf (t : Tr) (i : Int) : Bx := if boxOk t i then boxAt t i else []
theorem boxOf_no {t : Tr} {i : Int} (h : boxOk t i = false) : boxOf t i = [] := by simp [boxOf, h]
set_option maxHeartbeats 4000000 in
theorem d28 (t : Tr) (i : Int) (hl : t.cells.length ≤ 9223372036854775807) : DetH Try.prog 28 [.pv (encT t), .pv (Z i)] [] [] (.pv (.tup [iv (boxOf t i), B (boxOk t i)])) := by
  have cb := d77 t hl
  cases hv : validT t with
  | false =>
    have hno : boxOk t i = false := by simp [boxOk, hv]
    rw [boxOf_no hno, hno]
    rw [hv] at cb
    refine detP_of Try.func28 rfl (by kernel_rfl) (by simp [Try.f28]) rfl ?_
    intro C hP hN
    simp only [Try.f28] at hN ⊢
    repeat' (first
      | with_reducible refine WP.seq ?_
      | (with_reducible ((first | refine WP.region (hn := []) ?_ | refine xC_intro (cb) ?_ | refine WP.cond' ?_); simp -implicitDefEqProofs (maxSteps := 2000000) [hP, hN]))
      | (with_reducible ((first | refine WP.draw (hn := []) (by rw [hP]; kernel_rfl) (by kernel_rfl) ?_ | refine yC_intro (cb) ?_); simp -implicitDefEqProofs (maxSteps := 2000000) [hP, hN]; (try refine ⟨by kernel_rfl, ?_⟩)))
      | (with_reducible refine xB_split (by simp) (fun hgd => ?_) (fun hgd => ?_) <;> first | (exfalso; simp at hgd; done) | (exfalso; simp at hgd; omega) | simp -implicitDefEqProofs (maxSteps := 2000000) [hP, hN])
      | (with_reducible refine yB_split (by simp) (fun hgd => ?_) (fun hgd => ?_) <;> first | (exfalso; simp at hgd; done) | (exfalso; simp at hgd; omega) | (simp -implicitDefEqProofs (maxSteps := 2000000) [hP, hN] <;> (try refine ⟨by kernel_rfl, ?_⟩)))
      | with_reducible refine xTwo_intro ?_ ?_
      | (with_reducible refine xCond_split (fun hcd => ?_) (fun hcd => ?_) <;> (try (exfalso; clear hP hN; simp_all; done)) <;> (try (exfalso; simp at *; omega)))
      | with_reducible refine WP.block ?_
      | (with_reducible ((first | refine WP.skip ?_ | refine WP.exit ?_ | refine WP.ret ?_); simp)))
  | true =>
    rw [hv] at cb
    have hbl := boxesL_len hv
    have hz := sizeOk_iff.1 (valid_size hv)
    by_cases h1 : i < 0
    · have hno : boxOk t i = false := by
        have : decide (0 ≤ i) = false := by simp; omega
        simp only [boxOk, this, Bool.and_false, Bool.false_and]
      rw [boxOf_no hno, hno]
      refine detP_of Try.func28 rfl (by kernel_rfl) (by simp [Try.f28]) rfl ?_
      intro C hP hN
      simp only [Try.f28] at hN ⊢
      repeat' (first
        | with_reducible refine WP.seq ?_
        | (with_reducible ((first | refine WP.region (hn := []) ?_ | refine xC_intro (cb) ?_ | refine WP.cond' ?_); simp -implicitDefEqProofs (maxSteps := 2000000) [hP, hN, h1]))
        | (with_reducible ((first | refine WP.draw (hn := []) (by rw [hP]; kernel_rfl) (by kernel_rfl) ?_ | refine yC_intro (cb) ?_); simp -implicitDefEqProofs (maxSteps := 2000000) [hP, hN, h1]; (try refine ⟨by kernel_rfl, ?_⟩)))
        | (with_reducible refine xB_split (by simp [h1]) (fun hgd => ?_) (fun hgd => ?_) <;> first | (exfalso; simp at hgd; done) | (exfalso; simp at hgd; omega) | simp -implicitDefEqProofs (maxSteps := 2000000) [hP, hN, h1])
        | (with_reducible refine yB_split (by simp [h1]) (fun hgd => ?_) (fun hgd => ?_) <;> first | (exfalso; simp at hgd; done) | (exfalso; simp at hgd; omega) | (simp -implicitDefEqProofs (maxSteps := 2000000) [hP, hN, h1] <;> (try refine ⟨by kernel_rfl, ?_⟩)))
        | with_reducible refine xTwo_intro ?_ ?_
        | (with_reducible refine xCond_split (fun hcd => ?_) (fun hcd => ?_) <;> (try (exfalso; clear hP hN; simp_all; done)) <;> (try (exfalso; simp at *; omega)))
        | with_reducible refine WP.block ?_
        | (with_reducible ((first | refine WP.skip ?_ | refine WP.exit ?_ | refine WP.ret ?_); simp [h1])))
    · obtain ⟨k, rfl⟩ := Int.eq_ofNat_of_zero_le (show 0 ≤ i by omega)
      by_cases h2 : t.cells.length ≤ k
      · have hno : boxOk t k = false := by
          have : decide ((k : Int) < t.cells.length) = false := by simp; omega
          simp only [boxOk, this, Bool.and_false, Bool.false_and]
        rw [boxOf_no hno, hno]
        refine detP_of Try.func28 rfl (by kernel_rfl) (by simp [Try.f28]) rfl ?_
        intro C hP hN
        simp only [Try.f28] at hN ⊢
        repeat' (first
          | with_reducible refine WP.seq ?_
          | (with_reducible ((first | refine WP.region (hn := []) ?_ | refine xC_intro (cb) ?_ | refine WP.cond' ?_); simp -implicitDefEqProofs (maxSteps := 2000000) [hP, hN, h1, h2, hbl]))
          | (with_reducible ((first | refine WP.draw (hn := []) (by rw [hP]; kernel_rfl) (by kernel_rfl) ?_ | refine yC_intro (cb) ?_); simp -implicitDefEqProofs (maxSteps := 2000000) [hP, hN, h1, h2, hbl]; (try refine ⟨by kernel_rfl, ?_⟩)))
          | (with_reducible refine xB_split (by simp [h1, h2, hbl]) (fun hgd => ?_) (fun hgd => ?_) <;> first | (exfalso; simp at hgd; done) | (exfalso; simp at hgd; omega) | simp -implicitDefEqProofs (maxSteps := 2000000) [hP, hN, h1, h2, hbl])
          | (with_reducible refine yB_split (by simp [h1, h2, hbl]) (fun hgd => ?_) (fun hgd => ?_) <;> first | (exfalso; simp at hgd; done) | (exfalso; simp at hgd; omega) | (simp -implicitDefEqProofs (maxSteps := 2000000) [hP, hN, h1, h2, hbl] <;> (try refine ⟨by kernel_rfl, ?_⟩)))
          | with_reducible refine xTwo_intro ?_ ?_
          | (with_reducible refine xCond_split (fun hcd => ?_) (fun hcd => ?_) <;> (try (exfalso; clear hP hN; simp_all; done)) <;> (try (exfalso; simp at *; omega)))
          | with_reducible refine WP.block ?_
          | (with_reducible ((first | refine WP.skip ?_ | refine WP.exit ?_ | refine WP.ret ?_); simp [h1, h2, hbl])))
      · have hlt : k < t.cells.length := by omega
        have hlt' : k < (boxesL t).length := by omega
        obtain ⟨hb1, hb2, _⟩ := boxAt_ok hv (c := (k : Int)) hlt
        have hb1' : (boxesL t)[k]? = some (boxAt t k) := hb1
        have hb3 := get_of hb1' hlt'
        have hyes : boxOk t k = true := by simp [boxOk, hv, hlt]
        have hbo : boxOf t k = boxAt t k := by simp [boxOf, hyes]
        rw [hbo, hyes]
        have cc := d81 (boxAt t k) (by omega)
        refine detP_of Try.func28 rfl (by kernel_rfl) (by simp [Try.f28]) rfl ?_
        intro C hP hN
        simp only [Try.f28] at hN ⊢
        repeat' (first
          | with_reducible refine WP.seq ?_
          | (with_reducible ((first | refine WP.region (hn := []) ?_ | refine xC_intro (cb) ?_ | refine xC_intro (cc) ?_ | refine WP.cond' ?_); simp -implicitDefEqProofs (maxSteps := 2000000) [hP, hN, h1, h2, hbl, hlt, hlt', hb1', hb3]))
          | (with_reducible ((first | refine WP.draw (hn := []) (by rw [hP]; kernel_rfl) (by kernel_rfl) ?_ | refine yC_intro (cb) ?_ | refine yC_intro (cc) ?_); simp -implicitDefEqProofs (maxSteps := 2000000) [hP, hN, h1, h2, hbl, hlt, hlt', hb1', hb3]; (try refine ⟨by kernel_rfl, ?_⟩)))
          | (with_reducible refine xB_split (by simp [h1, h2, hbl, hlt, hlt', hb1', hb3]) (fun hgd => ?_) (fun hgd => ?_) <;> first | (exfalso; simp at hgd; done) | (exfalso; simp at hgd; omega) | simp -implicitDefEqProofs (maxSteps := 2000000) [hP, hN, h1, h2, hbl, hlt, hlt', hb1', hb3])
          | (with_reducible refine yB_split (by simp [h1, h2, hbl, hlt, hlt', hb1', hb3]) (fun hgd => ?_) (fun hgd => ?_) <;> first | (exfalso; simp at hgd; done) | (exfalso; simp at hgd; omega) | (simp -implicitDefEqProofs (maxSteps := 2000000) [hP, hN, h1, h2, hbl, hlt, hlt', hb1', hb3] <;> (try refine ⟨by kernel_rfl, ?_⟩)))
          | with_reducible refine xTwo_intro ?_ ?_
          | (with_reducible refine xCond_split (fun hcd => ?_) (fun hcd => ?_) <;> (try (exfalso; clear hP hN; simp_all; done)) <;> (try (exfalso; simp at *; omega)))
          | with_reducible refine WP.block ?_
          | (with_reducible ((first | refine WP.skip ?_ | refine WP.exit ?_ | refine WP.ret ?_); simp [h1, h2, hbl, hlt, hlt', hb1', hb3])))
set_option maxHeartbeats 4000000 in
theorem d61 (t : Tr) (i : Int) (hl : t.cells.length ≤ 9223372036854775807) : DetH Try.prog 61 [.pv (encT t), .pv (Z i)] [] [] (.pv (.tup [iv (boxOf t i), B (boxOk t i)])) := by
  have cb := d52 t hl
  cases hv : validT t with
  | false =>
    have hno : boxOk t i = false := by simp [boxOk, hv]
    rw [boxOf_no hno, hno]
    rw [hv] at cb
    refine detP_of Try.func61 rfl (by kernel_rfl) (by simp [Try.f61]) rfl ?_
    intro C hP hN
    simp only [Try.f61] at hN ⊢
    repeat' (first
      | with_reducible refine WP.seq ?_
      | (with_reducible ((first | refine WP.region (hn := []) ?_ | refine xC_intro (cb) ?_ | refine WP.cond' ?_); simp -implicitDefEqProofs (maxSteps := 2000000) [hP, hN]))
      | (with_reducible ((first | refine WP.draw (hn := []) (by rw [hP]; kernel_rfl) (by kernel_rfl) ?_ | refine yC_intro (cb) ?_); simp -implicitDefEqProofs (maxSteps := 2000000) [hP, hN]; (try refine ⟨by kernel_rfl, ?_⟩)))
      | (with_reducible refine xB_split (by simp) (fun hgd => ?_) (fun hgd => ?_) <;> first | (exfalso; simp at hgd; done) | (exfalso; simp at hgd; omega) | simp -implicitDefEqProofs (maxSteps := 2000000) [hP, hN])
      | (with_reducible refine yB_split (by simp) (fun hgd => ?_) (fun hgd => ?_) <;> first | (exfalso; simp at hgd; done) | (exfalso; simp at hgd; omega) | (simp -implicitDefEqProofs (maxSteps := 2000000) [hP, hN] <;> (try refine ⟨by kernel_rfl, ?_⟩)))
      | with_reducible refine xTwo_intro ?_ ?_
      | (with_reducible refine xCond_split (fun hcd => ?_) (fun hcd => ?_) <;> (try (exfalso; clear hP hN; simp_all; done)) <;> (try (exfalso; simp at *; omega)))
      | with_reducible refine WP.block ?_
      | (with_reducible ((first | refine WP.skip ?_ | refine WP.exit ?_ | refine WP.ret ?_); simp)))
  | true =>
    rw [hv] at cb
    have hbl := boxesL_len hv
    by_cases h1 : i < 0
    · have hno : boxOk t i = false := by
        have : decide (0 ≤ i) = false := by simp; omega
        simp only [boxOk, this, Bool.and_false, Bool.false_and]
      rw [boxOf_no hno, hno]
      refine detP_of Try.func61 rfl (by kernel_rfl) (by simp [Try.f61]) rfl ?_
      intro C hP hN
      simp only [Try.f61] at hN ⊢
      repeat' (first
        | with_reducible refine WP.seq ?_
        | (with_reducible ((first | refine WP.region (hn := []) ?_ | refine xC_intro (cb) ?_ | refine WP.cond' ?_); simp -implicitDefEqProofs (maxSteps := 2000000) [hP, hN, h1]))
        | (with_reducible ((first | refine WP.draw (hn := []) (by rw [hP]; kernel_rfl) (by kernel_rfl) ?_ | refine yC_intro (cb) ?_); simp -implicitDefEqProofs (maxSteps := 2000000) [hP, hN, h1]; (try refine ⟨by kernel_rfl, ?_⟩)))
        | (with_reducible refine xB_split (by simp [h1]) (fun hgd => ?_) (fun hgd => ?_) <;> first | (exfalso; simp at hgd; done) | (exfalso; simp at hgd; omega) | simp -implicitDefEqProofs (maxSteps := 2000000) [hP, hN, h1])
        | (with_reducible refine yB_split (by simp [h1]) (fun hgd => ?_) (fun hgd => ?_) <;> first | (exfalso; simp at hgd; done) | (exfalso; simp at hgd; omega) | (simp -implicitDefEqProofs (maxSteps := 2000000) [hP, hN, h1] <;> (try refine ⟨by kernel_rfl, ?_⟩)))
        | with_reducible refine xTwo_intro ?_ ?_
        | (with_reducible refine xCond_split (fun hcd => ?_) (fun hcd => ?_) <;> (try (exfalso; clear hP hN; simp_all; done)) <;> (try (exfalso; simp at *; omega)))
        | with_reducible refine WP.block ?_
        | (with_reducible ((first | refine WP.skip ?_ | refine WP.exit ?_ | refine WP.ret ?_); simp [h1])))
    · obtain ⟨k, rfl⟩ := Int.eq_ofNat_of_zero_le (show 0 ≤ i by omega)
      by_cases h2 : t.cells.length ≤ k
      · have hno : boxOk t k = false := by
          have : decide ((k : Int) < t.cells.length) = false := by simp; omega
          simp only [boxOk, this, Bool.and_false, Bool.false_and]
        rw [boxOf_no hno, hno]
        refine detP_of Try.func61 rfl (by kernel_rfl) (by simp [Try.f61]) rfl ?_
        intro C hP hN
        simp only [Try.f61] at hN ⊢
        repeat' (first
          | with_reducible refine WP.seq ?_
          | (with_reducible ((first | refine WP.region (hn := []) ?_ | refine xC_intro (cb) ?_ | refine WP.cond' ?_); simp -implicitDefEqProofs (maxSteps := 2000000) [hP, hN, h1, h2, hbl]))
          | (with_reducible ((first | refine WP.draw (hn := []) (by rw [hP]; kernel_rfl) (by kernel_rfl) ?_ | refine yC_intro (cb) ?_); simp -implicitDefEqProofs (maxSteps := 2000000) [hP, hN, h1, h2, hbl]; (try refine ⟨by kernel_rfl, ?_⟩)))
          | (with_reducible refine xB_split (by simp [h1, h2, hbl]) (fun hgd => ?_) (fun hgd => ?_) <;> first | (exfalso; simp at hgd; done) | (exfalso; simp at hgd; omega) | simp -implicitDefEqProofs (maxSteps := 2000000) [hP, hN, h1, h2, hbl])
          | (with_reducible refine yB_split (by simp [h1, h2, hbl]) (fun hgd => ?_) (fun hgd => ?_) <;> first | (exfalso; simp at hgd; done) | (exfalso; simp at hgd; omega) | (simp -implicitDefEqProofs (maxSteps := 2000000) [hP, hN, h1, h2, hbl] <;> (try refine ⟨by kernel_rfl, ?_⟩)))
          | with_reducible refine xTwo_intro ?_ ?_
          | (with_reducible refine xCond_split (fun hcd => ?_) (fun hcd => ?_) <;> (try (exfalso; clear hP hN; simp_all; done)) <;> (try (exfalso; simp at *; omega)))
          | with_reducible refine WP.block ?_
          | (with_reducible ((first | refine WP.skip ?_ | refine WP.exit ?_ | refine WP.ret ?_); simp [h1, h2, hbl])))
      · have hlt : k < t.cells.length := by omega
        have hlt' : k < (boxesL t).length := by omega
        obtain ⟨hb1, hb2, _⟩ := boxAt_ok hv (c := (k : Int)) hlt
        have hb1' : (boxesL t)[k]? = some (boxAt t k) := hb1
        have hb3 := get_of hb1' hlt'
        have hyes : boxOk t k = true := by simp [boxOk, hv, hlt]
        have hbo : boxOf t k = boxAt t k := by simp [boxOf, hyes]
        rw [hbo, hyes]
        refine detP_of Try.func61 rfl (by kernel_rfl) (by simp [Try.f61]) rfl ?_
        intro C hP hN
        simp only [Try.f61] at hN ⊢
        repeat' (first
          | with_reducible refine WP.seq ?_
          | (with_reducible ((first | refine WP.region (hn := []) ?_ | refine xC_intro (cb) ?_ | refine WP.cond' ?_); simp -implicitDefEqProofs (maxSteps := 2000000) [hP, hN, h1, h2, hbl, hlt, hlt', hb1', hb3]))
          | (with_reducible ((first | refine WP.draw (hn := []) (by rw [hP]; kernel_rfl) (by kernel_rfl) ?_ | refine yC_intro (cb) ?_); simp -implicitDefEqProofs (maxSteps := 2000000) [hP, hN, h1, h2, hbl, hlt, hlt', hb1', hb3]; (try refine ⟨by kernel_rfl, ?_⟩)))
          | (with_reducible refine xB_split (by simp [h1, h2, hbl, hlt, hlt', hb1', hb3]) (fun hgd => ?_) (fun hgd => ?_) <;> first | (exfalso; simp at hgd; done) | (exfalso; simp at hgd; omega) | simp -implicitDefEqProofs (maxSteps := 2000000) [hP, hN, h1, h2, hbl, hlt, hlt', hb1', hb3])
          | (with_reducible refine yB_split (by simp [h1, h2, hbl, hlt, hlt', hb1', hb3]) (fun hgd => ?_) (fun hgd => ?_) <;> first | (exfalso; simp at hgd; done) | (exfalso; simp at hgd; omega) | (simp -implicitDefEqProofs (maxSteps := 2000000) [hP, hN, h1, h2, hbl, hlt, hlt', hb1', hb3] <;> (try refine ⟨by kernel_rfl, ?_⟩)))
          | with_reducible refine xTwo_intro ?_ ?_
          | (with_reducible refine xCond_split (fun hcd => ?_) (fun hcd => ?_) <;> (try (exfalso; clear hP hN; simp_all; done)) <;> (try (exfalso; simp at *; omega)))
          | with_reducible refine WP.block ?_
          | (with_reducible ((first | refine WP.skip ?_ | refine WP.exit ?_ | refine WP.ret ?_); simp [h1, h2, hbl, hlt, hlt', hb1', hb3])))
theorem d94 (v : Verd) : DetH Try.prog 94 [.pv (encVd v)] [] [] (.pv (encC (leafC v))) := by
  refine detP_of Try.func94 rfl (by kernel_rfl) (by simp [Try.f94]) rfl ?_
  intro C hP hN
  simp only [Try.f94] at hN ⊢
  repeat' (first
    | with_reducible refine WP.seq ?_
    | (with_reducible ((first | refine WP.region (hn := []) ?_ | refine WP.cond' ?_); simp -implicitDefEqProofs (maxSteps := 2000000) [hP, hN]))
    | (with_reducible ((first | refine WP.draw (hn := []) (by rw [hP]; kernel_rfl) (by kernel_rfl) ?_); simp -implicitDefEqProofs (maxSteps := 2000000) [hP, hN]; (try refine ⟨by kernel_rfl, ?_⟩)))
    | (with_reducible refine xB_split (by simp) (fun hgd => ?_) (fun hgd => ?_) <;> first | (exfalso; simp at hgd; done) | (exfalso; simp at hgd; omega) | simp -implicitDefEqProofs (maxSteps := 2000000) [hP, hN])
    | (with_reducible refine yB_split (by simp) (fun hgd => ?_) (fun hgd => ?_) <;> first | (exfalso; simp at hgd; done) | (exfalso; simp at hgd; omega) | (simp -implicitDefEqProofs (maxSteps := 2000000) [hP, hN] <;> (try refine ⟨by kernel_rfl, ?_⟩)))
    | with_reducible refine xTwo_intro ?_ ?_
    | (with_reducible refine xCond_split (fun hcd => ?_) (fun hcd => ?_) <;> (try (exfalso; clear hP hN; simp_all; done)) <;> (try (exfalso; simp at *; omega)))
    | with_reducible refine WP.block ?_
    | (with_reducible ((first | refine WP.skip ?_ | refine WP.exit ?_ | refine WP.ret ?_); simp)))
  all_goals simp [leafC]
theorem d155 (xs : List (Int × Int × Int)) (hl : xs.length ≤ 16777216) : DetH Try.prog 155 [.pv (.sl (xs.map encVec))] [] [] (.pv (.sl (xs.map encVec))) := by
  by_cases hx : xs = []
  · subst hx
    refine detP_of Try.func155 rfl (by kernel_rfl) (by simp [Try.f155]) rfl ?_
    intro C hP hN
    simp only [Try.f155] at hN ⊢
    repeat' (first
      | with_reducible refine WP.seq ?_
      | (with_reducible ((first | refine WP.region (hn := [5]) ?_ | refine WP.cond' ?_); simp -implicitDefEqProofs (maxSteps := 2000000) [hP, hN]))
      | (with_reducible ((first | refine WP.draw (hn := [5]) (by rw [hP]; kernel_rfl) (by kernel_rfl) ?_); simp -implicitDefEqProofs (maxSteps := 2000000) [hP, hN]; (try refine ⟨by kernel_rfl, ?_⟩)))
      | (with_reducible refine xB_split (by simp) (fun hgd => ?_) (fun hgd => ?_) <;> first | (exfalso; simp at hgd; done) | (exfalso; simp at hgd; omega) | simp -implicitDefEqProofs (maxSteps := 2000000) [hP, hN])
      | (with_reducible refine yB_split (by simp) (fun hgd => ?_) (fun hgd => ?_) <;> first | (exfalso; simp at hgd; done) | (exfalso; simp at hgd; omega) | (simp -implicitDefEqProofs (maxSteps := 2000000) [hP, hN] <;> (try refine ⟨by kernel_rfl, ?_⟩)))
      | with_reducible refine xTwo_intro ?_ ?_
      | (with_reducible refine xCond_split (fun hcd => ?_) (fun hcd => ?_) <;> (try (exfalso; clear hP hN; simp_all; done)) <;> (try (exfalso; simp at *; omega)))
      | with_reducible refine WP.block ?_
      | (with_reducible ((first | refine WP.skip ?_ | refine WP.exit ?_ | refine WP.ret ?_); simp)))
  · have hne : xs.isEmpty = false := by simp [hx]
    refine detP_of Try.func155 rfl (by kernel_rfl) (by simp [Try.f155]) rfl ?_
    intro C hP hN
    simp only [Try.f155] at hN ⊢
    repeat' (first
      | with_reducible refine WP.seq ?_
      | (with_reducible ((first | refine WP.region (hn := [5]) ?_ | refine WP.cond' ?_); simp -implicitDefEqProofs (maxSteps := 2000000) [hP, hN, hx, hne, show xs.length * 24 ≤ 140737488355328 by omega, show xs.length ≤ 9223372036854775807 by omega]))
      | (with_reducible ((first | refine WP.draw (hn := [5]) (by rw [hP]; kernel_rfl) (by kernel_rfl) ?_); simp -implicitDefEqProofs (maxSteps := 2000000) [hP, hN, hx, hne, show xs.length * 24 ≤ 140737488355328 by omega, show xs.length ≤ 9223372036854775807 by omega]; (try refine ⟨by kernel_rfl, ?_⟩)))
      | (with_reducible refine xB_split (by simp [hx, hne, show xs.length * 24 ≤ 140737488355328 by omega, show xs.length ≤ 9223372036854775807 by omega]) (fun hgd => ?_) (fun hgd => ?_) <;> first | (exfalso; simp at hgd; done) | (exfalso; simp at hgd; omega) | simp -implicitDefEqProofs (maxSteps := 2000000) [hP, hN, hx, hne, show xs.length * 24 ≤ 140737488355328 by omega, show xs.length ≤ 9223372036854775807 by omega])
      | (with_reducible refine yB_split (by simp [hx, hne, show xs.length * 24 ≤ 140737488355328 by omega, show xs.length ≤ 9223372036854775807 by omega]) (fun hgd => ?_) (fun hgd => ?_) <;> first | (exfalso; simp at hgd; done) | (exfalso; simp at hgd; omega) | (simp -implicitDefEqProofs (maxSteps := 2000000) [hP, hN, hx, hne, show xs.length * 24 ≤ 140737488355328 by omega, show xs.length ≤ 9223372036854775807 by omega] <;> (try refine ⟨by kernel_rfl, ?_⟩)))
      | with_reducible refine xTwo_intro ?_ ?_
      | (with_reducible refine xCond_split (fun hcd => ?_) (fun hcd => ?_) <;> (try (exfalso; clear hP hN; simp_all; done)) <;> (try (exfalso; simp at *; omega)))
      | with_reducible refine WP.block ?_
      | (with_reducible ((first | refine WP.skip ?_ | refine WP.exit ?_ | refine WP.ret ?_); simp [hx, hne, show xs.length * 24 ≤ 140737488355328 by omega, show xs.length ≤ 9223372036854775807 by omega])))
theorem cellsNil : DetH Try.prog 151 [.pv (.sl [])] [] [] (.pv (.sl [])) := by
  refine detP_of Try.func151 rfl (by kernel_rfl) (by simp [Try.f151]) rfl ?_
  intro C hP hN
  simp only [Try.f151] at hN ⊢
  repeat' (first
    | with_reducible refine WP.seq ?_
    | (with_reducible ((first | refine WP.region (hn := [5]) ?_ | refine WP.cond' ?_); simp -implicitDefEqProofs (maxSteps := 2000000) [hP, hN]))
    | (with_reducible ((first | refine WP.draw (hn := [5]) (by rw [hP]; kernel_rfl) (by kernel_rfl) ?_); simp -implicitDefEqProofs (maxSteps := 2000000) [hP, hN]; (try refine ⟨by kernel_rfl, ?_⟩)))
    | (with_reducible refine xB_split (by simp) (fun hgd => ?_) (fun hgd => ?_) <;> first | (exfalso; simp at hgd; done) | (exfalso; simp at hgd; omega) | simp -implicitDefEqProofs (maxSteps := 2000000) [hP, hN])
    | (with_reducible refine yB_split (by simp) (fun hgd => ?_) (fun hgd => ?_) <;> first | (exfalso; simp at hgd; done) | (exfalso; simp at hgd; omega) | (simp -implicitDefEqProofs (maxSteps := 2000000) [hP, hN] <;> (try refine ⟨by kernel_rfl, ?_⟩)))
    | with_reducible refine xTwo_intro ?_ ?_
    | (with_reducible refine xCond_split (fun hcd => ?_) (fun hcd => ?_) <;> (try (exfalso; clear hP hN; simp_all; done)) <;> (try (exfalso; simp at *; omega)))
    | with_reducible refine WP.block ?_
    | (with_reducible ((first | refine WP.skip ?_ | refine WP.exit ?_ | refine WP.ret ?_); simp)))
theorem cellsRow (xs : List Cel) (hl : xs.length ≤ 16777216) (hx : xs ≠ []) : DetH Try.prog 151 [.pv (.sl (xs.map encC))] [] [] (.row 92 8 (xs.map encC)) := by
  have hne : xs.isEmpty = false := by simp [hx]
  refine detP_of Try.func151 rfl (by kernel_rfl) (by simp [Try.f151]) rfl ?_
  intro C hP hN
  simp only [Try.f151] at hN ⊢
  repeat' (first
    | with_reducible refine WP.seq ?_
    | (with_reducible ((first | refine WP.region (hn := [5]) ?_ | refine WP.cond' ?_); simp -implicitDefEqProofs (maxSteps := 2000000) [hP, hN, hx, hne, show xs.length * 112 ≤ 140737488355328 by omega, show xs.length ≤ 9223372036854775807 by omega]))
    | (with_reducible ((first | refine WP.draw (hn := [5]) (by rw [hP]; kernel_rfl) (by kernel_rfl) ?_); simp -implicitDefEqProofs (maxSteps := 2000000) [hP, hN, hx, hne, show xs.length * 112 ≤ 140737488355328 by omega, show xs.length ≤ 9223372036854775807 by omega]; (try refine ⟨by kernel_rfl, ?_⟩)))
    | (with_reducible refine xB_split (by simp [hx, hne, show xs.length * 112 ≤ 140737488355328 by omega, show xs.length ≤ 9223372036854775807 by omega]) (fun hgd => ?_) (fun hgd => ?_) <;> first | (exfalso; simp at hgd; done) | (exfalso; simp at hgd; omega) | simp -implicitDefEqProofs (maxSteps := 2000000) [hP, hN, hx, hne, show xs.length * 112 ≤ 140737488355328 by omega, show xs.length ≤ 9223372036854775807 by omega])
    | (with_reducible refine yB_split (by simp [hx, hne, show xs.length * 112 ≤ 140737488355328 by omega, show xs.length ≤ 9223372036854775807 by omega]) (fun hgd => ?_) (fun hgd => ?_) <;> first | (exfalso; simp at hgd; done) | (exfalso; simp at hgd; omega) | (simp -implicitDefEqProofs (maxSteps := 2000000) [hP, hN, hx, hne, show xs.length * 112 ≤ 140737488355328 by omega, show xs.length ≤ 9223372036854775807 by omega] <;> (try refine ⟨by kernel_rfl, ?_⟩)))
    | with_reducible refine xTwo_intro ?_ ?_
    | (with_reducible refine xCond_split (fun hcd => ?_) (fun hcd => ?_) <;> (try (exfalso; clear hP hN; simp_all; done)) <;> (try (exfalso; simp at *; omega)))
    | with_reducible refine WP.block ?_
    | (with_reducible ((first | refine WP.skip ?_ | refine WP.exit ?_ | refine WP.ret ?_); simp [hx, hne, show xs.length * 112 ≤ 140737488355328 by omega, show xs.length ≤ 9223372036854775807 by omega])))
/-- A verdict of little size. -/
def vLe (n : Nat) (v : Verd) : Prop := v.nor.length ≤ n ∧ v.left.length ≤ n ∧ v.right.length ≤ n
set_option maxHeartbeats 4000000 in
theorem d95 (v : Verd) (hv : vLe 16777216 v) : DetH Try.prog 95 [.pv (encVd v)] [] [] (.pv (encVd v)) := by
  have c1 := d155 v.nor hv.1
  have c2 := d114 v.left hv.2.1
  have c3 := d114 v.right hv.2.2
  refine detP_of Try.func95 rfl (by kernel_rfl) (by simp [Try.f95]) rfl ?_
  intro C hP hN
  simp only [Try.f95] at hN ⊢
  repeat' (first
    | with_reducible refine WP.seq ?_
    | (with_reducible ((first | refine WP.region (hn := []) ?_ | refine xC_intro (c1) ?_ | refine xC_intro (c2) ?_ | refine xC_intro (c3) ?_ | refine WP.cond' ?_); simp -implicitDefEqProofs (maxSteps := 2000000) [hP, hN]))
    | (with_reducible ((first | refine WP.draw (hn := []) (by rw [hP]; kernel_rfl) (by kernel_rfl) ?_ | refine yC_intro (c1) ?_ | refine yC_intro (c2) ?_ | refine yC_intro (c3) ?_); simp -implicitDefEqProofs (maxSteps := 2000000) [hP, hN]; (try refine ⟨by kernel_rfl, ?_⟩)))
    | (with_reducible refine xB_split (by simp) (fun hgd => ?_) (fun hgd => ?_) <;> first | (exfalso; simp at hgd; done) | (exfalso; simp at hgd; omega) | simp -implicitDefEqProofs (maxSteps := 2000000) [hP, hN])
    | (with_reducible refine yB_split (by simp) (fun hgd => ?_) (fun hgd => ?_) <;> first | (exfalso; simp at hgd; done) | (exfalso; simp at hgd; omega) | (simp -implicitDefEqProofs (maxSteps := 2000000) [hP, hN] <;> (try refine ⟨by kernel_rfl, ?_⟩)))
    | with_reducible refine xTwo_intro ?_ ?_
    | (with_reducible refine xCond_split (fun hcd => ?_) (fun hcd => ?_) <;> (try (exfalso; clear hP hN; simp_all; done)) <;> (try (exfalso; simp at *; omega)))
    | with_reducible refine WP.block ?_
    | (with_reducible ((first | refine WP.skip ?_ | refine WP.exit ?_ | refine WP.ret ?_); simp)))
set_option maxHeartbeats 4000000 in
theorem d70 (r : List (Int × Int)) (hl : r.length ≤ 16777216) : DetH Try.prog 70 [.pv (iv r)] [] [] (.pv (.tup [encT (newT r), B (rootOk r)])) := by
  have cc := d81 r hl
  have cl : DetH Try.prog 94 [.pv (.agg [Z 0, .sl [], Z 0, .sl [], .sl []])] [] [] (.pv (.agg [Z (-1), Z (-1), Z (-1), Z 0, .sl [], Z 0, .sl [], .sl []])) := d94 zeroV
  have cv : DetH Try.prog 24 [.pv (.agg [iv r, .sl [.agg [Z (-1), Z (-1), Z (-1), Z 0, .sl [], Z 0, .sl [], .sl []]]])] [] [] (.pv (B (rootOk r))) := by
    have := d24 ⟨r, [leafC zeroV]⟩ (by simp)
    rw [new_valid] at this; exact this
  cases h : rootOk r with
  | true =>
    rw [h] at cv
    refine detP_of Try.func70 rfl (by kernel_rfl) (by simp [Try.f70]) rfl ?_
    intro C hP hN
    simp only [Try.f70] at hN ⊢
    repeat' (first
      | with_reducible refine WP.seq ?_
      | (with_reducible ((first | refine WP.region (hn := []) ?_ | refine xC_intro (cc) ?_ | refine xC_intro (cl) ?_ | refine xC_intro (cv) ?_ | refine WP.cond' ?_); simp -implicitDefEqProofs (maxSteps := 2000000) [hP, hN]))
      | (with_reducible ((first | refine WP.draw (hn := []) (by rw [hP]; kernel_rfl) (by kernel_rfl) ?_ | refine yC_intro (cc) ?_ | refine yC_intro (cl) ?_ | refine yC_intro (cv) ?_); simp -implicitDefEqProofs (maxSteps := 2000000) [hP, hN]; (try refine ⟨by kernel_rfl, ?_⟩)))
      | (with_reducible refine xB_split (by simp) (fun hgd => ?_) (fun hgd => ?_) <;> first | (exfalso; simp at hgd; done) | (exfalso; simp at hgd; omega) | simp -implicitDefEqProofs (maxSteps := 2000000) [hP, hN])
      | (with_reducible refine yB_split (by simp) (fun hgd => ?_) (fun hgd => ?_) <;> first | (exfalso; simp at hgd; done) | (exfalso; simp at hgd; omega) | (simp -implicitDefEqProofs (maxSteps := 2000000) [hP, hN] <;> (try refine ⟨by kernel_rfl, ?_⟩)))
      | with_reducible refine xTwo_intro ?_ ?_
      | (with_reducible refine xCond_split (fun hcd => ?_) (fun hcd => ?_) <;> (try (exfalso; clear hP hN; simp_all; done)) <;> (try (exfalso; simp at *; omega)))
      | with_reducible refine WP.block ?_
      | (with_reducible ((first | refine WP.skip ?_ | refine WP.exit ?_ | refine WP.ret ?_); simp)))
    all_goals simp [newT, h, leafC, zeroV]
  | false =>
    rw [h] at cv
    refine detP_of Try.func70 rfl (by kernel_rfl) (by simp [Try.f70]) rfl ?_
    intro C hP hN
    simp only [Try.f70] at hN ⊢
    repeat' (first
      | with_reducible refine WP.seq ?_
      | (with_reducible ((first | refine WP.region (hn := []) ?_ | refine xC_intro (cc) ?_ | refine xC_intro (cl) ?_ | refine xC_intro (cv) ?_ | refine WP.cond' ?_); simp -implicitDefEqProofs (maxSteps := 2000000) [hP, hN]))
      | (with_reducible ((first | refine WP.draw (hn := []) (by rw [hP]; kernel_rfl) (by kernel_rfl) ?_ | refine yC_intro (cc) ?_ | refine yC_intro (cl) ?_ | refine yC_intro (cv) ?_); simp -implicitDefEqProofs (maxSteps := 2000000) [hP, hN]; (try refine ⟨by kernel_rfl, ?_⟩)))
      | (with_reducible refine xB_split (by simp) (fun hgd => ?_) (fun hgd => ?_) <;> first | (exfalso; simp at hgd; done) | (exfalso; simp at hgd; omega) | simp -implicitDefEqProofs (maxSteps := 2000000) [hP, hN])
      | (with_reducible refine yB_split (by simp) (fun hgd => ?_) (fun hgd => ?_) <;> first | (exfalso; simp at hgd; done) | (exfalso; simp at hgd; omega) | (simp -implicitDefEqProofs (maxSteps := 2000000) [hP, hN] <;> (try refine ⟨by kernel_rfl, ?_⟩)))
      | with_reducible refine xTwo_intro ?_ ?_
      | (with_reducible refine xCond_split (fun hcd => ?_) (fun hcd => ?_) <;> (try (exfalso; clear hP hN; simp_all; done)) <;> (try (exfalso; simp at *; omega)))
      | with_reducible refine WP.block ?_
      | (with_reducible ((first | refine WP.skip ?_ | refine WP.exit ?_ | refine WP.ret ?_); simp)))
    all_goals simp [newT, h]
end Go.Ab

/- Contracts: copies of trees, splitting, settling. -/
namespace Go.Ab
open Go.Proofs
/-- A tree of little size. -/
structure TSm (t : Tr) : Prop where
  root : t.root.length ≤ 16777216
  cells : t.cells.length ≤ 16777216
  vs : ∀ c ∈ t.cells, vLe 16777216 c.v
theorem cloneNil (r : List (Int × Int)) (hr : r.length ≤ 16777216) : DetH Try.prog 92 [.pv (.agg [iv r, .sl []])] [] [] (.pv (.agg [iv r, .sl []])) := by
  have c1 := cellsNil
  have c2 := d81 r hr
  refine detP_of Try.func92 rfl (by kernel_rfl) (by simp [Try.f92]) rfl ?_
  intro C hP hN
  simp only [Try.f92] at hN ⊢
  repeat' (first
    | with_reducible refine WP.seq ?_
    | (with_reducible ((first | refine WP.region (hn := []) ?_ | refine xC_intro (c1) ?_ | refine xC_intro (c2) ?_ | refine WP.cond' ?_); simp -implicitDefEqProofs (maxSteps := 2000000) [hP, hN]))
    | (with_reducible ((first | refine WP.draw (hn := []) (by rw [hP]; kernel_rfl) (by kernel_rfl) ?_ | refine yC_intro (c1) ?_ | refine yC_intro (c2) ?_); simp -implicitDefEqProofs (maxSteps := 2000000) [hP, hN]; (try refine ⟨by kernel_rfl, ?_⟩)))
    | (with_reducible refine xB_split (by simp) (fun hgd => ?_) (fun hgd => ?_) <;> first | (exfalso; simp at hgd; done) | (exfalso; simp at hgd; omega) | simp -implicitDefEqProofs (maxSteps := 2000000) [hP, hN])
    | (with_reducible refine yB_split (by simp) (fun hgd => ?_) (fun hgd => ?_) <;> first | (exfalso; simp at hgd; done) | (exfalso; simp at hgd; omega) | (simp -implicitDefEqProofs (maxSteps := 2000000) [hP, hN] <;> (try refine ⟨by kernel_rfl, ?_⟩)))
    | with_reducible refine xTwo_intro ?_ ?_
    | (with_reducible refine xCond_split (fun hcd => ?_) (fun hcd => ?_) <;> (try (exfalso; clear hP hN; simp_all; done)) <;> (try (exfalso; simp at *; omega)))
    | with_reducible refine WP.block ?_
    | (with_reducible ((first | refine WP.skip ?_ | refine WP.exit ?_ | refine WP.ret ?_); simp)))
  refine WP.loopN [5] 0 (fun i st => st.t 1 = .ptr 1 0 ∧ st.t 2 = .ptr 2 0 ∧ st.t 3 = .pv (.sl []) ∧ st.t 10 = .pv (Z 0) ∧ st.t 11 = .pv (Z i) ∧ st.h 1 = some (.box [.pv (iv r), .pv (.sl [])] true false) ∧ st.h 2 = some (.box [.pv (.val (.slice none 0 0)), .pv (.val (.slice none 0 0))] true false) ∧ st.h 5 = none) (by simp) ?_
  rintro i st hi ⟨g1, g2, g3, g10, g11, hb1, hb2, hb5⟩
  have hi0 : i = 0 := by omega
  subst hi0
  repeat' (first
    | with_reducible refine WP.seq ?_
    | (with_reducible ((first | refine WP.region (hn := []) ?_ | refine xC_intro (c2) ?_ | refine WP.cond' ?_); simp -implicitDefEqProofs (maxSteps := 2000000) [hP, hN, g1, g2, g3, g10, g11, hb1, hb2, hb5]))
    | (with_reducible ((first | refine WP.draw (hn := []) (by rw [hP]; kernel_rfl) (by kernel_rfl) ?_ | refine yC_intro (c2) ?_); simp -implicitDefEqProofs (maxSteps := 2000000) [hP, hN, g1, g2, g3, g10, g11, hb1, hb2, hb5]; (try refine ⟨by kernel_rfl, ?_⟩)))
    | (with_reducible refine xB_split (by simp [g1, g2, g3, g10, g11, hb1, hb2, hb5]) (fun hgd => ?_) (fun hgd => ?_) <;> first | (exfalso; simp at hgd; done) | (exfalso; simp at hgd; omega) | simp -implicitDefEqProofs (maxSteps := 2000000) [hP, hN, g1, g2, g3, g10, g11, hb1, hb2, hb5])
    | (with_reducible refine yB_split (by simp [g1, g2, g3, g10, g11, hb1, hb2, hb5]) (fun hgd => ?_) (fun hgd => ?_) <;> first | (exfalso; simp at hgd; done) | (exfalso; simp at hgd; omega) | (simp -implicitDefEqProofs (maxSteps := 2000000) [hP, hN, g1, g2, g3, g10, g11, hb1, hb2, hb5] <;> (try refine ⟨by kernel_rfl, ?_⟩)))
    | with_reducible refine xTwo_intro ?_ ?_
    | (with_reducible refine xCond_split (fun hcd => ?_) (fun hcd => ?_) <;> (try (exfalso; clear hP hN; simp_all; done)) <;> (try (exfalso; simp at *; omega)))
    | with_reducible refine WP.block ?_
    | (with_reducible ((first | refine WP.skip ?_ | refine WP.exit ?_ | refine WP.ret ?_); simp [g1, g2, g3, g10, g11, hb1, hb2, hb5])))
set_option maxRecDepth 10000 in
set_option maxHeartbeats 4000000 in
theorem cloneRow (t : Tr) (ht : TSm t) (hne : t.cells ≠ []) : DetH Try.prog 92 [.pv (encT t)] [] [] (.srow [iv t.root] 92 8 (t.cells.map encC)) := by
  have c1 := cellsRow t.cells ht.cells hne
  have c2 := d81 t.root ht.root
  have hl := ht.cells
  refine detP_of Try.func92 rfl (by kernel_rfl) (by simp [Try.f92]) rfl ?_
  intro C hP hN
  simp only [Try.f92] at hN ⊢
  repeat' (first
    | with_reducible refine WP.seq ?_
    | (with_reducible ((first | refine WP.region (hn := []) ?_ | refine xC_intro (c1) ?_ | refine xC_intro (c2) ?_ | refine WP.cond' ?_); simp -implicitDefEqProofs (maxSteps := 2000000) [hP, hN]))
    | (with_reducible ((first | refine WP.draw (hn := []) (by rw [hP]; kernel_rfl) (by kernel_rfl) ?_ | refine yC_intro (c1) ?_ | refine yC_intro (c2) ?_); simp -implicitDefEqProofs (maxSteps := 2000000) [hP, hN]; (try refine ⟨by kernel_rfl, ?_⟩)))
    | (with_reducible refine xB_split (by simp) (fun hgd => ?_) (fun hgd => ?_) <;> first | (exfalso; simp at hgd; done) | (exfalso; simp at hgd; omega) | simp -implicitDefEqProofs (maxSteps := 2000000) [hP, hN])
    | (with_reducible refine yB_split (by simp) (fun hgd => ?_) (fun hgd => ?_) <;> first | (exfalso; simp at hgd; done) | (exfalso; simp at hgd; omega) | (simp -implicitDefEqProofs (maxSteps := 2000000) [hP, hN] <;> (try refine ⟨by kernel_rfl, ?_⟩)))
    | with_reducible refine xTwo_intro ?_ ?_
    | (with_reducible refine xCond_split (fun hcd => ?_) (fun hcd => ?_) <;> (try (exfalso; clear hP hN; simp_all; done)) <;> (try (exfalso; simp at *; omega)))
    | with_reducible refine WP.block ?_
    | (with_reducible ((first | refine WP.skip ?_ | refine WP.exit ?_ | refine WP.ret ?_); simp)))
  refine WP.loopN [5] t.cells.length (fun i st => st.t 1 = .ptr 1 0 ∧ st.t 2 = .ptr 2 0 ∧ st.t 3 = .arr 8 t.cells.length ∧ st.t 9 = .arr 8 t.cells.length ∧ st.t 10 = .pv (Z t.cells.length) ∧ st.t 11 = .pv (Z i) ∧ st.h 1 = some (.box [.pv (iv t.root), .pv (.sl (t.cells.map encC))] true false) ∧ st.h 2 = some (.box [.pv (.val (.slice none 0 0)), .pv (.val (.slice none 0 0))] true false) ∧ st.h 5 = none ∧ st.h 8 = some (.row 92 8 (t.cells.map encC) 0)) (by simp) ?_
  rintro i st hi ⟨g1, g2, g3, g9, g10, g11, hb1, hb2, hb5, hb8⟩
  by_cases hlt : i < t.cells.length
  · have hw := wr_succ hlt (by omega)
    generalize hc : t.cells[i] = c at *
    have hci : t.cells[i]? = some c := by rw [List.getElem?_eq_getElem hlt, hc]
    have cv := d95 c.v (ht.vs c (List.mem_of_getElem? hci))
    have hset : (t.cells.map encC).set i (encC c) = t.cells.map encC := by
      apply List.ext_getElem?; intro j
      rw [List.getElem?_set]
      by_cases e : i = j
      · subst e; simp [hlt, hc]
      · rw [if_neg e]
    repeat' (first
      | with_reducible refine WP.seq ?_
      | (with_reducible ((first | refine WP.region (hn := []) ?_ | refine xC_intro (cv) ?_ | refine WP.cond' ?_); simp -implicitDefEqProofs (maxSteps := 2000000) [hP, hN, g1, g2, g3, g9, g10, g11, hb1, hb2, hb5, hb8, hlt, hw, hci, hc]))
      | (with_reducible ((first | refine WP.draw (hn := []) (by rw [hP]; kernel_rfl) (by kernel_rfl) ?_ | refine yC_intro (cv) ?_); simp -implicitDefEqProofs (maxSteps := 2000000) [hP, hN, g1, g2, g3, g9, g10, g11, hb1, hb2, hb5, hb8, hlt, hw, hci, hc]; (try refine ⟨by kernel_rfl, ?_⟩)))
      | (with_reducible refine xB_split (by simp [g1, g2, g3, g9, g10, g11, hb1, hb2, hb5, hb8, hlt, hw, hci, hc]) (fun hgd => ?_) (fun hgd => ?_) <;> first | (exfalso; simp at hgd; done) | (exfalso; simp at hgd; omega) | simp -implicitDefEqProofs (maxSteps := 2000000) [hP, hN, g1, g2, g3, g9, g10, g11, hb1, hb2, hb5, hb8, hlt, hw, hci, hc])
      | (with_reducible refine yB_split (by simp [g1, g2, g3, g9, g10, g11, hb1, hb2, hb5, hb8, hlt, hw, hci, hc]) (fun hgd => ?_) (fun hgd => ?_) <;> first | (exfalso; simp at hgd; done) | (exfalso; simp at hgd; omega) | (simp -implicitDefEqProofs (maxSteps := 2000000) [hP, hN, g1, g2, g3, g9, g10, g11, hb1, hb2, hb5, hb8, hlt, hw, hci, hc] <;> (try refine ⟨by kernel_rfl, ?_⟩)))
      | with_reducible refine xTwo_intro ?_ ?_
      | (with_reducible refine xCond_split (fun hcd => ?_) (fun hcd => ?_) <;> (try (exfalso; clear hP hN; simp_all; done)) <;> (try (exfalso; simp at *; omega)))
      | with_reducible refine WP.block ?_
      | (with_reducible ((first | refine WP.skip ?_ | refine WP.exit ?_ | refine WP.ret ?_); simp [g1, g2, g3, g9, g10, g11, hb1, hb2, hb5, hb8, hlt, hw, hci, hc])))
    all_goals exact hset
  · skip
    repeat' (first
      | with_reducible refine WP.seq ?_
      | (with_reducible ((first | refine WP.region (hn := []) ?_ | refine xC_intro (c2) ?_ | refine WP.cond' ?_); simp -implicitDefEqProofs (maxSteps := 2000000) [hP, hN, g1, g2, g3, g9, g10, g11, hb1, hb2, hb5, hb8, hlt]))
      | (with_reducible ((first | refine WP.draw (hn := []) (by rw [hP]; kernel_rfl) (by kernel_rfl) ?_ | refine yC_intro (c2) ?_); simp -implicitDefEqProofs (maxSteps := 2000000) [hP, hN, g1, g2, g3, g9, g10, g11, hb1, hb2, hb5, hb8, hlt]; (try refine ⟨by kernel_rfl, ?_⟩)))
      | (with_reducible refine xB_split (by simp [g1, g2, g3, g9, g10, g11, hb1, hb2, hb5, hb8, hlt]) (fun hgd => ?_) (fun hgd => ?_) <;> first | (exfalso; simp at hgd; done) | (exfalso; simp at hgd; omega) | simp -implicitDefEqProofs (maxSteps := 2000000) [hP, hN, g1, g2, g3, g9, g10, g11, hb1, hb2, hb5, hb8, hlt])
      | (with_reducible refine yB_split (by simp [g1, g2, g3, g9, g10, g11, hb1, hb2, hb5, hb8, hlt]) (fun hgd => ?_) (fun hgd => ?_) <;> first | (exfalso; simp at hgd; done) | (exfalso; simp at hgd; omega) | (simp -implicitDefEqProofs (maxSteps := 2000000) [hP, hN, g1, g2, g3, g9, g10, g11, hb1, hb2, hb5, hb8, hlt] <;> (try refine ⟨by kernel_rfl, ?_⟩)))
      | with_reducible refine xTwo_intro ?_ ?_
      | (with_reducible refine xCond_split (fun hcd => ?_) (fun hcd => ?_) <;> (try (exfalso; clear hP hN; simp_all; done)) <;> (try (exfalso; simp at *; omega)))
      | with_reducible refine WP.block ?_
      | (with_reducible ((first | refine WP.skip ?_ | refine WP.exit ?_ | refine WP.ret ?_); simp [g1, g2, g3, g9, g10, g11, hb1, hb2, hb5, hb8, hlt])))
    all_goals exact ⟨8, ⟨rfl, rfl⟩, hb8⟩
theorem box_bad {t : Tr} {i : Int} (h : boxOk t i = false) : validT t = false ∨ ¬ 0 ≤ i ∨ ¬ i < t.cells.length := by
  by_cases h1 : 0 ≤ i
  · by_cases h2 : i < t.cells.length
    · left
      simp only [boxOk, h1, h2, decide_true, Bool.and_true] at h
      exact h
    · exact .inr (.inr h2)
  · exact .inr (.inl h1)
theorem split_bad {t : Tr} {i j : Int} (h : boxOk t i = false) : splitOk t i j = false := by
  simp only [splitOk]
  rcases box_bad h with h | h | h
  · simp [h]
  · simp [decide_eq_false h]
  · simp [decide_eq_false h]
theorem settle_bad {t : Tr} {i : Int} {v : Verd} (h : boxOk t i = false) : settleOk t i v = false := by
  simp only [settleOk]
  rcases box_bad h with h | h | h
  · simp [h]
  · simp [decide_eq_false h]
  · simp [decide_eq_false h]
theorem nil_invalid (r : List (Int × Int)) : validT ⟨r, []⟩ = false := by simp [validT, boxesO, sizeOk]
set_option maxRecDepth 10000 in
set_option maxHeartbeats 8000000 in
theorem d38 (t : Tr) (i j : Int) (ht : TSm t) : DetH Try.prog 38 [.pv (encT t), .pv (Z i), .pv (Z j)] [] [] (.pv (.tup [encT (splitT t i j), B (splitOk t i j)])) := by
  have hl := ht.cells
  have cb := d28 t i (by omega)
  by_cases hne : t.cells = []
  · obtain ⟨r, cs⟩ := t
    simp only at hne
    subst hne
    have hbo : boxOk ⟨r, []⟩ i = false := by simp [boxOk, nil_invalid]
    have hno := split_bad (j := j) hbo
    rw [splitT_no hno, hno]
    have cc := cloneNil r ht.root
    rw [hbo, boxOf_no hbo] at cb
    simp only [encT, List.map_nil] at cb ⊢
    refine detP_of Try.func38 rfl (by kernel_rfl) (by simp [Try.f38]) rfl ?_
    intro C hP hN
    simp only [Try.f38] at hN ⊢
    repeat' (first
      | with_reducible refine WP.seq ?_
      | (with_reducible ((first | refine WP.region (hn := []) ?_ | refine xC_intro (cc) ?_ | refine xC_intro (cb) ?_ | refine WP.cond' ?_); simp -implicitDefEqProofs (maxSteps := 2000000) [hP, hN]))
      | (with_reducible ((first | refine WP.draw (hn := []) (by rw [hP]; kernel_rfl) (by kernel_rfl) ?_ | refine yC_intro (cc) ?_ | refine yC_intro (cb) ?_); simp -implicitDefEqProofs (maxSteps := 2000000) [hP, hN]; (try refine ⟨by kernel_rfl, ?_⟩)))
      | (with_reducible refine xB_split (by simp) (fun hgd => ?_) (fun hgd => ?_) <;> first | (exfalso; simp at hgd; done) | (exfalso; simp at hgd; omega) | simp -implicitDefEqProofs (maxSteps := 2000000) [hP, hN])
      | (with_reducible refine yB_split (by simp) (fun hgd => ?_) (fun hgd => ?_) <;> first | (exfalso; simp at hgd; done) | (exfalso; simp at hgd; omega) | (simp -implicitDefEqProofs (maxSteps := 2000000) [hP, hN] <;> (try refine ⟨by kernel_rfl, ?_⟩)))
      | with_reducible refine xTwo_intro ?_ ?_
      | (with_reducible refine xCond_split (fun hcd => ?_) (fun hcd => ?_) <;> (try (exfalso; clear hP hN; simp_all; done)) <;> (try (exfalso; simp at *; omega)))
      | with_reducible refine WP.block ?_
      | (with_reducible ((first | refine WP.skip ?_ | refine WP.exit ?_ | refine WP.ret ?_); simp)))
  have cc := cloneRow t ht hne
  cases hbo : boxOk t i with
  | false =>
    have hno := split_bad (j := j) hbo
    rw [splitT_no hno, hno]
    rw [hbo, boxOf_no hbo] at cb
    refine detP_of Try.func38 rfl (by kernel_rfl) (by simp [Try.f38]) rfl ?_
    intro C hP hN
    simp only [Try.f38] at hN ⊢
    repeat' (first
      | with_reducible refine WP.seq ?_
      | (with_reducible ((first | refine WP.region (hn := []) ?_ | refine xC_intro (cc) ?_ | refine xC_intro (cb) ?_ | refine WP.cond' ?_); simp -implicitDefEqProofs (maxSteps := 2000000) [hP, hN]))
      | (with_reducible ((first | refine WP.draw (hn := []) (by rw [hP]; kernel_rfl) (by kernel_rfl) ?_ | refine yC_intro (cc) ?_ | refine yC_intro (cb) ?_); simp -implicitDefEqProofs (maxSteps := 2000000) [hP, hN]; (try refine ⟨by kernel_rfl, ?_⟩)))
      | (with_reducible refine xB_split (by simp) (fun hgd => ?_) (fun hgd => ?_) <;> first | (exfalso; simp at hgd; done) | (exfalso; simp at hgd; omega) | simp -implicitDefEqProofs (maxSteps := 2000000) [hP, hN])
      | (with_reducible refine yB_split (by simp) (fun hgd => ?_) (fun hgd => ?_) <;> first | (exfalso; simp at hgd; done) | (exfalso; simp at hgd; omega) | (simp -implicitDefEqProofs (maxSteps := 2000000) [hP, hN] <;> (try refine ⟨by kernel_rfl, ?_⟩)))
      | with_reducible refine xTwo_intro ?_ ?_
      | (with_reducible refine xCond_split (fun hcd => ?_) (fun hcd => ?_) <;> (try (exfalso; clear hP hN; simp_all; done)) <;> (try (exfalso; simp at *; omega)))
      | with_reducible refine WP.block ?_
      | (with_reducible ((first | refine WP.skip ?_ | refine WP.exit ?_ | refine WP.ret ?_); simp)))
  | true =>
    rw [hbo] at cb
    simp only [boxOk, Bool.and_eq_true, decide_eq_true_eq] at hbo
    obtain ⟨⟨hv, h0⟩, h1⟩ := hbo
    obtain ⟨k, rfl⟩ := Int.eq_ofNat_of_zero_le h0
    have hlt : k < t.cells.length := by omega
    have hz := sizeOk_iff.1 (valid_size hv)
    have hbk : boxOf t k = boxAt t k := by simp [boxOf, boxOk, hv, hlt]
    obtain ⟨hb1, hb2, _⟩ := boxAt_ok hv (c := (k : Int)) hlt
    have hb1' : (boxesL t)[k]? = some (boxAt t k) := hb1
    rw [hbk] at cb
    generalize hc : t.cells[k] = c at *
    have hci : t.cells[k]? = some c := by rw [List.getElem?_eq_getElem hlt, hc]
    have cl := d87 c
    have ch := d93 (boxAt t k) j (by omega)
    have hvc := ht.vs c (List.mem_of_getElem? hci)
    have cv := d95 c.v hvc
    have cf := d94 c.v
    have hw : IntKind.i64.wrap ((t.cells.length : Int) + 2) = (t.cells.length : Int) + 2 := wr_id (by omega) (by omega)
    have hw1 : IntKind.i64.wrap ((t.cells.length : Int) + 1) = (t.cells.length : Int) + 1 := wr_id (by omega) (by omega)
    cases hlf : leafB c with
    | false =>
      have hno : splitOk t k j = false := by simp [splitOk, leafN, hci, hlf]
      rw [splitT_no hno, hno]
      rw [hlf] at cl
      refine detP_of Try.func38 rfl (by kernel_rfl) (by simp [Try.f38]) rfl ?_
      intro C hP hN
      simp only [Try.f38] at hN ⊢
      repeat' (first
        | with_reducible refine WP.seq ?_
        | (with_reducible ((first | refine WP.region (hn := []) ?_ | refine xC_intro (cc) ?_ | refine xC_intro (cb) ?_ | refine xC_intro (cl) ?_ | refine WP.cond' ?_); simp -implicitDefEqProofs (maxSteps := 2000000) [hP, hN, hlt, hci, hc]))
        | (with_reducible ((first | refine WP.draw (hn := []) (by rw [hP]; kernel_rfl) (by kernel_rfl) ?_ | refine yC_intro (cc) ?_ | refine yC_intro (cb) ?_ | refine yC_intro (cl) ?_); simp -implicitDefEqProofs (maxSteps := 2000000) [hP, hN, hlt, hci, hc]; (try refine ⟨by kernel_rfl, ?_⟩)))
        | (with_reducible refine xB_split (by simp [hlt, hci, hc]) (fun hgd => ?_) (fun hgd => ?_) <;> first | (exfalso; simp at hgd; done) | (exfalso; simp at hgd; omega) | simp -implicitDefEqProofs (maxSteps := 2000000) [hP, hN, hlt, hci, hc])
        | (with_reducible refine yB_split (by simp [hlt, hci, hc]) (fun hgd => ?_) (fun hgd => ?_) <;> first | (exfalso; simp at hgd; done) | (exfalso; simp at hgd; omega) | (simp -implicitDefEqProofs (maxSteps := 2000000) [hP, hN, hlt, hci, hc] <;> (try refine ⟨by kernel_rfl, ?_⟩)))
        | with_reducible refine xTwo_intro ?_ ?_
        | (with_reducible refine xCond_split (fun hcd => ?_) (fun hcd => ?_) <;> (try (exfalso; clear hP hN; simp_all; done)) <;> (try (exfalso; simp at *; omega)))
        | with_reducible refine WP.block ?_
        | (with_reducible ((first | refine WP.skip ?_ | refine WP.exit ?_ | refine WP.ret ?_); simp [hlt, hci, hc])))
    | true =>
      rw [hlf] at cl
      cases hh : halveOk (boxAt t k) j with
      | false =>
        have hno : splitOk t k j = false := by simp [splitOk, hb1', hh]
        rw [splitT_no hno, hno]
        rw [hh] at ch
        refine detP_of Try.func38 rfl (by kernel_rfl) (by simp [Try.f38]) rfl ?_
        intro C hP hN
        simp only [Try.f38] at hN ⊢
        repeat' (first
          | with_reducible refine WP.seq ?_
          | (with_reducible ((first | refine WP.region (hn := []) ?_ | refine xC_intro (cc) ?_ | refine xC_intro (cb) ?_ | refine xC_intro (cl) ?_ | refine xC_intro (ch) ?_ | refine WP.cond' ?_); simp -implicitDefEqProofs (maxSteps := 2000000) [hP, hN, hlt, hci, hc]))
          | (with_reducible ((first | refine WP.draw (hn := []) (by rw [hP]; kernel_rfl) (by kernel_rfl) ?_ | refine yC_intro (cc) ?_ | refine yC_intro (cb) ?_ | refine yC_intro (cl) ?_ | refine yC_intro (ch) ?_); simp -implicitDefEqProofs (maxSteps := 2000000) [hP, hN, hlt, hci, hc]; (try refine ⟨by kernel_rfl, ?_⟩)))
          | (with_reducible refine xB_split (by simp [hlt, hci, hc]) (fun hgd => ?_) (fun hgd => ?_) <;> first | (exfalso; simp at hgd; done) | (exfalso; simp at hgd; omega) | simp -implicitDefEqProofs (maxSteps := 2000000) [hP, hN, hlt, hci, hc])
          | (with_reducible refine yB_split (by simp [hlt, hci, hc]) (fun hgd => ?_) (fun hgd => ?_) <;> first | (exfalso; simp at hgd; done) | (exfalso; simp at hgd; omega) | (simp -implicitDefEqProofs (maxSteps := 2000000) [hP, hN, hlt, hci, hc] <;> (try refine ⟨by kernel_rfl, ?_⟩)))
          | with_reducible refine xTwo_intro ?_ ?_
          | (with_reducible refine xCond_split (fun hcd => ?_) (fun hcd => ?_) <;> (try (exfalso; clear hP hN; simp_all; done)) <;> (try (exfalso; simp at *; omega)))
          | with_reducible refine WP.block ?_
          | (with_reducible ((first | refine WP.skip ?_ | refine WP.exit ?_ | refine WP.ret ?_); simp [hlt, hci, hc])))
      | true =>
        rw [hh] at ch
        by_cases h3 : 2048 < t.cells.length + 2
        · have hno : splitOk t k j = false := by
            have : decide (t.cells.length + 2 ≤ 2048) = false := by simp; omega
            simp only [splitOk, this, Bool.and_false, Bool.false_and]
          have h3' : (2048 : Int) < t.cells.length + 2 := by omega
          rw [splitT_no hno, hno]
          refine detP_of Try.func38 rfl (by kernel_rfl) (by simp [Try.f38]) rfl ?_
          intro C hP hN
          simp only [Try.f38] at hN ⊢
          repeat' (first
            | with_reducible refine WP.seq ?_
            | (with_reducible ((first | refine WP.region (hn := []) ?_ | refine xC_intro (cc) ?_ | refine xC_intro (cb) ?_ | refine xC_intro (cl) ?_ | refine xC_intro (ch) ?_ | refine WP.cond' ?_); simp -implicitDefEqProofs (maxSteps := 2000000) [hP, hN, hlt, hci, hc, hw, h3']))
            | (with_reducible ((first | refine WP.draw (hn := []) (by rw [hP]; kernel_rfl) (by kernel_rfl) ?_ | refine yC_intro (cc) ?_ | refine yC_intro (cb) ?_ | refine yC_intro (cl) ?_ | refine yC_intro (ch) ?_); simp -implicitDefEqProofs (maxSteps := 2000000) [hP, hN, hlt, hci, hc, hw, h3']; (try refine ⟨by kernel_rfl, ?_⟩)))
            | (with_reducible refine xB_split (by simp [hlt, hci, hc, hw, h3']) (fun hgd => ?_) (fun hgd => ?_) <;> first | (exfalso; simp at hgd; done) | (exfalso; simp at hgd; omega) | simp -implicitDefEqProofs (maxSteps := 2000000) [hP, hN, hlt, hci, hc, hw, h3'])
            | (with_reducible refine yB_split (by simp [hlt, hci, hc, hw, h3']) (fun hgd => ?_) (fun hgd => ?_) <;> first | (exfalso; simp at hgd; done) | (exfalso; simp at hgd; omega) | (simp -implicitDefEqProofs (maxSteps := 2000000) [hP, hN, hlt, hci, hc, hw, h3'] <;> (try refine ⟨by kernel_rfl, ?_⟩)))
            | with_reducible refine xTwo_intro ?_ ?_
            | (with_reducible refine xCond_split (fun hcd => ?_) (fun hcd => ?_) <;> (try (exfalso; clear hP hN; simp_all; done)) <;> (try (exfalso; simp at *; omega)))
            | with_reducible refine WP.block ?_
            | (with_reducible ((first | refine WP.skip ?_ | refine WP.exit ?_ | refine WP.ret ?_); simp [hlt, hci, hc, hw, h3'])))
        · have h3' : ¬ (2048 : Int) < t.cells.length + 2 := by omega
          have hyes : splitOk t k j = true := by
            simp only [splitOk, hv, leafN, Int.toNat_natCast, hci, hlf, hb1', Option.getD_some, hh, Bool.and_true, Bool.true_and, Bool.and_eq_true, decide_eq_true_eq]
            omega
          have hT : splitT t k j = splitC t k j c.v := by simp [splitT, hyes, vAt, hci]
          rw [hT, hyes]
          have hcl : encC (leafC c.v) = .agg [Z (-1), Z (-1), Z (-1), Z c.v.kind, vecs c.v.nor, Z c.v.pair, zs c.v.left, zs c.v.right] := rfl
          rw [hcl] at cf
          refine detP_of Try.func38 rfl (by kernel_rfl) (by simp [Try.f38]) rfl ?_
          intro C hP hN
          simp only [Try.f38] at hN ⊢
          repeat' (first
            | with_reducible refine WP.seq ?_
            | (with_reducible ((first | refine WP.region (hn := []) ?_ | refine xC_intro (cc) ?_ | refine xC_intro (cb) ?_ | refine xC_intro (cl) ?_ | refine xC_intro (ch) ?_ | refine xC_intro (cv) ?_ | refine xC_intro (cf) ?_ | refine WP.cond' ?_); simp -implicitDefEqProofs (maxSteps := 2000000) [hP, hN, hlt, hci, hc, hw, hw1, h3', show (t.cells.length + 2) * 112 ≤ 140737488355328 by omega, show t.cells.length + 2 ≤ 9223372036854775807 by omega]))
            | (with_reducible ((first | refine WP.draw (hn := []) (by rw [hP]; kernel_rfl) (by kernel_rfl) ?_ | refine yC_intro (cc) ?_ | refine yC_intro (cb) ?_ | refine yC_intro (cl) ?_ | refine yC_intro (ch) ?_ | refine yC_intro (cv) ?_ | refine yC_intro (cf) ?_); simp -implicitDefEqProofs (maxSteps := 2000000) [hP, hN, hlt, hci, hc, hw, hw1, h3', show (t.cells.length + 2) * 112 ≤ 140737488355328 by omega, show t.cells.length + 2 ≤ 9223372036854775807 by omega]; (try refine ⟨by kernel_rfl, ?_⟩)))
            | (with_reducible refine xB_split (by simp [hlt, hci, hc, hw, hw1, h3', show (t.cells.length + 2) * 112 ≤ 140737488355328 by omega, show t.cells.length + 2 ≤ 9223372036854775807 by omega]) (fun hgd => ?_) (fun hgd => ?_) <;> first | (exfalso; simp at hgd; done) | (exfalso; simp at hgd; omega) | simp -implicitDefEqProofs (maxSteps := 2000000) [hP, hN, hlt, hci, hc, hw, hw1, h3', show (t.cells.length + 2) * 112 ≤ 140737488355328 by omega, show t.cells.length + 2 ≤ 9223372036854775807 by omega])
            | (with_reducible refine yB_split (by simp [hlt, hci, hc, hw, hw1, h3', show (t.cells.length + 2) * 112 ≤ 140737488355328 by omega, show t.cells.length + 2 ≤ 9223372036854775807 by omega]) (fun hgd => ?_) (fun hgd => ?_) <;> first | (exfalso; simp at hgd; done) | (exfalso; simp at hgd; omega) | (simp -implicitDefEqProofs (maxSteps := 2000000) [hP, hN, hlt, hci, hc, hw, hw1, h3', show (t.cells.length + 2) * 112 ≤ 140737488355328 by omega, show t.cells.length + 2 ≤ 9223372036854775807 by omega] <;> (try refine ⟨by kernel_rfl, ?_⟩)))
            | with_reducible refine xTwo_intro ?_ ?_
            | (with_reducible refine xCond_split (fun hcd => ?_) (fun hcd => ?_) <;> (try (exfalso; clear hP hN; simp_all; done)) <;> (try (exfalso; simp at *; omega)))
            | with_reducible refine WP.block ?_
            | (with_reducible ((first | refine WP.skip ?_ | refine WP.exit ?_ | refine WP.ret ?_); simp [hlt, hci, hc, hw, hw1, h3', show (t.cells.length + 2) * 112 ≤ 140737488355328 by omega, show t.cells.length + 2 ≤ 9223372036854775807 by omega])))
          all_goals (simp [splitC, leafC, List.map_set, zeroV] <;> rfl)
set_option maxRecDepth 10000 in
set_option maxHeartbeats 8000000 in
theorem d39 (t : Tr) (i : Int) (v : Verd) (ht : TSm t) (hvv : vLe 16777216 v) : DetH Try.prog 39 [.pv (encT t), .pv (Z i), .pv (encVd v)] [] [] (.pv (.tup [encT (settleT t i v), B (settleOk t i v)])) := by
  have hl := ht.cells
  have cb := d24 t (by omega)
  by_cases hne : t.cells = []
  · obtain ⟨r, cs⟩ := t
    simp only at hne
    subst hne
    have hno : settleOk ⟨r, []⟩ i v = false := by simp [settleOk, nil_invalid]
    rw [settleT_no hno, hno]
    have cc := cloneNil r ht.root
    rw [nil_invalid] at cb
    simp only [encT, List.map_nil] at cb ⊢
    refine detP_of Try.func39 rfl (by kernel_rfl) (by simp [Try.f39]) rfl ?_
    intro C hP hN
    simp only [Try.f39] at hN ⊢
    repeat' (first
      | with_reducible refine WP.seq ?_
      | (with_reducible ((first | refine WP.region (hn := []) ?_ | refine xC_intro (cc) ?_ | refine xC_intro (cb) ?_ | refine WP.cond' ?_); simp -implicitDefEqProofs (maxSteps := 2000000) [hP, hN]))
      | (with_reducible ((first | refine WP.draw (hn := []) (by rw [hP]; kernel_rfl) (by kernel_rfl) ?_ | refine yC_intro (cc) ?_ | refine yC_intro (cb) ?_); simp -implicitDefEqProofs (maxSteps := 2000000) [hP, hN]; (try refine ⟨by kernel_rfl, ?_⟩)))
      | (with_reducible refine xB_split (by simp) (fun hgd => ?_) (fun hgd => ?_) <;> first | (exfalso; simp at hgd; done) | (exfalso; simp at hgd; omega) | simp -implicitDefEqProofs (maxSteps := 2000000) [hP, hN])
      | (with_reducible refine yB_split (by simp) (fun hgd => ?_) (fun hgd => ?_) <;> first | (exfalso; simp at hgd; done) | (exfalso; simp at hgd; omega) | (simp -implicitDefEqProofs (maxSteps := 2000000) [hP, hN] <;> (try refine ⟨by kernel_rfl, ?_⟩)))
      | with_reducible refine xTwo_intro ?_ ?_
      | (with_reducible refine xCond_split (fun hcd => ?_) (fun hcd => ?_) <;> (try (exfalso; clear hP hN; simp_all; done)) <;> (try (exfalso; simp at *; omega)))
      | with_reducible refine WP.block ?_
      | (with_reducible ((first | refine WP.skip ?_ | refine WP.exit ?_ | refine WP.ret ?_); simp)))
  have cc := cloneRow t ht hne
  cases hv : validT t with
  | false =>
    have hno : settleOk t i v = false := by simp [settleOk, hv]
    rw [settleT_no hno, hno]
    rw [hv] at cb
    refine detP_of Try.func39 rfl (by kernel_rfl) (by simp [Try.f39]) rfl ?_
    intro C hP hN
    simp only [Try.f39] at hN ⊢
    repeat' (first
      | with_reducible refine WP.seq ?_
      | (with_reducible ((first | refine WP.region (hn := []) ?_ | refine xC_intro (cc) ?_ | refine xC_intro (cb) ?_ | refine WP.cond' ?_); simp -implicitDefEqProofs (maxSteps := 2000000) [hP, hN]))
      | (with_reducible ((first | refine WP.draw (hn := []) (by rw [hP]; kernel_rfl) (by kernel_rfl) ?_ | refine yC_intro (cc) ?_ | refine yC_intro (cb) ?_); simp -implicitDefEqProofs (maxSteps := 2000000) [hP, hN]; (try refine ⟨by kernel_rfl, ?_⟩)))
      | (with_reducible refine xB_split (by simp) (fun hgd => ?_) (fun hgd => ?_) <;> first | (exfalso; simp at hgd; done) | (exfalso; simp at hgd; omega) | simp -implicitDefEqProofs (maxSteps := 2000000) [hP, hN])
      | (with_reducible refine yB_split (by simp) (fun hgd => ?_) (fun hgd => ?_) <;> first | (exfalso; simp at hgd; done) | (exfalso; simp at hgd; omega) | (simp -implicitDefEqProofs (maxSteps := 2000000) [hP, hN] <;> (try refine ⟨by kernel_rfl, ?_⟩)))
      | with_reducible refine xTwo_intro ?_ ?_
      | (with_reducible refine xCond_split (fun hcd => ?_) (fun hcd => ?_) <;> (try (exfalso; clear hP hN; simp_all; done)) <;> (try (exfalso; simp at *; omega)))
      | with_reducible refine WP.block ?_
      | (with_reducible ((first | refine WP.skip ?_ | refine WP.exit ?_ | refine WP.ret ?_); simp)))
  | true =>
    rw [hv] at cb
    have hz := sizeOk_iff.1 (valid_size hv)
    by_cases h1 : i < 0
    · have hno : settleOk t i v = false := by
        have : decide (0 ≤ i) = false := by simp; omega
        simp only [settleOk, this, Bool.and_false, Bool.false_and]
      rw [settleT_no hno, hno]
      refine detP_of Try.func39 rfl (by kernel_rfl) (by simp [Try.f39]) rfl ?_
      intro C hP hN
      simp only [Try.f39] at hN ⊢
      repeat' (first
        | with_reducible refine WP.seq ?_
        | (with_reducible ((first | refine WP.region (hn := []) ?_ | refine xC_intro (cc) ?_ | refine xC_intro (cb) ?_ | refine WP.cond' ?_); simp -implicitDefEqProofs (maxSteps := 2000000) [hP, hN, h1]))
        | (with_reducible ((first | refine WP.draw (hn := []) (by rw [hP]; kernel_rfl) (by kernel_rfl) ?_ | refine yC_intro (cc) ?_ | refine yC_intro (cb) ?_); simp -implicitDefEqProofs (maxSteps := 2000000) [hP, hN, h1]; (try refine ⟨by kernel_rfl, ?_⟩)))
        | (with_reducible refine xB_split (by simp [h1]) (fun hgd => ?_) (fun hgd => ?_) <;> first | (exfalso; simp at hgd; done) | (exfalso; simp at hgd; omega) | simp -implicitDefEqProofs (maxSteps := 2000000) [hP, hN, h1])
        | (with_reducible refine yB_split (by simp [h1]) (fun hgd => ?_) (fun hgd => ?_) <;> first | (exfalso; simp at hgd; done) | (exfalso; simp at hgd; omega) | (simp -implicitDefEqProofs (maxSteps := 2000000) [hP, hN, h1] <;> (try refine ⟨by kernel_rfl, ?_⟩)))
        | with_reducible refine xTwo_intro ?_ ?_
        | (with_reducible refine xCond_split (fun hcd => ?_) (fun hcd => ?_) <;> (try (exfalso; clear hP hN; simp_all; done)) <;> (try (exfalso; simp at *; omega)))
        | with_reducible refine WP.block ?_
        | (with_reducible ((first | refine WP.skip ?_ | refine WP.exit ?_ | refine WP.ret ?_); simp [h1])))
    · obtain ⟨k, rfl⟩ := Int.eq_ofNat_of_zero_le (show 0 ≤ i by omega)
      by_cases h2 : t.cells.length ≤ k
      · have hno : settleOk t k v = false := by
          have : decide ((k : Int) < t.cells.length) = false := by simp; omega
          simp only [settleOk, this, Bool.and_false, Bool.false_and]
        rw [settleT_no hno, hno]
        refine detP_of Try.func39 rfl (by kernel_rfl) (by simp [Try.f39]) rfl ?_
        intro C hP hN
        simp only [Try.f39] at hN ⊢
        repeat' (first
          | with_reducible refine WP.seq ?_
          | (with_reducible ((first | refine WP.region (hn := []) ?_ | refine xC_intro (cc) ?_ | refine xC_intro (cb) ?_ | refine WP.cond' ?_); simp -implicitDefEqProofs (maxSteps := 2000000) [hP, hN, h1, h2]))
          | (with_reducible ((first | refine WP.draw (hn := []) (by rw [hP]; kernel_rfl) (by kernel_rfl) ?_ | refine yC_intro (cc) ?_ | refine yC_intro (cb) ?_); simp -implicitDefEqProofs (maxSteps := 2000000) [hP, hN, h1, h2]; (try refine ⟨by kernel_rfl, ?_⟩)))
          | (with_reducible refine xB_split (by simp [h1, h2]) (fun hgd => ?_) (fun hgd => ?_) <;> first | (exfalso; simp at hgd; done) | (exfalso; simp at hgd; omega) | simp -implicitDefEqProofs (maxSteps := 2000000) [hP, hN, h1, h2])
          | (with_reducible refine yB_split (by simp [h1, h2]) (fun hgd => ?_) (fun hgd => ?_) <;> first | (exfalso; simp at hgd; done) | (exfalso; simp at hgd; omega) | (simp -implicitDefEqProofs (maxSteps := 2000000) [hP, hN, h1, h2] <;> (try refine ⟨by kernel_rfl, ?_⟩)))
          | with_reducible refine xTwo_intro ?_ ?_
          | (with_reducible refine xCond_split (fun hcd => ?_) (fun hcd => ?_) <;> (try (exfalso; clear hP hN; simp_all; done)) <;> (try (exfalso; simp at *; omega)))
          | with_reducible refine WP.block ?_
          | (with_reducible ((first | refine WP.skip ?_ | refine WP.exit ?_ | refine WP.ret ?_); simp [h1, h2])))
      · have hlt : k < t.cells.length := by omega
        generalize hc : t.cells[k] = c at *
        have hci : t.cells[k]? = some c := by rw [List.getElem?_eq_getElem hlt, hc]
        have cl := d87 c
        have cf := d97 v
        have cv := d95 v hvv
        cases hlf : leafB c with
        | false =>
          have hno : settleOk t k v = false := by simp [settleOk, leafN, hci, hlf]
          rw [settleT_no hno, hno]
          rw [hlf] at cl
          refine detP_of Try.func39 rfl (by kernel_rfl) (by simp [Try.f39]) rfl ?_
          intro C hP hN
          simp only [Try.f39] at hN ⊢
          repeat' (first
            | with_reducible refine WP.seq ?_
            | (with_reducible ((first | refine WP.region (hn := []) ?_ | refine xC_intro (cc) ?_ | refine xC_intro (cb) ?_ | refine xC_intro (cl) ?_ | refine WP.cond' ?_); simp -implicitDefEqProofs (maxSteps := 2000000) [hP, hN, h1, h2, hlt, hci, hc]))
            | (with_reducible ((first | refine WP.draw (hn := []) (by rw [hP]; kernel_rfl) (by kernel_rfl) ?_ | refine yC_intro (cc) ?_ | refine yC_intro (cb) ?_ | refine yC_intro (cl) ?_); simp -implicitDefEqProofs (maxSteps := 2000000) [hP, hN, h1, h2, hlt, hci, hc]; (try refine ⟨by kernel_rfl, ?_⟩)))
            | (with_reducible refine xB_split (by simp [h1, h2, hlt, hci, hc]) (fun hgd => ?_) (fun hgd => ?_) <;> first | (exfalso; simp at hgd; done) | (exfalso; simp at hgd; omega) | simp -implicitDefEqProofs (maxSteps := 2000000) [hP, hN, h1, h2, hlt, hci, hc])
            | (with_reducible refine yB_split (by simp [h1, h2, hlt, hci, hc]) (fun hgd => ?_) (fun hgd => ?_) <;> first | (exfalso; simp at hgd; done) | (exfalso; simp at hgd; omega) | (simp -implicitDefEqProofs (maxSteps := 2000000) [hP, hN, h1, h2, hlt, hci, hc] <;> (try refine ⟨by kernel_rfl, ?_⟩)))
            | with_reducible refine xTwo_intro ?_ ?_
            | (with_reducible refine xCond_split (fun hcd => ?_) (fun hcd => ?_) <;> (try (exfalso; clear hP hN; simp_all; done)) <;> (try (exfalso; simp at *; omega)))
            | with_reducible refine WP.block ?_
            | (with_reducible ((first | refine WP.skip ?_ | refine WP.exit ?_ | refine WP.ret ?_); simp [h1, h2, hlt, hci, hc])))
        | true =>
          rw [hlf] at cl
          by_cases h3 : c.v.kind = 0
          · have h3' : (c.v.kind != 0) = false := by simp [h3]
            cases hf : inFormB v with
            | false =>
              have hno : settleOk t k v = false := by simp [settleOk, hf]
              rw [settleT_no hno, hno]
              rw [hf] at cf
              refine detP_of Try.func39 rfl (by kernel_rfl) (by simp [Try.f39]) rfl ?_
              intro C hP hN
              simp only [Try.f39] at hN ⊢
              repeat' (first
                | with_reducible refine WP.seq ?_
                | (with_reducible ((first | refine WP.region (hn := []) ?_ | refine xC_intro (cc) ?_ | refine xC_intro (cb) ?_ | refine xC_intro (cl) ?_ | refine xC_intro (cf) ?_ | refine WP.cond' ?_); simp -implicitDefEqProofs (maxSteps := 2000000) [hP, hN, h1, h2, hlt, hci, hc, h3']))
                | (with_reducible ((first | refine WP.draw (hn := []) (by rw [hP]; kernel_rfl) (by kernel_rfl) ?_ | refine yC_intro (cc) ?_ | refine yC_intro (cb) ?_ | refine yC_intro (cl) ?_ | refine yC_intro (cf) ?_); simp -implicitDefEqProofs (maxSteps := 2000000) [hP, hN, h1, h2, hlt, hci, hc, h3']; (try refine ⟨by kernel_rfl, ?_⟩)))
                | (with_reducible refine xB_split (by simp [h1, h2, hlt, hci, hc, h3']) (fun hgd => ?_) (fun hgd => ?_) <;> first | (exfalso; simp at hgd; done) | (exfalso; simp at hgd; omega) | simp -implicitDefEqProofs (maxSteps := 2000000) [hP, hN, h1, h2, hlt, hci, hc, h3'])
                | (with_reducible refine yB_split (by simp [h1, h2, hlt, hci, hc, h3']) (fun hgd => ?_) (fun hgd => ?_) <;> first | (exfalso; simp at hgd; done) | (exfalso; simp at hgd; omega) | (simp -implicitDefEqProofs (maxSteps := 2000000) [hP, hN, h1, h2, hlt, hci, hc, h3'] <;> (try refine ⟨by kernel_rfl, ?_⟩)))
                | with_reducible refine xTwo_intro ?_ ?_
                | (with_reducible refine xCond_split (fun hcd => ?_) (fun hcd => ?_) <;> (try (exfalso; clear hP hN; simp_all; done)) <;> (try (exfalso; simp at *; omega)))
                | with_reducible refine WP.block ?_
                | (with_reducible ((first | refine WP.skip ?_ | refine WP.exit ?_ | refine WP.ret ?_); simp [h1, h2, hlt, hci, hc, h3'])))
            | true =>
              rw [hf] at cf
              have hyes : settleOk t k v = true := by
                simp [settleOk, hv, leafN, hci, hlf, hf, vAt, h3, hlt, hc]
              have hT : settleT t k v = settleC t k v := by simp [settleT, hyes]
              rw [hT, hyes]
              have hcl := leafB_eq hlf
              have q1 : c.joint = -1 := by rw [hcl]; rfl
              have q2 : c.low = -1 := by rw [hcl]; rfl
              have q3 : c.high = -1 := by rw [hcl]; rfl
              refine detP_of Try.func39 rfl (by kernel_rfl) (by simp [Try.f39]) rfl ?_
              intro C hP hN
              simp only [Try.f39] at hN ⊢
              repeat' (first
                | with_reducible refine WP.seq ?_
                | (with_reducible ((first | refine WP.region (hn := []) ?_ | refine xC_intro (cc) ?_ | refine xC_intro (cb) ?_ | refine xC_intro (cl) ?_ | refine xC_intro (cf) ?_ | refine xC_intro (cv) ?_ | refine WP.cond' ?_); simp -implicitDefEqProofs (maxSteps := 2000000) [hP, hN, h1, h2, hlt, hci, hc, h3']))
                | (with_reducible ((first | refine WP.draw (hn := []) (by rw [hP]; kernel_rfl) (by kernel_rfl) ?_ | refine yC_intro (cc) ?_ | refine yC_intro (cb) ?_ | refine yC_intro (cl) ?_ | refine yC_intro (cf) ?_ | refine yC_intro (cv) ?_); simp -implicitDefEqProofs (maxSteps := 2000000) [hP, hN, h1, h2, hlt, hci, hc, h3']; (try refine ⟨by kernel_rfl, ?_⟩)))
                | (with_reducible refine xB_split (by simp [h1, h2, hlt, hci, hc, h3']) (fun hgd => ?_) (fun hgd => ?_) <;> first | (exfalso; simp at hgd; done) | (exfalso; simp at hgd; omega) | simp -implicitDefEqProofs (maxSteps := 2000000) [hP, hN, h1, h2, hlt, hci, hc, h3'])
                | (with_reducible refine yB_split (by simp [h1, h2, hlt, hci, hc, h3']) (fun hgd => ?_) (fun hgd => ?_) <;> first | (exfalso; simp at hgd; done) | (exfalso; simp at hgd; omega) | (simp -implicitDefEqProofs (maxSteps := 2000000) [hP, hN, h1, h2, hlt, hci, hc, h3'] <;> (try refine ⟨by kernel_rfl, ?_⟩)))
                | with_reducible refine xTwo_intro ?_ ?_
                | (with_reducible refine xCond_split (fun hcd => ?_) (fun hcd => ?_) <;> (try (exfalso; clear hP hN; simp_all; done)) <;> (try (exfalso; simp at *; omega)))
                | with_reducible refine WP.block ?_
                | (with_reducible ((first | refine WP.skip ?_ | refine WP.exit ?_ | refine WP.ret ?_); simp [h1, h2, hlt, hci, hc, h3'])))
              all_goals simp [settleC, leafC, List.map_set, q1, q2, q3]
          · have h3' : (c.v.kind != 0) = true := by simp [h3]
            have hno : settleOk t k v = false := by simp [settleOk, vAt, hci, h3]
            rw [settleT_no hno, hno]
            refine detP_of Try.func39 rfl (by kernel_rfl) (by simp [Try.f39]) rfl ?_
            intro C hP hN
            simp only [Try.f39] at hN ⊢
            repeat' (first
              | with_reducible refine WP.seq ?_
              | (with_reducible ((first | refine WP.region (hn := []) ?_ | refine xC_intro (cc) ?_ | refine xC_intro (cb) ?_ | refine xC_intro (cl) ?_ | refine xC_intro (cf) ?_ | refine WP.cond' ?_); simp -implicitDefEqProofs (maxSteps := 2000000) [hP, hN, h1, h2, hlt, hci, hc, h3']))
              | (with_reducible ((first | refine WP.draw (hn := []) (by rw [hP]; kernel_rfl) (by kernel_rfl) ?_ | refine yC_intro (cc) ?_ | refine yC_intro (cb) ?_ | refine yC_intro (cl) ?_ | refine yC_intro (cf) ?_); simp -implicitDefEqProofs (maxSteps := 2000000) [hP, hN, h1, h2, hlt, hci, hc, h3']; (try refine ⟨by kernel_rfl, ?_⟩)))
              | (with_reducible refine xB_split (by simp [h1, h2, hlt, hci, hc, h3']) (fun hgd => ?_) (fun hgd => ?_) <;> first | (exfalso; simp at hgd; done) | (exfalso; simp at hgd; omega) | simp -implicitDefEqProofs (maxSteps := 2000000) [hP, hN, h1, h2, hlt, hci, hc, h3'])
              | (with_reducible refine yB_split (by simp [h1, h2, hlt, hci, hc, h3']) (fun hgd => ?_) (fun hgd => ?_) <;> first | (exfalso; simp at hgd; done) | (exfalso; simp at hgd; omega) | (simp -implicitDefEqProofs (maxSteps := 2000000) [hP, hN, h1, h2, hlt, hci, hc, h3'] <;> (try refine ⟨by kernel_rfl, ?_⟩)))
              | with_reducible refine xTwo_intro ?_ ?_
              | (with_reducible refine xCond_split (fun hcd => ?_) (fun hcd => ?_) <;> (try (exfalso; clear hP hN; simp_all; done)) <;> (try (exfalso; simp at *; omega)))
              | with_reducible refine WP.block ?_
              | (with_reducible ((first | refine WP.skip ?_ | refine WP.exit ?_ | refine WP.ret ?_); simp [h1, h2, hlt, hci, hc, h3'])))
end Go.Ab

/- Contracts: Home, Locate, Neighbors. -/
namespace Go.Ab
open Go.Proofs
theorem home_no {t : Tr} {q : List Int} (h : homeOk t q = false) : homeR t q = 0 := by simp [homeR, h]
set_option maxRecDepth 10000 in
set_option maxHeartbeats 8000000 in
theorem d32 (t : Tr) (q : List Int) (hl : t.cells.length ≤ 9223372036854775807) (hr : t.root.length ≤ 9223372036854775807) : DetH Try.prog 32 [.pv (encT t), .pv (zs q)] [] [] (.pv (.tup [Z (homeR t q), B (homeOk t q)])) := by
  have cb := d77 t hl
  have ch := d86 t.root q hr
  cases hv : validT t with
  | false =>
    have hno : homeOk t q = false := by simp [homeOk, hv]
    rw [home_no hno, hno]
    rw [hv] at cb
    refine detP_of Try.func32 rfl (by kernel_rfl) (by simp [Try.f32]) rfl ?_
    intro C hP hN
    simp only [Try.f32] at hN ⊢
    repeat' (first
      | with_reducible refine WP.seq ?_
      | (with_reducible ((first | refine WP.region (hn := []) ?_ | refine xC_intro (cb) ?_ | refine WP.cond' ?_); simp -implicitDefEqProofs (maxSteps := 2000000) [hP, hN]))
      | (with_reducible ((first | refine WP.draw (hn := []) (by rw [hP]; kernel_rfl) (by kernel_rfl) ?_ | refine yC_intro (cb) ?_); simp -implicitDefEqProofs (maxSteps := 2000000) [hP, hN]; (try refine ⟨by kernel_rfl, ?_⟩)))
      | (with_reducible refine xB_split (by simp) (fun hgd => ?_) (fun hgd => ?_) <;> first | (exfalso; simp at hgd; done) | (exfalso; simp at hgd; omega) | simp -implicitDefEqProofs (maxSteps := 2000000) [hP, hN])
      | (with_reducible refine yB_split (by simp) (fun hgd => ?_) (fun hgd => ?_) <;> first | (exfalso; simp at hgd; done) | (exfalso; simp at hgd; omega) | (simp -implicitDefEqProofs (maxSteps := 2000000) [hP, hN] <;> (try refine ⟨by kernel_rfl, ?_⟩)))
      | with_reducible refine xTwo_intro ?_ ?_
      | (with_reducible refine xCond_split (fun hcd => ?_) (fun hcd => ?_) <;> (try (exfalso; clear hP hN; simp_all; done)) <;> (try (exfalso; simp at *; omega)))
      | with_reducible refine WP.block ?_
      | (with_reducible ((first | refine WP.skip ?_ | refine WP.exit ?_ | refine WP.ret ?_); simp)))
  | true =>
  rw [hv] at cb
  cases hh : hasC t.root q with
  | false =>
    have hno : homeOk t q = false := by simp [homeOk, hh]
    rw [home_no hno, hno]
    rw [hh] at ch
    refine detP_of Try.func32 rfl (by kernel_rfl) (by simp [Try.f32]) rfl ?_
    intro C hP hN
    simp only [Try.f32] at hN ⊢
    repeat' (first
      | with_reducible refine WP.seq ?_
      | (with_reducible ((first | refine WP.region (hn := []) ?_ | refine xC_intro (cb) ?_ | refine xC_intro (ch) ?_ | refine WP.cond' ?_); simp -implicitDefEqProofs (maxSteps := 2000000) [hP, hN]))
      | (with_reducible ((first | refine WP.draw (hn := []) (by rw [hP]; kernel_rfl) (by kernel_rfl) ?_ | refine yC_intro (cb) ?_ | refine yC_intro (ch) ?_); simp -implicitDefEqProofs (maxSteps := 2000000) [hP, hN]; (try refine ⟨by kernel_rfl, ?_⟩)))
      | (with_reducible refine xB_split (by simp) (fun hgd => ?_) (fun hgd => ?_) <;> first | (exfalso; simp at hgd; done) | (exfalso; simp at hgd; omega) | simp -implicitDefEqProofs (maxSteps := 2000000) [hP, hN])
      | (with_reducible refine yB_split (by simp) (fun hgd => ?_) (fun hgd => ?_) <;> first | (exfalso; simp at hgd; done) | (exfalso; simp at hgd; omega) | (simp -implicitDefEqProofs (maxSteps := 2000000) [hP, hN] <;> (try refine ⟨by kernel_rfl, ?_⟩)))
      | with_reducible refine xTwo_intro ?_ ?_
      | (with_reducible refine xCond_split (fun hcd => ?_) (fun hcd => ?_) <;> (try (exfalso; clear hP hN; simp_all; done)) <;> (try (exfalso; simp at *; omega)))
      | with_reducible refine WP.block ?_
      | (with_reducible ((first | refine WP.skip ?_ | refine WP.exit ?_ | refine WP.ret ?_); simp)))
  | true =>
  rw [hh] at ch
  have hok : homeOk t q = true := by simp [homeOk, hv, hh]
  have hbl := boxesL_len hv
  have hz := sizeOk_iff.1 (valid_size hv)
  have hql : q.length = t.root.length := by
    simp only [hasC, Bool.and_eq_true, decide_eq_true_eq] at hh; exact hh.1.symm
  rw [hok]
  refine detP_of Try.func32 rfl (by kernel_rfl) (by simp [Try.f32]) rfl ?_
  intro C hP hN
  simp only [Try.f32] at hN ⊢
  repeat' (first
    | with_reducible refine WP.seq ?_
    | (with_reducible ((first | refine WP.region (hn := []) ?_ | refine xC_intro (cb) ?_ | refine xC_intro (ch) ?_ | refine WP.cond' ?_); simp -implicitDefEqProofs (maxSteps := 2000000) [hP, hN]))
    | (with_reducible ((first | refine WP.draw (hn := []) (by rw [hP]; kernel_rfl) (by kernel_rfl) ?_ | refine yC_intro (cb) ?_ | refine yC_intro (ch) ?_); simp -implicitDefEqProofs (maxSteps := 2000000) [hP, hN]; (try refine ⟨by kernel_rfl, ?_⟩)))
    | (with_reducible refine xB_split (by simp) (fun hgd => ?_) (fun hgd => ?_) <;> first | (exfalso; simp at hgd; done) | (exfalso; simp at hgd; omega) | simp -implicitDefEqProofs (maxSteps := 2000000) [hP, hN])
    | (with_reducible refine yB_split (by simp) (fun hgd => ?_) (fun hgd => ?_) <;> first | (exfalso; simp at hgd; done) | (exfalso; simp at hgd; omega) | (simp -implicitDefEqProofs (maxSteps := 2000000) [hP, hN] <;> (try refine ⟨by kernel_rfl, ?_⟩)))
    | with_reducible refine xTwo_intro ?_ ?_
    | (with_reducible refine xCond_split (fun hcd => ?_) (fun hcd => ?_) <;> (try (exfalso; clear hP hN; simp_all; done)) <;> (try (exfalso; simp at *; omega)))
    | with_reducible refine WP.block ?_
    | (with_reducible ((first | refine WP.skip ?_ | refine WP.exit ?_ | refine WP.ret ?_); simp)))
  refine WP.loopN [7] t.cells.length (fun k st => st.t 1 = .pv (zs q) ∧ st.t 2 = .ptr 2 0 ∧ st.t 4 = .ptr 4 0 ∧ st.t 5 = .ptr 5 0 ∧ st.t 6 = .pv (.sl ((boxesL t).map iv)) ∧ st.h 2 = some (.box [.pv (iv t.root), .pv (.sl (t.cells.map encC))] true false) ∧ st.h 4 = some (.box [.pv (Z (homeS t q k))] true false) ∧ st.h 5 = some (.box [.pv (B true)] true false) ∧ st.h 7 = none) (by simp [homeS]) ?_
  rintro k st hk ⟨g1, g2, g4, g5, g6, hb2, hb4, hb5, hb7⟩
  obtain ⟨i1, i2, i3⟩ := homeS_ok hok k
  have hsu : homeS t q (k + 1) = homeN t q (homeS t q k) := rfl
  have hstop := fun h => homeS_stop (t := t) (q := q) (k := k) h (t.cells.length - k)
  rw [show k + (t.cells.length - k) = t.cells.length by omega] at hstop
  generalize homeS t q k = a at *
  generalize hc : t.cells[a] = c at *
  have hci : t.cells[a]? = some c := by rw [List.getElem?_eq_getElem i1, hc]
  have cl := d87 c
  cases hlf : leafB c with
  | true =>
    rw [hlf] at cl
    have hst := hstop (by simp [leafN, hci, hlf])
    have hre : homeR t q = (a : Int) := by simp [homeR, hok, hst]
    rw [hre]
    repeat' (first
      | with_reducible refine WP.seq ?_
      | (with_reducible ((first | refine WP.region (hn := []) ?_ | refine xC_intro (cl) ?_ | refine WP.cond' ?_); simp -implicitDefEqProofs (maxSteps := 2000000) [hP, hN, g1, g2, g4, g5, g6, hb2, hb4, hb5, hb7, i1, hci, hc]))
      | (with_reducible ((first | refine WP.draw (hn := []) (by rw [hP]; kernel_rfl) (by kernel_rfl) ?_ | refine yC_intro (cl) ?_); simp -implicitDefEqProofs (maxSteps := 2000000) [hP, hN, g1, g2, g4, g5, g6, hb2, hb4, hb5, hb7, i1, hci, hc]; (try refine ⟨by kernel_rfl, ?_⟩)))
      | (with_reducible refine xB_split (by simp [g1, g2, g4, g5, g6, hb2, hb4, hb5, hb7, i1, hci, hc]) (fun hgd => ?_) (fun hgd => ?_) <;> first | (exfalso; simp at hgd; done) | (exfalso; simp at hgd; omega) | simp -implicitDefEqProofs (maxSteps := 2000000) [hP, hN, g1, g2, g4, g5, g6, hb2, hb4, hb5, hb7, i1, hci, hc])
      | (with_reducible refine yB_split (by simp [g1, g2, g4, g5, g6, hb2, hb4, hb5, hb7, i1, hci, hc]) (fun hgd => ?_) (fun hgd => ?_) <;> first | (exfalso; simp at hgd; done) | (exfalso; simp at hgd; omega) | (simp -implicitDefEqProofs (maxSteps := 2000000) [hP, hN, g1, g2, g4, g5, g6, hb2, hb4, hb5, hb7, i1, hci, hc] <;> (try refine ⟨by kernel_rfl, ?_⟩)))
      | with_reducible refine xTwo_intro ?_ ?_
      | (with_reducible refine xCond_split (fun hcd => ?_) (fun hcd => ?_) <;> (try (exfalso; clear hP hN; simp_all; done)) <;> (try (exfalso; simp at *; omega)))
      | with_reducible refine WP.block ?_
      | (with_reducible ((first | refine WP.skip ?_ | refine WP.exit ?_ | refine WP.ret ?_); simp [g1, g2, g4, g5, g6, hb2, hb4, hb5, hb7, i1, hci, hc])))
  | false =>
    rw [hlf] at cl
    have hka : k ≤ a := by
      rcases i3 with i3 | i3
      · simp [leafN, hci, hlf] at i3
      · exact i3
    obtain ⟨f1, f2, f3, f4⟩ := inner_facts hv hci hlf
    have hin := innerB_iff.1 f1
    obtain ⟨j0, _, jx, j1, _⟩ := hvOk_iff.1 f2
    have jl := (List.getElem?_eq_some_iff.1 j1).1
    have hbal := (boxAt_ok hv (c := (a : Int)) i1).2.1
    obtain ⟨y1, y2, _⟩ := boxAt_ok hv (c := c.low) (by omega)
    have ylt : c.low.toNat < (boxesL t).length := by omega
    have y3 := get_of y1 ylt
    have jq : c.joint.toNat < q.length := by omega
    have jb : c.joint.toNat < (boxAt t c.low).length := by omega
    have k3 : 0 ≤ c.low := by omega
    have k4 : 0 ≤ c.high := by omega
    have hN' : homeN t q a = if q[c.joint.toNat] ≤ (boxAt t c.low)[c.joint.toNat].2 then c.low.toNat else c.high.toNat := by
      simp [homeN, hci, hlf, List.getElem?_eq_getElem jq, List.getElem?_eq_getElem jb]
    have kn : k < t.cells.length := by omega
    by_cases hle : q[c.joint.toNat] ≤ (boxAt t c.low)[c.joint.toNat].2
    · rw [if_pos hle] at hN'
      have hz' : ((c.low.toNat : Nat) : Int) = c.low := by omega
      repeat' (first
        | with_reducible refine WP.seq ?_
        | (with_reducible ((first | refine WP.region (hn := []) ?_ | refine xC_intro (cl) ?_ | refine WP.cond' ?_); simp -implicitDefEqProofs (maxSteps := 2000000) [hP, hN, g1, g2, g4, g5, g6, hb2, hb4, hb5, hb7, i1, hci, hc, j0, jq, jb, ylt, y1, y3, k3, k4, hle]))
        | (with_reducible ((first | refine WP.draw (hn := []) (by rw [hP]; kernel_rfl) (by kernel_rfl) ?_ | refine yC_intro (cl) ?_); simp -implicitDefEqProofs (maxSteps := 2000000) [hP, hN, g1, g2, g4, g5, g6, hb2, hb4, hb5, hb7, i1, hci, hc, j0, jq, jb, ylt, y1, y3, k3, k4, hle]; (try refine ⟨by kernel_rfl, ?_⟩)))
        | (with_reducible refine xB_split (by simp [g1, g2, g4, g5, g6, hb2, hb4, hb5, hb7, i1, hci, hc, j0, jq, jb, ylt, y1, y3, k3, k4, hle]) (fun hgd => ?_) (fun hgd => ?_) <;> first | (exfalso; simp at hgd; done) | (exfalso; simp at hgd; omega) | simp -implicitDefEqProofs (maxSteps := 2000000) [hP, hN, g1, g2, g4, g5, g6, hb2, hb4, hb5, hb7, i1, hci, hc, j0, jq, jb, ylt, y1, y3, k3, k4, hle])
        | (with_reducible refine yB_split (by simp [g1, g2, g4, g5, g6, hb2, hb4, hb5, hb7, i1, hci, hc, j0, jq, jb, ylt, y1, y3, k3, k4, hle]) (fun hgd => ?_) (fun hgd => ?_) <;> first | (exfalso; simp at hgd; done) | (exfalso; simp at hgd; omega) | (simp -implicitDefEqProofs (maxSteps := 2000000) [hP, hN, g1, g2, g4, g5, g6, hb2, hb4, hb5, hb7, i1, hci, hc, j0, jq, jb, ylt, y1, y3, k3, k4, hle] <;> (try refine ⟨by kernel_rfl, ?_⟩)))
        | with_reducible refine xTwo_intro ?_ ?_
        | (with_reducible refine xCond_split (fun hcd => ?_) (fun hcd => ?_) <;> (try (exfalso; clear hP hN; simp_all; done)) <;> (try (exfalso; simp at *; omega)))
        | with_reducible refine WP.block ?_
        | (with_reducible ((first | refine WP.skip ?_ | refine WP.exit ?_ | refine WP.ret ?_); simp [g1, g2, g4, g5, g6, hb2, hb4, hb5, hb7, i1, hci, hc, j0, jq, jb, ylt, y1, y3, k3, k4, hle])))
      all_goals (rw [hsu, hN', hz']; simp [kn])
    · rw [if_neg hle] at hN'
      have hz' : ((c.high.toNat : Nat) : Int) = c.high := by omega
      repeat' (first
        | with_reducible refine WP.seq ?_
        | (with_reducible ((first | refine WP.region (hn := []) ?_ | refine xC_intro (cl) ?_ | refine WP.cond' ?_); simp -implicitDefEqProofs (maxSteps := 2000000) [hP, hN, g1, g2, g4, g5, g6, hb2, hb4, hb5, hb7, i1, hci, hc, j0, jq, jb, ylt, y1, y3, k3, k4, hle]))
        | (with_reducible ((first | refine WP.draw (hn := []) (by rw [hP]; kernel_rfl) (by kernel_rfl) ?_ | refine yC_intro (cl) ?_); simp -implicitDefEqProofs (maxSteps := 2000000) [hP, hN, g1, g2, g4, g5, g6, hb2, hb4, hb5, hb7, i1, hci, hc, j0, jq, jb, ylt, y1, y3, k3, k4, hle]; (try refine ⟨by kernel_rfl, ?_⟩)))
        | (with_reducible refine xB_split (by simp [g1, g2, g4, g5, g6, hb2, hb4, hb5, hb7, i1, hci, hc, j0, jq, jb, ylt, y1, y3, k3, k4, hle]) (fun hgd => ?_) (fun hgd => ?_) <;> first | (exfalso; simp at hgd; done) | (exfalso; simp at hgd; omega) | simp -implicitDefEqProofs (maxSteps := 2000000) [hP, hN, g1, g2, g4, g5, g6, hb2, hb4, hb5, hb7, i1, hci, hc, j0, jq, jb, ylt, y1, y3, k3, k4, hle])
        | (with_reducible refine yB_split (by simp [g1, g2, g4, g5, g6, hb2, hb4, hb5, hb7, i1, hci, hc, j0, jq, jb, ylt, y1, y3, k3, k4, hle]) (fun hgd => ?_) (fun hgd => ?_) <;> first | (exfalso; simp at hgd; done) | (exfalso; simp at hgd; omega) | (simp -implicitDefEqProofs (maxSteps := 2000000) [hP, hN, g1, g2, g4, g5, g6, hb2, hb4, hb5, hb7, i1, hci, hc, j0, jq, jb, ylt, y1, y3, k3, k4, hle] <;> (try refine ⟨by kernel_rfl, ?_⟩)))
        | with_reducible refine xTwo_intro ?_ ?_
        | (with_reducible refine xCond_split (fun hcd => ?_) (fun hcd => ?_) <;> (try (exfalso; clear hP hN; simp_all; done)) <;> (try (exfalso; simp at *; omega)))
        | with_reducible refine WP.block ?_
        | (with_reducible ((first | refine WP.skip ?_ | refine WP.exit ?_ | refine WP.ret ?_); simp [g1, g2, g4, g5, g6, hb2, hb4, hb5, hb7, i1, hci, hc, j0, jq, jb, ylt, y1, y3, k3, k4, hle])))
      all_goals (rw [hsu, hN', hz']; simp [kn])
end Go.Ab

/- Contracts: the reference's looks at a tree; Neighbors. -/
namespace Go.Ab
open Go.Proofs
set_option maxRecDepth 10000 in
set_option maxHeartbeats 8000000 in
theorem d99 (t : Tr) (q : List Int) (hl : t.cells.length ≤ 9223372036854775807) (hr : t.root.length ≤ 9223372036854775807) (hq : q.length ≤ 9223372036854775807) : DetH Try.prog 99 [.pv (encT t), .pv (zs q)] [] [] (.pv (.tup [Z (homeR t q), B (homeOk t q)])) := by
  have cb := d52 t hl
  have ch := d30 t.root q hr hq
  rw [hasL_eq] at ch
  cases hv : validT t with
  | false =>
    have hno : homeOk t q = false := by simp [homeOk, hv]
    rw [home_no hno, hno]
    rw [hv] at cb
    refine detP_of Try.func99 rfl (by kernel_rfl) (by simp [Try.f99]) rfl ?_
    intro C hP hN
    simp only [Try.f99] at hN ⊢
    repeat' (first
      | with_reducible refine WP.seq ?_
      | (with_reducible ((first | refine WP.region (hn := []) ?_ | refine xC_intro (cb) ?_ | refine WP.cond' ?_); simp -implicitDefEqProofs (maxSteps := 2000000) [hP, hN]))
      | (with_reducible ((first | refine WP.draw (hn := []) (by rw [hP]; kernel_rfl) (by kernel_rfl) ?_ | refine yC_intro (cb) ?_); simp -implicitDefEqProofs (maxSteps := 2000000) [hP, hN]; (try refine ⟨by kernel_rfl, ?_⟩)))
      | (with_reducible refine xB_split (by simp) (fun hgd => ?_) (fun hgd => ?_) <;> first | (exfalso; simp at hgd; done) | (exfalso; simp at hgd; omega) | simp -implicitDefEqProofs (maxSteps := 2000000) [hP, hN])
      | (with_reducible refine yB_split (by simp) (fun hgd => ?_) (fun hgd => ?_) <;> first | (exfalso; simp at hgd; done) | (exfalso; simp at hgd; omega) | (simp -implicitDefEqProofs (maxSteps := 2000000) [hP, hN] <;> (try refine ⟨by kernel_rfl, ?_⟩)))
      | with_reducible refine xTwo_intro ?_ ?_
      | (with_reducible refine xCond_split (fun hcd => ?_) (fun hcd => ?_) <;> (try (exfalso; clear hP hN; simp_all; done)) <;> (try (exfalso; simp at *; omega)))
      | with_reducible refine WP.block ?_
      | (with_reducible ((first | refine WP.skip ?_ | refine WP.exit ?_ | refine WP.ret ?_); simp)))
  | true =>
  rw [hv] at cb
  cases hh : hasC t.root q with
  | false =>
    have hno : homeOk t q = false := by simp [homeOk, hh]
    rw [home_no hno, hno]
    rw [hh] at ch
    refine detP_of Try.func99 rfl (by kernel_rfl) (by simp [Try.f99]) rfl ?_
    intro C hP hN
    simp only [Try.f99] at hN ⊢
    repeat' (first
      | with_reducible refine WP.seq ?_
      | (with_reducible ((first | refine WP.region (hn := []) ?_ | refine xC_intro (cb) ?_ | refine xC_intro (ch) ?_ | refine WP.cond' ?_); simp -implicitDefEqProofs (maxSteps := 2000000) [hP, hN]))
      | (with_reducible ((first | refine WP.draw (hn := []) (by rw [hP]; kernel_rfl) (by kernel_rfl) ?_ | refine yC_intro (cb) ?_ | refine yC_intro (ch) ?_); simp -implicitDefEqProofs (maxSteps := 2000000) [hP, hN]; (try refine ⟨by kernel_rfl, ?_⟩)))
      | (with_reducible refine xB_split (by simp) (fun hgd => ?_) (fun hgd => ?_) <;> first | (exfalso; simp at hgd; done) | (exfalso; simp at hgd; omega) | simp -implicitDefEqProofs (maxSteps := 2000000) [hP, hN])
      | (with_reducible refine yB_split (by simp) (fun hgd => ?_) (fun hgd => ?_) <;> first | (exfalso; simp at hgd; done) | (exfalso; simp at hgd; omega) | (simp -implicitDefEqProofs (maxSteps := 2000000) [hP, hN] <;> (try refine ⟨by kernel_rfl, ?_⟩)))
      | with_reducible refine xTwo_intro ?_ ?_
      | (with_reducible refine xCond_split (fun hcd => ?_) (fun hcd => ?_) <;> (try (exfalso; clear hP hN; simp_all; done)) <;> (try (exfalso; simp at *; omega)))
      | with_reducible refine WP.block ?_
      | (with_reducible ((first | refine WP.skip ?_ | refine WP.exit ?_ | refine WP.ret ?_); simp)))
  | true =>
  rw [hh] at ch
  have hok : homeOk t q = true := by simp [homeOk, hv, hh]
  have hbl := boxesL_len hv
  have hz := sizeOk_iff.1 (valid_size hv)
  have hql : q.length = t.root.length := by
    simp only [hasC, Bool.and_eq_true, decide_eq_true_eq] at hh; exact hh.1.symm
  rw [hok]
  refine detP_of Try.func99 rfl (by kernel_rfl) (by simp [Try.f99]) rfl ?_
  intro C hP hN
  simp only [Try.f99] at hN ⊢
  repeat' (first
    | with_reducible refine WP.seq ?_
    | (with_reducible ((first | refine WP.region (hn := []) ?_ | refine xC_intro (cb) ?_ | refine xC_intro (ch) ?_ | refine WP.cond' ?_); simp -implicitDefEqProofs (maxSteps := 2000000) [hP, hN]))
    | (with_reducible ((first | refine WP.draw (hn := []) (by rw [hP]; kernel_rfl) (by kernel_rfl) ?_ | refine yC_intro (cb) ?_ | refine yC_intro (ch) ?_); simp -implicitDefEqProofs (maxSteps := 2000000) [hP, hN]; (try refine ⟨by kernel_rfl, ?_⟩)))
    | (with_reducible refine xB_split (by simp) (fun hgd => ?_) (fun hgd => ?_) <;> first | (exfalso; simp at hgd; done) | (exfalso; simp at hgd; omega) | simp -implicitDefEqProofs (maxSteps := 2000000) [hP, hN])
    | (with_reducible refine yB_split (by simp) (fun hgd => ?_) (fun hgd => ?_) <;> first | (exfalso; simp at hgd; done) | (exfalso; simp at hgd; omega) | (simp -implicitDefEqProofs (maxSteps := 2000000) [hP, hN] <;> (try refine ⟨by kernel_rfl, ?_⟩)))
    | with_reducible refine xTwo_intro ?_ ?_
    | (with_reducible refine xCond_split (fun hcd => ?_) (fun hcd => ?_) <;> (try (exfalso; clear hP hN; simp_all; done)) <;> (try (exfalso; simp at *; omega)))
    | with_reducible refine WP.block ?_
    | (with_reducible ((first | refine WP.skip ?_ | refine WP.exit ?_ | refine WP.ret ?_); simp)))
  refine WP.loopN [9] t.cells.length (fun k st => st.t 1 = .pv (zs q) ∧ st.t 2 = .ptr 2 0 ∧ st.t 6 = .pv (.sl ((boxesL t).map iv)) ∧ st.t 8 = .pv (Z (homeS t q k)) ∧ st.h 2 = some (.box [.pv (iv t.root), .pv (.sl (t.cells.map encC))] true false) ∧ st.h 9 = none) (by simp [homeS]) ?_
  rintro k st hk ⟨g1, g2, g6, g8, hb2, hb9⟩
  obtain ⟨i1, i2, i3⟩ := homeS_ok hok k
  have hsu : homeS t q (k + 1) = homeN t q (homeS t q k) := rfl
  have hstop := fun h => homeS_stop (t := t) (q := q) (k := k) h (t.cells.length - k)
  rw [show k + (t.cells.length - k) = t.cells.length by omega] at hstop
  generalize homeS t q k = a at *
  generalize hc : t.cells[a] = c at *
  have hci : t.cells[a]? = some c := by rw [List.getElem?_eq_getElem i1, hc]
  have cl := d116 c
  cases hlf : leafB c with
  | true =>
    rw [hlf] at cl
    have hst := hstop (by simp [leafN, hci, hlf])
    have hre : homeR t q = (a : Int) := by simp [homeR, hok, hst]
    rw [hre]
    repeat' (first
      | with_reducible refine WP.seq ?_
      | (with_reducible ((first | refine WP.region (hn := []) ?_ | refine xC_intro (cl) ?_ | refine WP.cond' ?_); simp -implicitDefEqProofs (maxSteps := 2000000) [hP, hN, g1, g2, g6, g8, hb2, hb9, i1, hci, hc]))
      | (with_reducible ((first | refine WP.draw (hn := []) (by rw [hP]; kernel_rfl) (by kernel_rfl) ?_ | refine yC_intro (cl) ?_); simp -implicitDefEqProofs (maxSteps := 2000000) [hP, hN, g1, g2, g6, g8, hb2, hb9, i1, hci, hc]; (try refine ⟨by kernel_rfl, ?_⟩)))
      | (with_reducible refine xB_split (by simp [g1, g2, g6, g8, hb2, hb9, i1, hci, hc]) (fun hgd => ?_) (fun hgd => ?_) <;> first | (exfalso; simp at hgd; done) | (exfalso; simp at hgd; omega) | simp -implicitDefEqProofs (maxSteps := 2000000) [hP, hN, g1, g2, g6, g8, hb2, hb9, i1, hci, hc])
      | (with_reducible refine yB_split (by simp [g1, g2, g6, g8, hb2, hb9, i1, hci, hc]) (fun hgd => ?_) (fun hgd => ?_) <;> first | (exfalso; simp at hgd; done) | (exfalso; simp at hgd; omega) | (simp -implicitDefEqProofs (maxSteps := 2000000) [hP, hN, g1, g2, g6, g8, hb2, hb9, i1, hci, hc] <;> (try refine ⟨by kernel_rfl, ?_⟩)))
      | with_reducible refine xTwo_intro ?_ ?_
      | (with_reducible refine xCond_split (fun hcd => ?_) (fun hcd => ?_) <;> (try (exfalso; clear hP hN; simp_all; done)) <;> (try (exfalso; simp at *; omega)))
      | with_reducible refine WP.block ?_
      | (with_reducible ((first | refine WP.skip ?_ | refine WP.exit ?_ | refine WP.ret ?_); simp [g1, g2, g6, g8, hb2, hb9, i1, hci, hc])))
  | false =>
    rw [hlf] at cl
    have hka : k ≤ a := by
      rcases i3 with i3 | i3
      · simp [leafN, hci, hlf] at i3
      · exact i3
    obtain ⟨f1, f2, f3, f4⟩ := inner_facts hv hci hlf
    have hin := innerB_iff.1 f1
    obtain ⟨j0, _, jx, j1, _⟩ := hvOk_iff.1 f2
    have jl := (List.getElem?_eq_some_iff.1 j1).1
    have hbal := (boxAt_ok hv (c := (a : Int)) i1).2.1
    obtain ⟨y1, y2, _⟩ := boxAt_ok hv (c := c.low) (by omega)
    have ylt : c.low.toNat < (boxesL t).length := by omega
    have y3 := get_of y1 ylt
    have jq : c.joint.toNat < q.length := by omega
    have jb : c.joint.toNat < (boxAt t c.low).length := by omega
    have k3 : 0 ≤ c.low := by omega
    have k4 : 0 ≤ c.high := by omega
    have hN' : homeN t q a = if q[c.joint.toNat] ≤ (boxAt t c.low)[c.joint.toNat].2 then c.low.toNat else c.high.toNat := by
      simp [homeN, hci, hlf, List.getElem?_eq_getElem jq, List.getElem?_eq_getElem jb]
    have kn : k < t.cells.length := by omega
    by_cases hle : q[c.joint.toNat] ≤ (boxAt t c.low)[c.joint.toNat].2
    · rw [if_pos hle] at hN'
      have hz' : ((c.low.toNat : Nat) : Int) = c.low := by omega
      repeat' (first
        | with_reducible refine WP.seq ?_
        | (with_reducible ((first | refine WP.region (hn := []) ?_ | refine xC_intro (cl) ?_ | refine WP.cond' ?_); simp -implicitDefEqProofs (maxSteps := 2000000) [hP, hN, g1, g2, g6, g8, hb2, hb9, i1, hci, hc, j0, jq, jb, ylt, y1, y3, k3, k4, hle]))
        | (with_reducible ((first | refine WP.draw (hn := []) (by rw [hP]; kernel_rfl) (by kernel_rfl) ?_ | refine yC_intro (cl) ?_); simp -implicitDefEqProofs (maxSteps := 2000000) [hP, hN, g1, g2, g6, g8, hb2, hb9, i1, hci, hc, j0, jq, jb, ylt, y1, y3, k3, k4, hle]; (try refine ⟨by kernel_rfl, ?_⟩)))
        | (with_reducible refine xB_split (by simp [g1, g2, g6, g8, hb2, hb9, i1, hci, hc, j0, jq, jb, ylt, y1, y3, k3, k4, hle]) (fun hgd => ?_) (fun hgd => ?_) <;> first | (exfalso; simp at hgd; done) | (exfalso; simp at hgd; omega) | simp -implicitDefEqProofs (maxSteps := 2000000) [hP, hN, g1, g2, g6, g8, hb2, hb9, i1, hci, hc, j0, jq, jb, ylt, y1, y3, k3, k4, hle])
        | (with_reducible refine yB_split (by simp [g1, g2, g6, g8, hb2, hb9, i1, hci, hc, j0, jq, jb, ylt, y1, y3, k3, k4, hle]) (fun hgd => ?_) (fun hgd => ?_) <;> first | (exfalso; simp at hgd; done) | (exfalso; simp at hgd; omega) | (simp -implicitDefEqProofs (maxSteps := 2000000) [hP, hN, g1, g2, g6, g8, hb2, hb9, i1, hci, hc, j0, jq, jb, ylt, y1, y3, k3, k4, hle] <;> (try refine ⟨by kernel_rfl, ?_⟩)))
        | with_reducible refine xTwo_intro ?_ ?_
        | (with_reducible refine xCond_split (fun hcd => ?_) (fun hcd => ?_) <;> (try (exfalso; clear hP hN; simp_all; done)) <;> (try (exfalso; simp at *; omega)))
        | with_reducible refine WP.block ?_
        | (with_reducible ((first | refine WP.skip ?_ | refine WP.exit ?_ | refine WP.ret ?_); simp [g1, g2, g6, g8, hb2, hb9, i1, hci, hc, j0, jq, jb, ylt, y1, y3, k3, k4, hle])))
      all_goals (rw [hsu, hN', hz']; simp [kn])
    · rw [if_neg hle] at hN'
      have hz' : ((c.high.toNat : Nat) : Int) = c.high := by omega
      repeat' (first
        | with_reducible refine WP.seq ?_
        | (with_reducible ((first | refine WP.region (hn := []) ?_ | refine xC_intro (cl) ?_ | refine WP.cond' ?_); simp -implicitDefEqProofs (maxSteps := 2000000) [hP, hN, g1, g2, g6, g8, hb2, hb9, i1, hci, hc, j0, jq, jb, ylt, y1, y3, k3, k4, hle]))
        | (with_reducible ((first | refine WP.draw (hn := []) (by rw [hP]; kernel_rfl) (by kernel_rfl) ?_ | refine yC_intro (cl) ?_); simp -implicitDefEqProofs (maxSteps := 2000000) [hP, hN, g1, g2, g6, g8, hb2, hb9, i1, hci, hc, j0, jq, jb, ylt, y1, y3, k3, k4, hle]; (try refine ⟨by kernel_rfl, ?_⟩)))
        | (with_reducible refine xB_split (by simp [g1, g2, g6, g8, hb2, hb9, i1, hci, hc, j0, jq, jb, ylt, y1, y3, k3, k4, hle]) (fun hgd => ?_) (fun hgd => ?_) <;> first | (exfalso; simp at hgd; done) | (exfalso; simp at hgd; omega) | simp -implicitDefEqProofs (maxSteps := 2000000) [hP, hN, g1, g2, g6, g8, hb2, hb9, i1, hci, hc, j0, jq, jb, ylt, y1, y3, k3, k4, hle])
        | (with_reducible refine yB_split (by simp [g1, g2, g6, g8, hb2, hb9, i1, hci, hc, j0, jq, jb, ylt, y1, y3, k3, k4, hle]) (fun hgd => ?_) (fun hgd => ?_) <;> first | (exfalso; simp at hgd; done) | (exfalso; simp at hgd; omega) | (simp -implicitDefEqProofs (maxSteps := 2000000) [hP, hN, g1, g2, g6, g8, hb2, hb9, i1, hci, hc, j0, jq, jb, ylt, y1, y3, k3, k4, hle] <;> (try refine ⟨by kernel_rfl, ?_⟩)))
        | with_reducible refine xTwo_intro ?_ ?_
        | (with_reducible refine xCond_split (fun hcd => ?_) (fun hcd => ?_) <;> (try (exfalso; clear hP hN; simp_all; done)) <;> (try (exfalso; simp at *; omega)))
        | with_reducible refine WP.block ?_
        | (with_reducible ((first | refine WP.skip ?_ | refine WP.exit ?_ | refine WP.ret ?_); simp [g1, g2, g6, g8, hb2, hb9, i1, hci, hc, j0, jq, jb, ylt, y1, y3, k3, k4, hle])))
      all_goals (rw [hsu, hN', hz']; simp [kn])
/-- What is in a box of a tree is in its root's. -/
theorem has_root {t : Tr} (hv : validT t = true) {i : Nat} (hi : i < t.cells.length) {q : List Int} (h : hasC (boxAt t (i : Int)) q = true) : hasC t.root q = true := by
  have hz := sizeOk_iff.1 (valid_size hv)
  obtain ⟨_, b2, b3⟩ := boxAt_ok hv (c := (i : Int)) hi
  obtain ⟨l1, m1⟩ := (hasC_vi b3).1 h
  refine (hasC_vi hz.2.2.2.2).2 ⟨by omega, fun j x y hx hy => ?_⟩
  have hj := (List.getElem?_eq_some_iff.1 hx).1
  have hbj : (boxAt t (i : Int))[j]? = some ((boxAt t (i : Int))[j]'(by omega)) := List.getElem?_eq_getElem _
  have w := box_within hv hi j _ x hbj hx
  have m := m1 j _ y hbj hy
  omega
def locN (t : Tr) (q : List Int) (n : Nat) : List Nat := (leavesN t n).filter (locP t q)
theorem locN_succ (t : Tr) (q : List Int) (n : Nat) : locN t q (n + 1) = if leafN t n && locP t q n then locN t q n ++ [n] else locN t q n := by
  unfold locN
  rw [leavesN_succ]
  cases h1 : leafN t n with
  | false => simp
  | true =>
    simp only [if_true, List.filter_append, Bool.true_and]
    cases h2 : locP t q n <;> simp [h2]
theorem locN_len (t : Tr) (q : List Int) (n : Nat) : (locN t q n).length ≤ n := Nat.le_trans (List.length_filter_le _ _) (leavesN_len t n)
theorem locL_no {t : Tr} {q : List Int} (h : validT t = false ∨ hasC t.root q = false) : locL t q = [] := by
  unfold locL
  cases hv : validT t with
  | false => simp [leavesL, hv]
  | true =>
    rcases h with h | h
    · rw [hv] at h; cases h
    · rw [List.filter_eq_nil_iff]
      intro e he hh
      obtain ⟨_, c, hc, _⟩ := leavesL_mem.1 he
      have := has_root hv (List.getElem?_eq_some_iff.1 hc).1 hh
      rw [h] at this; cases this
set_option maxHeartbeats 8000000 in
theorem d101 (t : Tr) (q : List Int) (hl : t.cells.length ≤ 9223372036854775807) (hr : t.root.length ≤ 9223372036854775807) (hq : q.length ≤ 9223372036854775807) : DetH Try.prog 101 [.pv (encT t), .pv (zs q)] [] [] (.pv (.sl ((locL t q).map zN'))) := by
  have cb := d52 t hl
  have ch := d30 t.root q hr hq
  rw [hasL_eq] at ch
  cases hv : validT t with
  | false =>
    rw [locL_no (.inl hv)]
    rw [hv] at cb
    refine detP_of Try.func101 rfl (by kernel_rfl) (by simp [Try.f101]) rfl ?_
    intro C hP hN
    simp only [Try.f101] at hN ⊢
    repeat' (first
      | with_reducible refine WP.seq ?_
      | (with_reducible ((first | refine WP.region (hn := []) ?_ | refine xC_intro (cb) ?_ | refine WP.cond' ?_); simp -implicitDefEqProofs (maxSteps := 2000000) [hP, hN]))
      | (with_reducible ((first | refine WP.draw (hn := []) (by rw [hP]; kernel_rfl) (by kernel_rfl) ?_ | refine yC_intro (cb) ?_); simp -implicitDefEqProofs (maxSteps := 2000000) [hP, hN]; (try refine ⟨by kernel_rfl, ?_⟩)))
      | (with_reducible refine xB_split (by simp) (fun hgd => ?_) (fun hgd => ?_) <;> first | (exfalso; simp at hgd; done) | (exfalso; simp at hgd; omega) | simp -implicitDefEqProofs (maxSteps := 2000000) [hP, hN])
      | (with_reducible refine yB_split (by simp) (fun hgd => ?_) (fun hgd => ?_) <;> first | (exfalso; simp at hgd; done) | (exfalso; simp at hgd; omega) | (simp -implicitDefEqProofs (maxSteps := 2000000) [hP, hN] <;> (try refine ⟨by kernel_rfl, ?_⟩)))
      | with_reducible refine xTwo_intro ?_ ?_
      | (with_reducible refine xCond_split (fun hcd => ?_) (fun hcd => ?_) <;> (try (exfalso; clear hP hN; simp_all; done)) <;> (try (exfalso; simp at *; omega)))
      | with_reducible refine WP.block ?_
      | (with_reducible ((first | refine WP.skip ?_ | refine WP.exit ?_ | refine WP.ret ?_); simp)))
  | true =>
  rw [hv] at cb
  cases hh : hasC t.root q with
  | false =>
    rw [locL_no (.inr hh)]
    rw [hh] at ch
    refine detP_of Try.func101 rfl (by kernel_rfl) (by simp [Try.f101]) rfl ?_
    intro C hP hN
    simp only [Try.f101] at hN ⊢
    repeat' (first
      | with_reducible refine WP.seq ?_
      | (with_reducible ((first | refine WP.region (hn := []) ?_ | refine xC_intro (cb) ?_ | refine xC_intro (ch) ?_ | refine WP.cond' ?_); simp -implicitDefEqProofs (maxSteps := 2000000) [hP, hN]))
      | (with_reducible ((first | refine WP.draw (hn := []) (by rw [hP]; kernel_rfl) (by kernel_rfl) ?_ | refine yC_intro (cb) ?_ | refine yC_intro (ch) ?_); simp -implicitDefEqProofs (maxSteps := 2000000) [hP, hN]; (try refine ⟨by kernel_rfl, ?_⟩)))
      | (with_reducible refine xB_split (by simp) (fun hgd => ?_) (fun hgd => ?_) <;> first | (exfalso; simp at hgd; done) | (exfalso; simp at hgd; omega) | simp -implicitDefEqProofs (maxSteps := 2000000) [hP, hN])
      | (with_reducible refine yB_split (by simp) (fun hgd => ?_) (fun hgd => ?_) <;> first | (exfalso; simp at hgd; done) | (exfalso; simp at hgd; omega) | (simp -implicitDefEqProofs (maxSteps := 2000000) [hP, hN] <;> (try refine ⟨by kernel_rfl, ?_⟩)))
      | with_reducible refine xTwo_intro ?_ ?_
      | (with_reducible refine xCond_split (fun hcd => ?_) (fun hcd => ?_) <;> (try (exfalso; clear hP hN; simp_all; done)) <;> (try (exfalso; simp at *; omega)))
      | with_reducible refine WP.block ?_
      | (with_reducible ((first | refine WP.skip ?_ | refine WP.exit ?_ | refine WP.ret ?_); simp)))
  | true =>
  rw [hh] at ch
  have hbl := boxesL_len hv
  have hz := sizeOk_iff.1 (valid_size hv)
  have hloc : locL t q = locN t q t.cells.length := by simp [locL, locN, leavesL, hv]
  rw [hloc]
  refine detP_of Try.func101 rfl (by kernel_rfl) (by simp [Try.f101]) rfl ?_
  intro C hP hN
  simp only [Try.f101] at hN ⊢
  repeat' (first
    | with_reducible refine WP.seq ?_
    | (with_reducible ((first | refine WP.region (hn := [7]) ?_ | refine xC_intro (cb) ?_ | refine xC_intro (ch) ?_ | refine WP.cond' ?_); simp -implicitDefEqProofs (maxSteps := 2000000) [hP, hN]))
    | (with_reducible ((first | refine WP.draw (hn := [7]) (by rw [hP]; kernel_rfl) (by kernel_rfl) ?_ | refine yC_intro (cb) ?_ | refine yC_intro (ch) ?_); simp -implicitDefEqProofs (maxSteps := 2000000) [hP, hN]; (try refine ⟨by kernel_rfl, ?_⟩)))
    | (with_reducible refine xB_split (by simp) (fun hgd => ?_) (fun hgd => ?_) <;> first | (exfalso; simp at hgd; done) | (exfalso; simp at hgd; omega) | simp -implicitDefEqProofs (maxSteps := 2000000) [hP, hN])
    | (with_reducible refine yB_split (by simp) (fun hgd => ?_) (fun hgd => ?_) <;> first | (exfalso; simp at hgd; done) | (exfalso; simp at hgd; omega) | (simp -implicitDefEqProofs (maxSteps := 2000000) [hP, hN] <;> (try refine ⟨by kernel_rfl, ?_⟩)))
    | with_reducible refine xTwo_intro ?_ ?_
    | (with_reducible refine xCond_split (fun hcd => ?_) (fun hcd => ?_) <;> (try (exfalso; clear hP hN; simp_all; done)) <;> (try (exfalso; simp at *; omega)))
    | with_reducible refine WP.block ?_
    | (with_reducible ((first | refine WP.skip ?_ | refine WP.exit ?_ | refine WP.ret ?_); simp)))
  refine WP.loopN [] t.cells.length (fun i st => st.t 1 = .pv (zs q) ∧ st.t 2 = .ptr 2 0 ∧ st.t 5 = .pv (.sl ((boxesL t).map iv)) ∧ st.t 7 = .arr 7 (locN t q i).length ∧ st.t 8 = .pv (Z i) ∧ st.h 2 = some (.box [.pv (iv t.root), .pv (.sl (t.cells.map encC))] true false) ∧ st.h 7 = some (.row 3 1 ((locN t q i).map zN') 0)) (by simp [locN, leavesN]) ?_
  rintro i st hi ⟨g1, g2, g5, g7, g8, hb2, hb7⟩
  have hle := locN_len t q i
  by_cases hlt : i < t.cells.length
  · have hw := wr_succ hlt hl
    have hltB : i < (boxesL t).length := by omega
    generalize hc : t.cells[i] = c at *
    have hci : t.cells[i]? = some c := by rw [List.getElem?_eq_getElem hlt, hc]
    obtain ⟨b1, b2, _⟩ := boxAt_ok hv (c := (i : Int)) hlt
    have b1' : (boxesL t)[i]? = some (boxAt t i) := b1
    have b3 := get_of b1' hltB
    have cl := d116 c
    have cq := d30 (boxAt t i) q (by omega) hq
    rw [hasL_eq] at cq
    have hs := locN_succ t q i
    have hln : leafN t i = leafB c := by simp [leafN, hci]
    have hlp : locP t q i = hasC (boxAt t (i : Int)) q := rfl
    rw [hln, hlp] at hs
    cases hlf : leafB c with
    | false =>
      rw [hlf] at cl hs
      rw [Bool.false_and, if_neg (by simp)] at hs
      repeat' (first
        | with_reducible refine WP.seq ?_
        | (with_reducible ((first | refine WP.region (hn := []) ?_ | refine xC_intro (cl) ?_ | refine WP.cond' ?_); simp -implicitDefEqProofs (maxSteps := 2000000) [hP, hN, g1, g2, g5, g7, g8, hb2, hb7, hlt, hbl, hw, hci, hc]))
        | (with_reducible ((first | refine WP.draw (hn := []) (by rw [hP]; kernel_rfl) (by kernel_rfl) ?_ | refine yC_intro (cl) ?_); simp -implicitDefEqProofs (maxSteps := 2000000) [hP, hN, g1, g2, g5, g7, g8, hb2, hb7, hlt, hbl, hw, hci, hc]; (try refine ⟨by kernel_rfl, ?_⟩)))
        | (with_reducible refine xB_split (by simp [g1, g2, g5, g7, g8, hb2, hb7, hlt, hbl, hw, hci, hc]) (fun hgd => ?_) (fun hgd => ?_) <;> first | (exfalso; simp at hgd; done) | (exfalso; simp at hgd; omega) | simp -implicitDefEqProofs (maxSteps := 2000000) [hP, hN, g1, g2, g5, g7, g8, hb2, hb7, hlt, hbl, hw, hci, hc])
        | (with_reducible refine yB_split (by simp [g1, g2, g5, g7, g8, hb2, hb7, hlt, hbl, hw, hci, hc]) (fun hgd => ?_) (fun hgd => ?_) <;> first | (exfalso; simp at hgd; done) | (exfalso; simp at hgd; omega) | (simp -implicitDefEqProofs (maxSteps := 2000000) [hP, hN, g1, g2, g5, g7, g8, hb2, hb7, hlt, hbl, hw, hci, hc] <;> (try refine ⟨by kernel_rfl, ?_⟩)))
        | with_reducible refine xTwo_intro ?_ ?_
        | (with_reducible refine xCond_split (fun hcd => ?_) (fun hcd => ?_) <;> (try (exfalso; clear hP hN; simp_all; done)) <;> (try (exfalso; simp at *; omega)))
        | with_reducible refine WP.block ?_
        | (with_reducible ((first | refine WP.skip ?_ | refine WP.exit ?_ | refine WP.ret ?_); simp [g1, g2, g5, g7, g8, hb2, hb7, hlt, hbl, hw, hci, hc])))
      all_goals simp [hs]
    | true =>
      rw [hlf] at cl hs
      cases hp : hasC (boxAt t (i : Int)) q with
      | false =>
        rw [hp] at cq hs
        rw [Bool.and_false, if_neg (by simp)] at hs
        repeat' (first
          | with_reducible refine WP.seq ?_
          | (with_reducible ((first | refine WP.region (hn := []) ?_ | refine xC_intro (cl) ?_ | refine xC_intro (cq) ?_ | refine WP.cond' ?_); simp -implicitDefEqProofs (maxSteps := 2000000) [hP, hN, g1, g2, g5, g7, g8, hb2, hb7, hlt, hltB, hbl, hw, hci, hc, b1', b3]))
          | (with_reducible ((first | refine WP.draw (hn := []) (by rw [hP]; kernel_rfl) (by kernel_rfl) ?_ | refine yC_intro (cl) ?_ | refine yC_intro (cq) ?_); simp -implicitDefEqProofs (maxSteps := 2000000) [hP, hN, g1, g2, g5, g7, g8, hb2, hb7, hlt, hltB, hbl, hw, hci, hc, b1', b3]; (try refine ⟨by kernel_rfl, ?_⟩)))
          | (with_reducible refine xB_split (by simp [g1, g2, g5, g7, g8, hb2, hb7, hlt, hltB, hbl, hw, hci, hc, b1', b3]) (fun hgd => ?_) (fun hgd => ?_) <;> first | (exfalso; simp at hgd; done) | (exfalso; simp at hgd; omega) | simp -implicitDefEqProofs (maxSteps := 2000000) [hP, hN, g1, g2, g5, g7, g8, hb2, hb7, hlt, hltB, hbl, hw, hci, hc, b1', b3])
          | (with_reducible refine yB_split (by simp [g1, g2, g5, g7, g8, hb2, hb7, hlt, hltB, hbl, hw, hci, hc, b1', b3]) (fun hgd => ?_) (fun hgd => ?_) <;> first | (exfalso; simp at hgd; done) | (exfalso; simp at hgd; omega) | (simp -implicitDefEqProofs (maxSteps := 2000000) [hP, hN, g1, g2, g5, g7, g8, hb2, hb7, hlt, hltB, hbl, hw, hci, hc, b1', b3] <;> (try refine ⟨by kernel_rfl, ?_⟩)))
          | with_reducible refine xTwo_intro ?_ ?_
          | (with_reducible refine xCond_split (fun hcd => ?_) (fun hcd => ?_) <;> (try (exfalso; clear hP hN; simp_all; done)) <;> (try (exfalso; simp at *; omega)))
          | with_reducible refine WP.block ?_
          | (with_reducible ((first | refine WP.skip ?_ | refine WP.exit ?_ | refine WP.ret ?_); simp [g1, g2, g5, g7, g8, hb2, hb7, hlt, hltB, hbl, hw, hci, hc, b1', b3])))
        all_goals simp [hs]
      | true =>
        rw [hp] at cq hs
        rw [Bool.and_self, if_pos rfl] at hs
        repeat' (first
          | with_reducible refine WP.seq ?_
          | (with_reducible ((first | refine WP.region (hn := []) ?_ | refine xC_intro (cl) ?_ | refine xC_intro (cq) ?_ | refine WP.cond' ?_); simp -implicitDefEqProofs (maxSteps := 2000000) [hP, hN, g1, g2, g5, g7, g8, hb2, hb7, hlt, hltB, hbl, hw, hci, hc, b1', b3, show ((locN t q i).length + 1) * 8 ≤ 140737488355328 by omega, show (locN t q i).length + 1 ≤ 9223372036854775807 by omega]))
          | (with_reducible ((first | refine WP.draw (hn := []) (by rw [hP]; kernel_rfl) (by kernel_rfl) ?_ | refine yC_intro (cl) ?_ | refine yC_intro (cq) ?_); simp -implicitDefEqProofs (maxSteps := 2000000) [hP, hN, g1, g2, g5, g7, g8, hb2, hb7, hlt, hltB, hbl, hw, hci, hc, b1', b3, show ((locN t q i).length + 1) * 8 ≤ 140737488355328 by omega, show (locN t q i).length + 1 ≤ 9223372036854775807 by omega]; (try refine ⟨by kernel_rfl, ?_⟩)))
          | (with_reducible refine xB_split (by simp [g1, g2, g5, g7, g8, hb2, hb7, hlt, hltB, hbl, hw, hci, hc, b1', b3, show ((locN t q i).length + 1) * 8 ≤ 140737488355328 by omega, show (locN t q i).length + 1 ≤ 9223372036854775807 by omega]) (fun hgd => ?_) (fun hgd => ?_) <;> first | (exfalso; simp at hgd; done) | (exfalso; simp at hgd; omega) | simp -implicitDefEqProofs (maxSteps := 2000000) [hP, hN, g1, g2, g5, g7, g8, hb2, hb7, hlt, hltB, hbl, hw, hci, hc, b1', b3, show ((locN t q i).length + 1) * 8 ≤ 140737488355328 by omega, show (locN t q i).length + 1 ≤ 9223372036854775807 by omega])
          | (with_reducible refine yB_split (by simp [g1, g2, g5, g7, g8, hb2, hb7, hlt, hltB, hbl, hw, hci, hc, b1', b3, show ((locN t q i).length + 1) * 8 ≤ 140737488355328 by omega, show (locN t q i).length + 1 ≤ 9223372036854775807 by omega]) (fun hgd => ?_) (fun hgd => ?_) <;> first | (exfalso; simp at hgd; done) | (exfalso; simp at hgd; omega) | (simp -implicitDefEqProofs (maxSteps := 2000000) [hP, hN, g1, g2, g5, g7, g8, hb2, hb7, hlt, hltB, hbl, hw, hci, hc, b1', b3, show ((locN t q i).length + 1) * 8 ≤ 140737488355328 by omega, show (locN t q i).length + 1 ≤ 9223372036854775807 by omega] <;> (try refine ⟨by kernel_rfl, ?_⟩)))
          | with_reducible refine xTwo_intro ?_ ?_
          | (with_reducible refine xCond_split (fun hcd => ?_) (fun hcd => ?_) <;> (try (exfalso; clear hP hN; simp_all; done)) <;> (try (exfalso; simp at *; omega)))
          | with_reducible refine WP.block ?_
          | (with_reducible ((first | refine WP.skip ?_ | refine WP.exit ?_ | refine WP.ret ?_); simp [g1, g2, g5, g7, g8, hb2, hb7, hlt, hltB, hbl, hw, hci, hc, b1', b3, show ((locN t q i).length + 1) * 8 ≤ 140737488355328 by omega, show (locN t q i).length + 1 ≤ 9223372036854775807 by omega])))
        all_goals simp [hs]
  · have hi' : i = t.cells.length := by omega
    subst hi'
    repeat' (first
      | with_reducible refine WP.seq ?_
      | (with_reducible ((first | refine WP.region (hn := []) ?_ | refine WP.cond' ?_); simp -implicitDefEqProofs (maxSteps := 2000000) [hP, hN, g1, g2, g5, g7, g8, hb2, hb7, hlt, hbl]))
      | (with_reducible ((first | refine WP.draw (hn := []) (by rw [hP]; kernel_rfl) (by kernel_rfl) ?_); simp -implicitDefEqProofs (maxSteps := 2000000) [hP, hN, g1, g2, g5, g7, g8, hb2, hb7, hlt, hbl]; (try refine ⟨by kernel_rfl, ?_⟩)))
      | (with_reducible refine xB_split (by simp [g1, g2, g5, g7, g8, hb2, hb7, hlt, hbl]) (fun hgd => ?_) (fun hgd => ?_) <;> first | (exfalso; simp at hgd; done) | (exfalso; simp at hgd; omega) | simp -implicitDefEqProofs (maxSteps := 2000000) [hP, hN, g1, g2, g5, g7, g8, hb2, hb7, hlt, hbl])
      | (with_reducible refine yB_split (by simp [g1, g2, g5, g7, g8, hb2, hb7, hlt, hbl]) (fun hgd => ?_) (fun hgd => ?_) <;> first | (exfalso; simp at hgd; done) | (exfalso; simp at hgd; omega) | (simp -implicitDefEqProofs (maxSteps := 2000000) [hP, hN, g1, g2, g5, g7, g8, hb2, hb7, hlt, hbl] <;> (try refine ⟨by kernel_rfl, ?_⟩)))
      | with_reducible refine xTwo_intro ?_ ?_
      | (with_reducible refine xCond_split (fun hcd => ?_) (fun hcd => ?_) <;> (try (exfalso; clear hP hN; simp_all; done)) <;> (try (exfalso; simp at *; omega)))
      | with_reducible refine WP.block ?_
      | (with_reducible ((first | refine WP.skip ?_ | refine WP.exit ?_ | refine WP.ret ?_); simp [g1, g2, g5, g7, g8, hb2, hb7, hlt, hbl])))
end Go.Ab

/- Contracts: Neighbors. -/
namespace Go.Ab
open Go.Proofs
def nbP (t : Tr) (i e : Nat) : Bool := decide (e ≠ i) && touchC (boxAt t (i : Int)) (boxAt t (e : Int))
def nbOk (t : Tr) (i : Int) : Bool := boxOk t i && leafN t i.toNat
def nbL (t : Tr) (i : Int) : List Nat := if nbOk t i then (leavesL t).filter (nbP t i.toNat) else []
set_option maxRecDepth 100000 in
set_option maxHeartbeats 8000000 in
theorem d44 (t : Tr) (i : Int) (hl : t.cells.length ≤ 9223372036854775807) : DetH Try.prog 44 [.pv (encT t), .pv (Z i)] [] [] (.pv (.sl ((nbL t i).map zN'))) := by
  have cb := d28 t i hl
  refine detF_of (args := [encT t, Z i]) Try.func44 rfl (by kernel_rfl) (by simp [Try.f44]) ?_
  intro C hP hN hCS
  simp only [Try.f44] at hN ⊢
  have hF := wide_wide
  refine WPF.seq hCS ?_
  repeat' (first
    | with_reducible refine WPT.seq ?_
    | (with_reducible ((first | refine WPT.region hF (hn := []) (by kernel_rfl) ?_ | refine WPT.cond' ?_); simp -implicitDefEqProofs (maxSteps := 2000000) [hP, hN]))
    | (with_reducible refine xB_split (by simp) (fun hgd => ?_) (fun hgd => ?_) <;> first | (exfalso; simp at hgd; done) | (exfalso; simp at hgd; omega) | simp -implicitDefEqProofs (maxSteps := 2000000) [hP, hN])
    | with_reducible refine xTwo_intro ?_ ?_
    | (with_reducible refine xCondT_split (fun hcd => ?_) (fun hcd => ?_) <;> (try (exfalso; clear hP hN; simp_all; done)) <;> (try (exfalso; simp at *; omega)))
    | with_reducible refine WPT.block ?_
    | (with_reducible ((first | refine WPT.skip ?_ | refine WPT.exit ?_ | refine WPT.ret ?_); simp)))
  refine WPF.defer (pre := [_]) (hn := []) (g := 103) rfl (fun o ho c' hc' => by simp at ho; subst ho; cases hc') rfl rfl rfl rfl rfl (by rw [hP]; exact quietIn103) ?_
  simp -implicitDefEqProofs [hP, hN]
  refine WPF.seq hCS ?_
  cases hbo : boxOk t i with
  | false =>
    have hno : nbL t i = [] := by simp [nbL, nbOk, hbo]
    rw [hno]
    rw [hbo, boxOf_no hbo] at cb
    repeat' (first
      | with_reducible refine WPT.seq ?_
      | (with_reducible ((first | refine WPT.region hF (hn := []) (by kernel_rfl) ?_ | refine xC_intro (cb) ?_ | refine WPT.cond' ?_); simp -implicitDefEqProofs (maxSteps := 2000000) [hP, hN]))
      | (with_reducible refine xB_split (by simp) (fun hgd => ?_) (fun hgd => ?_) <;> first | (exfalso; simp at hgd; done) | (exfalso; simp at hgd; omega) | simp -implicitDefEqProofs (maxSteps := 2000000) [hP, hN])
      | with_reducible refine xTwo_intro ?_ ?_
      | (with_reducible refine xCondT_split (fun hcd => ?_) (fun hcd => ?_) <;> (try (exfalso; clear hP hN; simp_all; done)) <;> (try (exfalso; simp at *; omega)))
      | with_reducible refine WPT.block ?_
      | (with_reducible ((first | refine WPT.skip ?_ | refine WPT.exit ?_ | refine WPT.ret ?_); simp)))
    refine WPF.seq hCS ?_
    repeat' (first
      | with_reducible refine WPT.seq ?_
      | (with_reducible ((first | refine WPT.region hF (hn := []) (by kernel_rfl) ?_ | refine xC_intro (cb) ?_ | refine WPT.cond' ?_); simp -implicitDefEqProofs (maxSteps := 2000000) [hP, hN]))
      | (with_reducible refine xB_split (by simp) (fun hgd => ?_) (fun hgd => ?_) <;> first | (exfalso; simp at hgd; done) | (exfalso; simp at hgd; omega) | simp -implicitDefEqProofs (maxSteps := 2000000) [hP, hN])
      | with_reducible refine xTwo_intro ?_ ?_
      | (with_reducible refine xCondT_split (fun hcd => ?_) (fun hcd => ?_) <;> (try (exfalso; clear hP hN; simp_all; done)) <;> (try (exfalso; simp at *; omega)))
      | with_reducible refine WPT.block ?_
      | (with_reducible ((first | refine WPT.skip ?_ | refine WPT.exit ?_ | refine WPT.ret ?_); simp)))
    all_goals simp -implicitDefEqProofs [hP, hN]
  | true =>
    rw [hbo] at cb
    simp only [boxOk, Bool.and_eq_true, decide_eq_true_eq] at hbo
    obtain ⟨⟨hv, h0⟩, h1⟩ := hbo
    obtain ⟨k, rfl⟩ := Int.eq_ofNat_of_zero_le h0
    have hlt : k < t.cells.length := by omega
    have hz := sizeOk_iff.1 (valid_size hv)
    have hbk : boxOf t k = boxAt t k := by simp [boxOf, boxOk, hv, hlt]
    obtain ⟨hb1, hb2, _⟩ := boxAt_ok hv (c := (k : Int)) hlt
    rw [hbk] at cb
    generalize hc : t.cells[k] = c at *
    have hci : t.cells[k]? = some c := by rw [List.getElem?_eq_getElem hlt, hc]
    have cl := d87 c
    repeat' (first
      | with_reducible refine WPT.seq ?_
      | (with_reducible ((first | refine WPT.region hF (hn := []) (by kernel_rfl) ?_ | refine xC_intro (cb) ?_ | refine WPT.cond' ?_); simp -implicitDefEqProofs (maxSteps := 2000000) [hP, hN]))
      | (with_reducible refine xB_split (by simp) (fun hgd => ?_) (fun hgd => ?_) <;> first | (exfalso; simp at hgd; done) | (exfalso; simp at hgd; omega) | simp -implicitDefEqProofs (maxSteps := 2000000) [hP, hN])
      | with_reducible refine xTwo_intro ?_ ?_
      | (with_reducible refine xCondT_split (fun hcd => ?_) (fun hcd => ?_) <;> (try (exfalso; clear hP hN; simp_all; done)) <;> (try (exfalso; simp at *; omega)))
      | with_reducible refine WPT.block ?_
      | (with_reducible ((first | refine WPT.skip ?_ | refine WPT.exit ?_ | refine WPT.ret ?_); simp)))
    refine WPF.seq hCS ?_
    cases hlf : leafB c with
    | false =>
      have hno : nbL t k = [] := by simp [nbL, nbOk, leafN, hci, hlf]
      rw [hno]
      rw [hlf] at cl
      repeat' (first
        | with_reducible refine WPT.seq ?_
        | (with_reducible ((first | refine WPT.region hF (hn := []) (by kernel_rfl) ?_ | refine xC_intro (cl) ?_ | refine WPT.cond' ?_); simp -implicitDefEqProofs (maxSteps := 2000000) [hP, hN, hlt, hci, hc]))
        | (with_reducible refine xB_split (by simp [hlt, hci, hc]) (fun hgd => ?_) (fun hgd => ?_) <;> first | (exfalso; simp at hgd; done) | (exfalso; simp at hgd; omega) | simp -implicitDefEqProofs (maxSteps := 2000000) [hP, hN, hlt, hci, hc])
        | with_reducible refine xTwo_intro ?_ ?_
        | (with_reducible refine xCondT_split (fun hcd => ?_) (fun hcd => ?_) <;> (try (exfalso; clear hP hN; simp_all; done)) <;> (try (exfalso; simp at *; omega)))
        | with_reducible refine WPT.block ?_
        | (with_reducible ((first | refine WPT.skip ?_ | refine WPT.exit ?_ | refine WPT.ret ?_); simp [hlt, hci, hc])))
      all_goals simp -implicitDefEqProofs [hP, hN]
    | true =>
      have hln : leafN t k = true := by simp [leafN, hci, hlf]
      have hL : nbL t k = (leavesL t).filter (nbP t k) := by simp [nbL, nbOk, hln, boxOk, hv, hlt]
      rw [hL]
      rw [hlf] at cl
      repeat' (first
        | with_reducible refine WPT.seq ?_
        | (with_reducible ((first | refine WPT.region hF (hn := []) (by kernel_rfl) ?_ | refine xC_intro (cl) ?_ | refine WPT.cond' ?_); simp -implicitDefEqProofs (maxSteps := 2000000) [hP, hN, hlt, hci, hc]))
        | (with_reducible refine xB_split (by simp [hlt, hci, hc]) (fun hgd => ?_) (fun hgd => ?_) <;> first | (exfalso; simp at hgd; done) | (exfalso; simp at hgd; omega) | simp -implicitDefEqProofs (maxSteps := 2000000) [hP, hN, hlt, hci, hc])
        | with_reducible refine xTwo_intro ?_ ?_
        | (with_reducible refine xCondT_split (fun hcd => ?_) (fun hcd => ?_) <;> (try (exfalso; clear hP hN; simp_all; done)) <;> (try (exfalso; simp at *; omega)))
        | with_reducible refine WPT.block ?_
        | (with_reducible ((first | refine WPT.skip ?_ | refine WPT.exit ?_ | refine WPT.ret ?_); simp [hlt, hci, hc])))
      refine WPF.range hCS (gf := 148) (caps := [.rptr (encT t) 0]) (xs := leafPairs t) (by rw [hP]; exact i148 t hl) (by rw [hN]; decide) (by rw [hN]; decide) (ks := [3, 4, 5]) (hin := fun j => if j = 3 then [Z k] else if j = 4 then [.val (.slice none 0 0)] else [iv (boxAt t k)]) (t := fun m => if m = 3 then .ptr 3 0 else if m = 4 then .ptr 4 0 else if m = 5 then .ptr 5 0 else .undef) ?_ (fun i h => LI 4 42 (((leavesL t).take i).filter (nbP t k)) h ∧ h 3 = some (.box [.pv (Z k)] false false) ∧ h 5 = some (.box [.pv (iv (boxAt t k))] false false)) ?_ ?_ ?_ (by kernel_rfl) (hn := []) ?_
      · skip
        repeat' (first
          | with_reducible refine WPT.seq ?_
          | (with_reducible ((first | refine WPT.region hF (hn := []) (by kernel_rfl) ?_ | refine xC_intro (d79 t) ?_ | refine WPT.cond' ?_); simp -implicitDefEqProofs (maxSteps := 2000000) [hP, hN]))
          | (with_reducible refine xB_split (by simp) (fun hgd => ?_) (fun hgd => ?_) <;> first | (exfalso; simp at hgd; done) | (exfalso; simp at hgd; omega) | simp -implicitDefEqProofs (maxSteps := 2000000) [hP, hN])
          | with_reducible refine xTwo_intro ?_ ?_
          | (with_reducible refine xCondT_split (fun hcd => ?_) (fun hcd => ?_) <;> (try (exfalso; clear hP hN; simp_all; done)) <;> (try (exfalso; simp at *; omega)))
          | with_reducible refine WPT.block ?_
          | (with_reducible ((first | refine WPT.skip ?_ | refine WPT.exit ?_ | refine WPT.ret ?_); simp)))
        all_goals (intro m; by_cases hm : m = 3 <;> by_cases hm' : m = 4 <;> by_cases hm'' : m = 5 <;> simp [hm, hm', hm''])
      · refine ⟨.inl ?_, ?_, ?_⟩ <;> simp [handH]
      · intro i h k hk hi
        simp at hk
        rcases hk with rfl | rfl | rfl
        · exact ⟨_, hi.2.1⟩
        · rcases hi.1 with ⟨_, h2, _⟩ | ⟨_, h2, _⟩
          · exact ⟨_, h2⟩
          · exact ⟨_, h2⟩
        · exact ⟨_, hi.2.2⟩
      · intro C1 C2 l i x h hP1 hN1 hP2 hN2 hx ⟨hI, q3, q5⟩
        obtain ⟨e, he, rfl⟩ := pairs_get hx
        have hac := take_one he
        have hsm := leaves_small t
        have hlen : (((leavesL t).take i).filter (nbP t k)).length ≤ 2048 := by
          have := List.length_filter_le (nbP t k) ((leavesL t).take i)
          rw [List.length_take] at this; omega
        have hbl := leaf_box he
        have ch := d104 (boxAt t (k : Int)) (boxAt t (e : Int)) (by omega)
        have hac2 : ((leavesL t).take (i + 1)).filter (nbP t k) = ((leavesL t).take i).filter (nbP t k) ++ (if nbP t k e then [e] else []) := by
          rw [hac, List.filter_append]
          cases h : nbP t k e <;> simp [h]
        rw [hac2]
        have hlp : nbP t k e = (decide (e ≠ k) && touchC (boxAt t (k : Int)) (boxAt t (e : Int))) := rfl
        rw [hlp]
        generalize ((leavesL t).take i).filter (nbP t k) = acc at *
        have hF := wide_round l
        have hP0 := hP
        have hN0 := hN
        clear hP hN
        have hP := hP1.trans hP0
        have hN := hN1.trans hN0
        have hPb := hP2.trans hP0
        have hNb := hN2.trans hN0
        have hA : (acc.length + 1) * 8 ≤ 140737488355328 := by omega
        have hA' : acc.length + 1 ≤ 9223372036854775807 := by omega
        by_cases hek : e = k
        · have hek' : ((e : Int) != (k : Int)) = false := by simp [hek]
          rw [decide_eq_false (by simpa using hek)]
          rcases hI with ⟨rfl, q2, q12⟩ | ⟨hne, q2, q12⟩
          · skip
            repeat' (first
              | with_reducible refine WPT.seq ?_
              | (with_reducible ((first | refine WPT.region hF (hn := []) (by kernel_rfl) ?_ | refine WPT.cond' ?_); simp -implicitDefEqProofs (maxSteps := 2000000) [hP, hN, hPb, hNb, setP, q2, q12, q3, q5, hek']))
              | (with_reducible refine xB_split (by simp [hPb, hNb, setP, q2, q12, q3, q5, hek']) (fun hgd => ?_) (fun hgd => ?_) <;> first | (exfalso; simp at hgd; done) | (exfalso; simp at hgd; omega) | simp -implicitDefEqProofs (maxSteps := 2000000) [hP, hN, hPb, hNb, setP, q2, q12, q3, q5, hek'])
              | with_reducible refine xTwo_intro ?_ ?_
              | (with_reducible refine xCondT_split (fun hcd => ?_) (fun hcd => ?_) <;> (try (exfalso; clear hP hN; simp_all; done)) <;> (try (exfalso; simp at *; omega)))
              | with_reducible refine WPT.block ?_
              | (with_reducible ((first | refine WPT.skip ?_ | refine WPT.exit ?_ | refine WPT.ret ?_); simp [hPb, hNb, setP, q2, q12, q3, q5, hek'])))
            all_goals exact .inl ⟨by simp, q2, q12⟩
          · skip
            repeat' (first
              | with_reducible refine WPT.seq ?_
              | (with_reducible ((first | refine WPT.region hF (hn := []) (by kernel_rfl) ?_ | refine WPT.cond' ?_); simp -implicitDefEqProofs (maxSteps := 2000000) [hP, hN, hPb, hNb, setP, q2, q12, q3, q5, hek']))
              | (with_reducible refine xB_split (by simp [hPb, hNb, setP, q2, q12, q3, q5, hek']) (fun hgd => ?_) (fun hgd => ?_) <;> first | (exfalso; simp at hgd; done) | (exfalso; simp at hgd; omega) | simp -implicitDefEqProofs (maxSteps := 2000000) [hP, hN, hPb, hNb, setP, q2, q12, q3, q5, hek'])
              | with_reducible refine xTwo_intro ?_ ?_
              | (with_reducible refine xCondT_split (fun hcd => ?_) (fun hcd => ?_) <;> (try (exfalso; clear hP hN; simp_all; done)) <;> (try (exfalso; simp at *; omega)))
              | with_reducible refine WPT.block ?_
              | (with_reducible ((first | refine WPT.skip ?_ | refine WPT.exit ?_ | refine WPT.ret ?_); simp [hPb, hNb, setP, q2, q12, q3, q5, hek'])))
            all_goals exact .inr ⟨by simp [hne], by simp [q2], by simp [q12]⟩
        have hek' : ((e : Int) != (k : Int)) = true := by simp; omega
        rw [decide_eq_true hek]
        cases hh : touchC (boxAt t (k : Int)) (boxAt t (e : Int)) with
        | false =>
          rw [hh] at ch
          rcases hI with ⟨rfl, q2, q12⟩ | ⟨hne, q2, q12⟩
          · skip
            repeat' (first
              | with_reducible refine WPT.seq ?_
              | (with_reducible ((first | refine WPT.region hF (hn := []) (by kernel_rfl) ?_ | refine xC_intro (ch) ?_ | refine WPT.cond' ?_); simp -implicitDefEqProofs (maxSteps := 2000000) [hP, hN, hPb, hNb, setP, q2, q12, q3, q5, hek']))
              | (with_reducible refine xB_split (by simp [hPb, hNb, setP, q2, q12, q3, q5, hek']) (fun hgd => ?_) (fun hgd => ?_) <;> first | (exfalso; simp at hgd; done) | (exfalso; simp at hgd; omega) | simp -implicitDefEqProofs (maxSteps := 2000000) [hP, hN, hPb, hNb, setP, q2, q12, q3, q5, hek'])
              | with_reducible refine xTwo_intro ?_ ?_
              | (with_reducible refine xCondT_split (fun hcd => ?_) (fun hcd => ?_) <;> (try (exfalso; clear hP hN; simp_all; done)) <;> (try (exfalso; simp at *; omega)))
              | with_reducible refine WPT.block ?_
              | (with_reducible ((first | refine WPT.skip ?_ | refine WPT.exit ?_ | refine WPT.ret ?_); simp [hPb, hNb, setP, q2, q12, q3, q5, hek'])))
            all_goals exact .inl ⟨by simp, q2, q12⟩
          · skip
            repeat' (first
              | with_reducible refine WPT.seq ?_
              | (with_reducible ((first | refine WPT.region hF (hn := []) (by kernel_rfl) ?_ | refine xC_intro (ch) ?_ | refine WPT.cond' ?_); simp -implicitDefEqProofs (maxSteps := 2000000) [hP, hN, hPb, hNb, setP, q2, q12, q3, q5, hek']))
              | (with_reducible refine xB_split (by simp [hPb, hNb, setP, q2, q12, q3, q5, hek']) (fun hgd => ?_) (fun hgd => ?_) <;> first | (exfalso; simp at hgd; done) | (exfalso; simp at hgd; omega) | simp -implicitDefEqProofs (maxSteps := 2000000) [hP, hN, hPb, hNb, setP, q2, q12, q3, q5, hek'])
              | with_reducible refine xTwo_intro ?_ ?_
              | (with_reducible refine xCondT_split (fun hcd => ?_) (fun hcd => ?_) <;> (try (exfalso; clear hP hN; simp_all; done)) <;> (try (exfalso; simp at *; omega)))
              | with_reducible refine WPT.block ?_
              | (with_reducible ((first | refine WPT.skip ?_ | refine WPT.exit ?_ | refine WPT.ret ?_); simp [hPb, hNb, setP, q2, q12, q3, q5, hek'])))
            all_goals exact .inr ⟨by simp [hne], by simp [q2], by simp [q12]⟩
        | true =>
          rw [hh] at ch
          rcases hI with ⟨rfl, q2, q12⟩ | ⟨hne, q2, q12⟩
          · skip
            repeat' (first
              | with_reducible refine WPT.seq ?_
              | (with_reducible ((first | refine WPT.region hF (hn := []) (by kernel_rfl) ?_ | refine xC_intro (ch) ?_ | refine WPT.cond' ?_); simp -implicitDefEqProofs (maxSteps := 2000000) [hP, hN, hPb, hNb, setP, q2, q12, q3, q5, hek']))
              | (with_reducible refine xB_split (by simp [hPb, hNb, setP, q2, q12, q3, q5, hek']) (fun hgd => ?_) (fun hgd => ?_) <;> first | (exfalso; simp at hgd; done) | (exfalso; simp at hgd; omega) | simp -implicitDefEqProofs (maxSteps := 2000000) [hP, hN, hPb, hNb, setP, q2, q12, q3, q5, hek'])
              | with_reducible refine xTwo_intro ?_ ?_
              | (with_reducible refine xCondT_split (fun hcd => ?_) (fun hcd => ?_) <;> (try (exfalso; clear hP hN; simp_all; done)) <;> (try (exfalso; simp at *; omega)))
              | with_reducible refine WPT.block ?_
              | (with_reducible ((first | refine WPT.skip ?_ | refine WPT.exit ?_ | refine WPT.ret ?_); simp [hPb, hNb, setP, q2, q12, q3, q5, hek'])))
            all_goals exact .inr ⟨by simp, by simp [upd], by simp [upd]⟩
          · skip
            repeat' (first
              | with_reducible refine WPT.seq ?_
              | (with_reducible ((first | refine WPT.region hF (hn := []) (by kernel_rfl) ?_ | refine xC_intro (ch) ?_ | refine WPT.cond' ?_); simp -implicitDefEqProofs (maxSteps := 2000000) [hP, hN, hPb, hNb, setP, q2, q12, q3, q5, hek', hA, hA']))
              | (with_reducible refine xB_split (by simp [hPb, hNb, setP, q2, q12, q3, q5, hek', hA, hA']) (fun hgd => ?_) (fun hgd => ?_) <;> first | (exfalso; simp at hgd; done) | (exfalso; simp at hgd; omega) | simp -implicitDefEqProofs (maxSteps := 2000000) [hP, hN, hPb, hNb, setP, q2, q12, q3, q5, hek', hA, hA'])
              | with_reducible refine xTwo_intro ?_ ?_
              | (with_reducible refine xCondT_split (fun hcd => ?_) (fun hcd => ?_) <;> (try (exfalso; clear hP hN; simp_all; done)) <;> (try (exfalso; simp at *; omega)))
              | with_reducible refine WPT.block ?_
              | (with_reducible ((first | refine WPT.skip ?_ | refine WPT.exit ?_ | refine WPT.ret ?_); simp [hPb, hNb, setP, q2, q12, q3, q5, hek', hA, hA'])))
            all_goals exact .inr ⟨by simp, by simp [upd], by simp [upd]⟩
      · intro h ⟨hI, q3, q5⟩
        have hall : (leavesL t).take (leafPairs t).length = leavesL t := List.take_of_length_le (by simp [leafPairs])
        rw [hall] at hI
        show evR _ _ _ _ _ _ _
        rcases hI with ⟨e, q2, q12⟩ | ⟨hne, q2, q12⟩
        · rw [e]
          simp -implicitDefEqProofs [hP, hN, q2, q12]
        · simp -implicitDefEqProofs [hP, hN, q2, q12]
end Go.Ab

/- Contracts: the reference's Neighbors, comparison of lists, small helpers of the laws, the example. -/
namespace Go.Ab
open Go.Proofs
def nbN (t : Tr) (i n : Nat) : List Nat := (leavesN t n).filter (nbP t i)
theorem nbN_succ (t : Tr) (i n : Nat) : nbN t i (n + 1) = if leafN t n && nbP t i n then nbN t i n ++ [n] else nbN t i n := by
  unfold nbN
  rw [leavesN_succ]
  cases h1 : leafN t n with
  | false => simp
  | true =>
    simp only [if_true, List.filter_append, Bool.true_and]
    cases h2 : nbP t i n <;> simp [h2]
theorem nbN_len (t : Tr) (i n : Nat) : (nbN t i n).length ≤ n := Nat.le_trans (List.length_filter_le _ _) (leavesN_len t n)
set_option maxHeartbeats 8000000 in
theorem d102 (t : Tr) (i : Int) (hl : t.cells.length ≤ 9223372036854775807) : DetH Try.prog 102 [.pv (encT t), .pv (Z i)] [] [] (.pv (.sl ((nbL t i).map zN'))) := by
  have cb := d52 t hl
  cases hv : validT t with
  | false =>
    have hno : nbL t i = [] := by simp [nbL, nbOk, boxOk, hv]
    rw [hno]
    rw [hv] at cb
    refine detP_of Try.func102 rfl (by kernel_rfl) (by simp [Try.f102]) rfl ?_
    intro C hP hN
    simp only [Try.f102] at hN ⊢
    repeat' (first
      | with_reducible refine WP.seq ?_
      | (with_reducible ((first | refine WP.region (hn := []) ?_ | refine xC_intro (cb) ?_ | refine WP.cond' ?_); simp -implicitDefEqProofs (maxSteps := 2000000) [hP, hN]))
      | (with_reducible ((first | refine WP.draw (hn := []) (by rw [hP]; kernel_rfl) (by kernel_rfl) ?_ | refine yC_intro (cb) ?_); simp -implicitDefEqProofs (maxSteps := 2000000) [hP, hN]; (try refine ⟨by kernel_rfl, ?_⟩)))
      | (with_reducible refine xB_split (by simp) (fun hgd => ?_) (fun hgd => ?_) <;> first | (exfalso; simp at hgd; done) | (exfalso; simp at hgd; omega) | simp -implicitDefEqProofs (maxSteps := 2000000) [hP, hN])
      | (with_reducible refine yB_split (by simp) (fun hgd => ?_) (fun hgd => ?_) <;> first | (exfalso; simp at hgd; done) | (exfalso; simp at hgd; omega) | (simp -implicitDefEqProofs (maxSteps := 2000000) [hP, hN] <;> (try refine ⟨by kernel_rfl, ?_⟩)))
      | with_reducible refine xTwo_intro ?_ ?_
      | (with_reducible refine xCond_split (fun hcd => ?_) (fun hcd => ?_) <;> (try (exfalso; clear hP hN; simp_all; done)) <;> (try (exfalso; simp at *; omega)))
      | with_reducible refine WP.block ?_
      | (with_reducible ((first | refine WP.skip ?_ | refine WP.exit ?_ | refine WP.ret ?_); simp)))
  | true =>
  rw [hv] at cb
  have hbl := boxesL_len hv
  have hz := sizeOk_iff.1 (valid_size hv)
  by_cases h1 : i < 0
  · have hno : nbL t i = [] := by
      have : decide (0 ≤ i) = false := by simp; omega
      simp [nbL, nbOk, boxOk, this]
    rw [hno]
    refine detP_of Try.func102 rfl (by kernel_rfl) (by simp [Try.f102]) rfl ?_
    intro C hP hN
    simp only [Try.f102] at hN ⊢
    repeat' (first
      | with_reducible refine WP.seq ?_
      | (with_reducible ((first | refine WP.region (hn := []) ?_ | refine xC_intro (cb) ?_ | refine WP.cond' ?_); simp -implicitDefEqProofs (maxSteps := 2000000) [hP, hN, h1]))
      | (with_reducible ((first | refine WP.draw (hn := []) (by rw [hP]; kernel_rfl) (by kernel_rfl) ?_ | refine yC_intro (cb) ?_); simp -implicitDefEqProofs (maxSteps := 2000000) [hP, hN, h1]; (try refine ⟨by kernel_rfl, ?_⟩)))
      | (with_reducible refine xB_split (by simp [h1]) (fun hgd => ?_) (fun hgd => ?_) <;> first | (exfalso; simp at hgd; done) | (exfalso; simp at hgd; omega) | simp -implicitDefEqProofs (maxSteps := 2000000) [hP, hN, h1])
      | (with_reducible refine yB_split (by simp [h1]) (fun hgd => ?_) (fun hgd => ?_) <;> first | (exfalso; simp at hgd; done) | (exfalso; simp at hgd; omega) | (simp -implicitDefEqProofs (maxSteps := 2000000) [hP, hN, h1] <;> (try refine ⟨by kernel_rfl, ?_⟩)))
      | with_reducible refine xTwo_intro ?_ ?_
      | (with_reducible refine xCond_split (fun hcd => ?_) (fun hcd => ?_) <;> (try (exfalso; clear hP hN; simp_all; done)) <;> (try (exfalso; simp at *; omega)))
      | with_reducible refine WP.block ?_
      | (with_reducible ((first | refine WP.skip ?_ | refine WP.exit ?_ | refine WP.ret ?_); simp [h1])))
  obtain ⟨k, rfl⟩ := Int.eq_ofNat_of_zero_le (show 0 ≤ i by omega)
  by_cases h2 : t.cells.length ≤ k
  · have hno : nbL t k = [] := by
      have : decide ((k : Int) < t.cells.length) = false := by simp; omega
      simp only [nbL, nbOk, boxOk, this]
      simp
    rw [hno]
    refine detP_of Try.func102 rfl (by kernel_rfl) (by simp [Try.f102]) rfl ?_
    intro C hP hN
    simp only [Try.f102] at hN ⊢
    repeat' (first
      | with_reducible refine WP.seq ?_
      | (with_reducible ((first | refine WP.region (hn := []) ?_ | refine xC_intro (cb) ?_ | refine WP.cond' ?_); simp -implicitDefEqProofs (maxSteps := 2000000) [hP, hN, h1, h2, hbl]))
      | (with_reducible ((first | refine WP.draw (hn := []) (by rw [hP]; kernel_rfl) (by kernel_rfl) ?_ | refine yC_intro (cb) ?_); simp -implicitDefEqProofs (maxSteps := 2000000) [hP, hN, h1, h2, hbl]; (try refine ⟨by kernel_rfl, ?_⟩)))
      | (with_reducible refine xB_split (by simp [h1, h2, hbl]) (fun hgd => ?_) (fun hgd => ?_) <;> first | (exfalso; simp at hgd; done) | (exfalso; simp at hgd; omega) | simp -implicitDefEqProofs (maxSteps := 2000000) [hP, hN, h1, h2, hbl])
      | (with_reducible refine yB_split (by simp [h1, h2, hbl]) (fun hgd => ?_) (fun hgd => ?_) <;> first | (exfalso; simp at hgd; done) | (exfalso; simp at hgd; omega) | (simp -implicitDefEqProofs (maxSteps := 2000000) [hP, hN, h1, h2, hbl] <;> (try refine ⟨by kernel_rfl, ?_⟩)))
      | with_reducible refine xTwo_intro ?_ ?_
      | (with_reducible refine xCond_split (fun hcd => ?_) (fun hcd => ?_) <;> (try (exfalso; clear hP hN; simp_all; done)) <;> (try (exfalso; simp at *; omega)))
      | with_reducible refine WP.block ?_
      | (with_reducible ((first | refine WP.skip ?_ | refine WP.exit ?_ | refine WP.ret ?_); simp [h1, h2, hbl])))
  have hlt : k < t.cells.length := by omega
  have hltB : k < (boxesL t).length := by omega
  generalize hc : t.cells[k] = c at *
  have hci : t.cells[k]? = some c := by rw [List.getElem?_eq_getElem hlt, hc]
  have cl := d116 c
  cases hlf : leafB c with
  | false =>
    have hno : nbL t k = [] := by simp [nbL, nbOk, leafN, hci, hlf]
    rw [hno]
    rw [hlf] at cl
    refine detP_of Try.func102 rfl (by kernel_rfl) (by simp [Try.f102]) rfl ?_
    intro C hP hN
    simp only [Try.f102] at hN ⊢
    repeat' (first
      | with_reducible refine WP.seq ?_
      | (with_reducible ((first | refine WP.region (hn := []) ?_ | refine xC_intro (cb) ?_ | refine xC_intro (cl) ?_ | refine WP.cond' ?_); simp -implicitDefEqProofs (maxSteps := 2000000) [hP, hN, h1, h2, hbl, hlt, hltB, hci, hc]))
      | (with_reducible ((first | refine WP.draw (hn := []) (by rw [hP]; kernel_rfl) (by kernel_rfl) ?_ | refine yC_intro (cb) ?_ | refine yC_intro (cl) ?_); simp -implicitDefEqProofs (maxSteps := 2000000) [hP, hN, h1, h2, hbl, hlt, hltB, hci, hc]; (try refine ⟨by kernel_rfl, ?_⟩)))
      | (with_reducible refine xB_split (by simp [h1, h2, hbl, hlt, hltB, hci, hc]) (fun hgd => ?_) (fun hgd => ?_) <;> first | (exfalso; simp at hgd; done) | (exfalso; simp at hgd; omega) | simp -implicitDefEqProofs (maxSteps := 2000000) [hP, hN, h1, h2, hbl, hlt, hltB, hci, hc])
      | (with_reducible refine yB_split (by simp [h1, h2, hbl, hlt, hltB, hci, hc]) (fun hgd => ?_) (fun hgd => ?_) <;> first | (exfalso; simp at hgd; done) | (exfalso; simp at hgd; omega) | (simp -implicitDefEqProofs (maxSteps := 2000000) [hP, hN, h1, h2, hbl, hlt, hltB, hci, hc] <;> (try refine ⟨by kernel_rfl, ?_⟩)))
      | with_reducible refine xTwo_intro ?_ ?_
      | (with_reducible refine xCond_split (fun hcd => ?_) (fun hcd => ?_) <;> (try (exfalso; clear hP hN; simp_all; done)) <;> (try (exfalso; simp at *; omega)))
      | with_reducible refine WP.block ?_
      | (with_reducible ((first | refine WP.skip ?_ | refine WP.exit ?_ | refine WP.ret ?_); simp [h1, h2, hbl, hlt, hltB, hci, hc])))
  | true =>
  rw [hlf] at cl
  have hln : leafN t k = true := by simp [leafN, hci, hlf]
  have hL : nbL t k = nbN t k t.cells.length := by simp [nbL, nbOk, hln, boxOk, hv, hlt, nbN, leavesL]
  obtain ⟨k1, k2, _⟩ := boxAt_ok hv (c := (k : Int)) hlt
  have k1' : (boxesL t)[k]? = some (boxAt t k) := k1
  have k3 := get_of k1' hltB
  rw [hL]
  refine detP_of Try.func102 rfl (by kernel_rfl) (by simp [Try.f102]) rfl ?_
  intro C hP hN
  simp only [Try.f102] at hN ⊢
  repeat' (first
    | with_reducible refine WP.seq ?_
    | (with_reducible ((first | refine WP.region (hn := [7]) ?_ | refine xC_intro (cb) ?_ | refine xC_intro (cl) ?_ | refine WP.cond' ?_); simp -implicitDefEqProofs (maxSteps := 2000000) [hP, hN, h1, h2, hbl, hlt, hltB, hci, hc]))
    | (with_reducible ((first | refine WP.draw (hn := [7]) (by rw [hP]; kernel_rfl) (by kernel_rfl) ?_ | refine yC_intro (cb) ?_ | refine yC_intro (cl) ?_); simp -implicitDefEqProofs (maxSteps := 2000000) [hP, hN, h1, h2, hbl, hlt, hltB, hci, hc]; (try refine ⟨by kernel_rfl, ?_⟩)))
    | (with_reducible refine xB_split (by simp [h1, h2, hbl, hlt, hltB, hci, hc]) (fun hgd => ?_) (fun hgd => ?_) <;> first | (exfalso; simp at hgd; done) | (exfalso; simp at hgd; omega) | simp -implicitDefEqProofs (maxSteps := 2000000) [hP, hN, h1, h2, hbl, hlt, hltB, hci, hc])
    | (with_reducible refine yB_split (by simp [h1, h2, hbl, hlt, hltB, hci, hc]) (fun hgd => ?_) (fun hgd => ?_) <;> first | (exfalso; simp at hgd; done) | (exfalso; simp at hgd; omega) | (simp -implicitDefEqProofs (maxSteps := 2000000) [hP, hN, h1, h2, hbl, hlt, hltB, hci, hc] <;> (try refine ⟨by kernel_rfl, ?_⟩)))
    | with_reducible refine xTwo_intro ?_ ?_
    | (with_reducible refine xCond_split (fun hcd => ?_) (fun hcd => ?_) <;> (try (exfalso; clear hP hN; simp_all; done)) <;> (try (exfalso; simp at *; omega)))
    | with_reducible refine WP.block ?_
    | (with_reducible ((first | refine WP.skip ?_ | refine WP.exit ?_ | refine WP.ret ?_); simp [h1, h2, hbl, hlt, hltB, hci, hc])))
  refine WP.loopN [] t.cells.length (fun i st => st.t 1 = .pv (Z k) ∧ st.t 2 = .ptr 2 0 ∧ st.t 5 = .pv (.sl ((boxesL t).map iv)) ∧ st.t 7 = .arr 7 (nbN t k i).length ∧ st.t 8 = .pv (Z i) ∧ st.h 2 = some (.box [.pv (iv t.root), .pv (.sl (t.cells.map encC))] true false) ∧ st.h 7 = some (.row 3 1 ((nbN t k i).map zN') 0)) (by simp [nbN, leavesN]) ?_
  rintro i st hi ⟨g1, g2, g5, g7, g8, hb2, hb7⟩
  have hle := nbN_len t k i
  by_cases hil : i < t.cells.length
  · have hw := wr_succ hil hl
    have hilB : i < (boxesL t).length := by omega
    clear cl hci hc hlf
    generalize hd : t.cells[i] = d at *
    have hdi : t.cells[i]? = some d := by rw [List.getElem?_eq_getElem hil, hd]
    obtain ⟨b1, b2, _⟩ := boxAt_ok hv (c := (i : Int)) hil
    have b1' : (boxesL t)[i]? = some (boxAt t i) := b1
    have b3 := get_of b1' hilB
    have cl := d116 d
    have cq := d55 (boxAt t k) (boxAt t i) (by omega) (by omega)
    rw [touchL_eq] at cq
    have hs := nbN_succ t k i
    have hln : leafN t i = leafB d := by simp [leafN, hdi]
    have hlp : nbP t k i = (decide (i ≠ k) && touchC (boxAt t (k : Int)) (boxAt t (i : Int))) := rfl
    rw [hln, hlp] at hs
    by_cases hek : i = k
    · have hek' : ((i : Int) != (k : Int)) = false := by simp [hek]
      rw [decide_eq_false (by simpa using hek), Bool.false_and, Bool.and_false, if_neg (by simp)] at hs
      repeat' (first
        | with_reducible refine WP.seq ?_
        | (with_reducible ((first | refine WP.region (hn := []) ?_ | refine WP.cond' ?_); simp -implicitDefEqProofs (maxSteps := 2000000) [hP, hN, g1, g2, g5, g7, g8, hb2, hb7, hil, hilB, hltB, hbl, hw, hdi, hd, hek']))
        | (with_reducible ((first | refine WP.draw (hn := []) (by rw [hP]; kernel_rfl) (by kernel_rfl) ?_); simp -implicitDefEqProofs (maxSteps := 2000000) [hP, hN, g1, g2, g5, g7, g8, hb2, hb7, hil, hilB, hltB, hbl, hw, hdi, hd, hek']; (try refine ⟨by kernel_rfl, ?_⟩)))
        | (with_reducible refine xB_split (by simp [g1, g2, g5, g7, g8, hb2, hb7, hil, hilB, hltB, hbl, hw, hdi, hd, hek']) (fun hgd => ?_) (fun hgd => ?_) <;> first | (exfalso; simp at hgd; done) | (exfalso; simp at hgd; omega) | simp -implicitDefEqProofs (maxSteps := 2000000) [hP, hN, g1, g2, g5, g7, g8, hb2, hb7, hil, hilB, hltB, hbl, hw, hdi, hd, hek'])
        | (with_reducible refine yB_split (by simp [g1, g2, g5, g7, g8, hb2, hb7, hil, hilB, hltB, hbl, hw, hdi, hd, hek']) (fun hgd => ?_) (fun hgd => ?_) <;> first | (exfalso; simp at hgd; done) | (exfalso; simp at hgd; omega) | (simp -implicitDefEqProofs (maxSteps := 2000000) [hP, hN, g1, g2, g5, g7, g8, hb2, hb7, hil, hilB, hltB, hbl, hw, hdi, hd, hek'] <;> (try refine ⟨by kernel_rfl, ?_⟩)))
        | with_reducible refine xTwo_intro ?_ ?_
        | (with_reducible refine xCond_split (fun hcd => ?_) (fun hcd => ?_) <;> (try (exfalso; clear hP hN; simp_all; done)) <;> (try (exfalso; simp at *; omega)))
        | with_reducible refine WP.block ?_
        | (with_reducible ((first | refine WP.skip ?_ | refine WP.exit ?_ | refine WP.ret ?_); simp [g1, g2, g5, g7, g8, hb2, hb7, hil, hilB, hltB, hbl, hw, hdi, hd, hek'])))
      all_goals simp [hs]
    have hek' : ((i : Int) != (k : Int)) = true := by simp; omega
    rw [decide_eq_true hek, Bool.true_and] at hs
    cases hlf : leafB d with
    | false =>
      rw [hlf] at cl hs
      rw [Bool.false_and, if_neg (by simp)] at hs
      repeat' (first
        | with_reducible refine WP.seq ?_
        | (with_reducible ((first | refine WP.region (hn := []) ?_ | refine xC_intro (cl) ?_ | refine WP.cond' ?_); simp -implicitDefEqProofs (maxSteps := 2000000) [hP, hN, g1, g2, g5, g7, g8, hb2, hb7, hil, hilB, hltB, hbl, hw, hdi, hd, hek']))
        | (with_reducible ((first | refine WP.draw (hn := []) (by rw [hP]; kernel_rfl) (by kernel_rfl) ?_ | refine yC_intro (cl) ?_); simp -implicitDefEqProofs (maxSteps := 2000000) [hP, hN, g1, g2, g5, g7, g8, hb2, hb7, hil, hilB, hltB, hbl, hw, hdi, hd, hek']; (try refine ⟨by kernel_rfl, ?_⟩)))
        | (with_reducible refine xB_split (by simp [g1, g2, g5, g7, g8, hb2, hb7, hil, hilB, hltB, hbl, hw, hdi, hd, hek']) (fun hgd => ?_) (fun hgd => ?_) <;> first | (exfalso; simp at hgd; done) | (exfalso; simp at hgd; omega) | simp -implicitDefEqProofs (maxSteps := 2000000) [hP, hN, g1, g2, g5, g7, g8, hb2, hb7, hil, hilB, hltB, hbl, hw, hdi, hd, hek'])
        | (with_reducible refine yB_split (by simp [g1, g2, g5, g7, g8, hb2, hb7, hil, hilB, hltB, hbl, hw, hdi, hd, hek']) (fun hgd => ?_) (fun hgd => ?_) <;> first | (exfalso; simp at hgd; done) | (exfalso; simp at hgd; omega) | (simp -implicitDefEqProofs (maxSteps := 2000000) [hP, hN, g1, g2, g5, g7, g8, hb2, hb7, hil, hilB, hltB, hbl, hw, hdi, hd, hek'] <;> (try refine ⟨by kernel_rfl, ?_⟩)))
        | with_reducible refine xTwo_intro ?_ ?_
        | (with_reducible refine xCond_split (fun hcd => ?_) (fun hcd => ?_) <;> (try (exfalso; clear hP hN; simp_all; done)) <;> (try (exfalso; simp at *; omega)))
        | with_reducible refine WP.block ?_
        | (with_reducible ((first | refine WP.skip ?_ | refine WP.exit ?_ | refine WP.ret ?_); simp [g1, g2, g5, g7, g8, hb2, hb7, hil, hilB, hltB, hbl, hw, hdi, hd, hek'])))
      all_goals simp [hs]
    | true =>
      rw [hlf] at cl hs
      cases hp : touchC (boxAt t (k : Int)) (boxAt t (i : Int)) with
      | false =>
        rw [hp] at cq hs
        rw [Bool.and_false, if_neg (by simp)] at hs
        repeat' (first
          | with_reducible refine WP.seq ?_
          | (with_reducible ((first | refine WP.region (hn := []) ?_ | refine xC_intro (cl) ?_ | refine xC_intro (cq) ?_ | refine WP.cond' ?_); simp -implicitDefEqProofs (maxSteps := 2000000) [hP, hN, g1, g2, g5, g7, g8, hb2, hb7, hil, hilB, hltB, hbl, hw, hdi, hd, hek', b1', b3, k1', k3]))
          | (with_reducible ((first | refine WP.draw (hn := []) (by rw [hP]; kernel_rfl) (by kernel_rfl) ?_ | refine yC_intro (cl) ?_ | refine yC_intro (cq) ?_); simp -implicitDefEqProofs (maxSteps := 2000000) [hP, hN, g1, g2, g5, g7, g8, hb2, hb7, hil, hilB, hltB, hbl, hw, hdi, hd, hek', b1', b3, k1', k3]; (try refine ⟨by kernel_rfl, ?_⟩)))
          | (with_reducible refine xB_split (by simp [g1, g2, g5, g7, g8, hb2, hb7, hil, hilB, hltB, hbl, hw, hdi, hd, hek', b1', b3, k1', k3]) (fun hgd => ?_) (fun hgd => ?_) <;> first | (exfalso; simp at hgd; done) | (exfalso; simp at hgd; omega) | simp -implicitDefEqProofs (maxSteps := 2000000) [hP, hN, g1, g2, g5, g7, g8, hb2, hb7, hil, hilB, hltB, hbl, hw, hdi, hd, hek', b1', b3, k1', k3])
          | (with_reducible refine yB_split (by simp [g1, g2, g5, g7, g8, hb2, hb7, hil, hilB, hltB, hbl, hw, hdi, hd, hek', b1', b3, k1', k3]) (fun hgd => ?_) (fun hgd => ?_) <;> first | (exfalso; simp at hgd; done) | (exfalso; simp at hgd; omega) | (simp -implicitDefEqProofs (maxSteps := 2000000) [hP, hN, g1, g2, g5, g7, g8, hb2, hb7, hil, hilB, hltB, hbl, hw, hdi, hd, hek', b1', b3, k1', k3] <;> (try refine ⟨by kernel_rfl, ?_⟩)))
          | with_reducible refine xTwo_intro ?_ ?_
          | (with_reducible refine xCond_split (fun hcd => ?_) (fun hcd => ?_) <;> (try (exfalso; clear hP hN; simp_all; done)) <;> (try (exfalso; simp at *; omega)))
          | with_reducible refine WP.block ?_
          | (with_reducible ((first | refine WP.skip ?_ | refine WP.exit ?_ | refine WP.ret ?_); simp [g1, g2, g5, g7, g8, hb2, hb7, hil, hilB, hltB, hbl, hw, hdi, hd, hek', b1', b3, k1', k3])))
        all_goals simp [hs]
      | true =>
        rw [hp] at cq hs
        rw [Bool.and_self, if_pos rfl] at hs
        repeat' (first
          | with_reducible refine WP.seq ?_
          | (with_reducible ((first | refine WP.region (hn := []) ?_ | refine xC_intro (cl) ?_ | refine xC_intro (cq) ?_ | refine WP.cond' ?_); simp -implicitDefEqProofs (maxSteps := 2000000) [hP, hN, g1, g2, g5, g7, g8, hb2, hb7, hil, hilB, hltB, hbl, hw, hdi, hd, hek', b1', b3, k1', k3, show ((nbN t k i).length + 1) * 8 ≤ 140737488355328 by omega, show (nbN t k i).length + 1 ≤ 9223372036854775807 by omega]))
          | (with_reducible ((first | refine WP.draw (hn := []) (by rw [hP]; kernel_rfl) (by kernel_rfl) ?_ | refine yC_intro (cl) ?_ | refine yC_intro (cq) ?_); simp -implicitDefEqProofs (maxSteps := 2000000) [hP, hN, g1, g2, g5, g7, g8, hb2, hb7, hil, hilB, hltB, hbl, hw, hdi, hd, hek', b1', b3, k1', k3, show ((nbN t k i).length + 1) * 8 ≤ 140737488355328 by omega, show (nbN t k i).length + 1 ≤ 9223372036854775807 by omega]; (try refine ⟨by kernel_rfl, ?_⟩)))
          | (with_reducible refine xB_split (by simp [g1, g2, g5, g7, g8, hb2, hb7, hil, hilB, hltB, hbl, hw, hdi, hd, hek', b1', b3, k1', k3, show ((nbN t k i).length + 1) * 8 ≤ 140737488355328 by omega, show (nbN t k i).length + 1 ≤ 9223372036854775807 by omega]) (fun hgd => ?_) (fun hgd => ?_) <;> first | (exfalso; simp at hgd; done) | (exfalso; simp at hgd; omega) | simp -implicitDefEqProofs (maxSteps := 2000000) [hP, hN, g1, g2, g5, g7, g8, hb2, hb7, hil, hilB, hltB, hbl, hw, hdi, hd, hek', b1', b3, k1', k3, show ((nbN t k i).length + 1) * 8 ≤ 140737488355328 by omega, show (nbN t k i).length + 1 ≤ 9223372036854775807 by omega])
          | (with_reducible refine yB_split (by simp [g1, g2, g5, g7, g8, hb2, hb7, hil, hilB, hltB, hbl, hw, hdi, hd, hek', b1', b3, k1', k3, show ((nbN t k i).length + 1) * 8 ≤ 140737488355328 by omega, show (nbN t k i).length + 1 ≤ 9223372036854775807 by omega]) (fun hgd => ?_) (fun hgd => ?_) <;> first | (exfalso; simp at hgd; done) | (exfalso; simp at hgd; omega) | (simp -implicitDefEqProofs (maxSteps := 2000000) [hP, hN, g1, g2, g5, g7, g8, hb2, hb7, hil, hilB, hltB, hbl, hw, hdi, hd, hek', b1', b3, k1', k3, show ((nbN t k i).length + 1) * 8 ≤ 140737488355328 by omega, show (nbN t k i).length + 1 ≤ 9223372036854775807 by omega] <;> (try refine ⟨by kernel_rfl, ?_⟩)))
          | with_reducible refine xTwo_intro ?_ ?_
          | (with_reducible refine xCond_split (fun hcd => ?_) (fun hcd => ?_) <;> (try (exfalso; clear hP hN; simp_all; done)) <;> (try (exfalso; simp at *; omega)))
          | with_reducible refine WP.block ?_
          | (with_reducible ((first | refine WP.skip ?_ | refine WP.exit ?_ | refine WP.ret ?_); simp [g1, g2, g5, g7, g8, hb2, hb7, hil, hilB, hltB, hbl, hw, hdi, hd, hek', b1', b3, k1', k3, show ((nbN t k i).length + 1) * 8 ≤ 140737488355328 by omega, show (nbN t k i).length + 1 ≤ 9223372036854775807 by omega])))
        all_goals simp [hs]
  · have hi' : i = t.cells.length := by omega
    subst hi'
    repeat' (first
      | with_reducible refine WP.seq ?_
      | (with_reducible ((first | refine WP.region (hn := []) ?_ | refine WP.cond' ?_); simp -implicitDefEqProofs (maxSteps := 2000000) [hP, hN, g1, g2, g5, g7, g8, hb2, hb7, hil, hbl]))
      | (with_reducible ((first | refine WP.draw (hn := []) (by rw [hP]; kernel_rfl) (by kernel_rfl) ?_); simp -implicitDefEqProofs (maxSteps := 2000000) [hP, hN, g1, g2, g5, g7, g8, hb2, hb7, hil, hbl]; (try refine ⟨by kernel_rfl, ?_⟩)))
      | (with_reducible refine xB_split (by simp [g1, g2, g5, g7, g8, hb2, hb7, hil, hbl]) (fun hgd => ?_) (fun hgd => ?_) <;> first | (exfalso; simp at hgd; done) | (exfalso; simp at hgd; omega) | simp -implicitDefEqProofs (maxSteps := 2000000) [hP, hN, g1, g2, g5, g7, g8, hb2, hb7, hil, hbl])
      | (with_reducible refine yB_split (by simp [g1, g2, g5, g7, g8, hb2, hb7, hil, hbl]) (fun hgd => ?_) (fun hgd => ?_) <;> first | (exfalso; simp at hgd; done) | (exfalso; simp at hgd; omega) | (simp -implicitDefEqProofs (maxSteps := 2000000) [hP, hN, g1, g2, g5, g7, g8, hb2, hb7, hil, hbl] <;> (try refine ⟨by kernel_rfl, ?_⟩)))
      | with_reducible refine xTwo_intro ?_ ?_
      | (with_reducible refine xCond_split (fun hcd => ?_) (fun hcd => ?_) <;> (try (exfalso; clear hP hN; simp_all; done)) <;> (try (exfalso; simp at *; omega)))
      | with_reducible refine WP.block ?_
      | (with_reducible ((first | refine WP.skip ?_ | refine WP.exit ?_ | refine WP.ret ?_); simp [g1, g2, g5, g7, g8, hb2, hb7, hil, hbl])))
theorem sameInts (xs : List (Int)) (ys : List (Int)) (hl : xs.length ≤ 9223372036854775807) (hm : ys.length ≤ 9223372036854775807) : DetH Try.prog 33 [.pv (zs xs), .pv (zs ys)] [] [] (.pv (B (sameX xs ys))) := by
  refine detP_of Try.func33 rfl (by kernel_rfl) (by simp [Try.f33]) rfl ?_
  intro C hP hN
  simp only [Try.f33] at hN ⊢
  by_cases he : xs.length = ys.length
  · skip
    repeat' (first
      | with_reducible refine WP.seq ?_
      | (with_reducible ((first | refine WP.region (hn := []) ?_ | refine WP.cond' ?_); simp -implicitDefEqProofs (maxSteps := 2000000) [hP, hN, he]))
      | (with_reducible ((first | refine WP.draw (hn := []) (by rw [hP]; kernel_rfl) (by kernel_rfl) ?_); simp -implicitDefEqProofs (maxSteps := 2000000) [hP, hN, he]; (try refine ⟨by kernel_rfl, ?_⟩)))
      | (with_reducible refine xB_split (by simp [he]) (fun hgd => ?_) (fun hgd => ?_) <;> first | (exfalso; simp at hgd; done) | (exfalso; simp at hgd; omega) | simp -implicitDefEqProofs (maxSteps := 2000000) [hP, hN, he])
      | (with_reducible refine yB_split (by simp [he]) (fun hgd => ?_) (fun hgd => ?_) <;> first | (exfalso; simp at hgd; done) | (exfalso; simp at hgd; omega) | (simp -implicitDefEqProofs (maxSteps := 2000000) [hP, hN, he] <;> (try refine ⟨by kernel_rfl, ?_⟩)))
      | with_reducible refine xTwo_intro ?_ ?_
      | (with_reducible refine xCond_split (fun hcd => ?_) (fun hcd => ?_) <;> (try (exfalso; clear hP hN; simp_all; done)) <;> (try (exfalso; simp at *; omega)))
      | with_reducible refine WP.block ?_
      | (with_reducible ((first | refine WP.skip ?_ | refine WP.exit ?_ | refine WP.ret ?_); simp [he])))
    refine WP.loopN [] xs.length (fun i st => st.t 0 = .pv (zs xs) ∧ st.t 1 = .pv (zs ys) ∧ st.t 5 = .pv (Z i) ∧ allZt eqB xs ys i = true) (by simp [allZt]) ?_
    rintro i st hi ⟨h0, h1, h2, hq⟩
    by_cases hlt : i < xs.length
    · have hw := wr_succ hlt hl
      have hlt' : i < ys.length := by omega
      have hF : eqB xs[i] ys[i] = false → allZ eqB xs ys = false := allZ_false hlt hlt'
      have hS : eqB xs[i] ys[i] = true → allZt eqB xs ys (i + 1) = true := allZ_step hlt hlt' hq
      repeat' (first
        | with_reducible refine WP.seq ?_
        | (with_reducible ((first | refine WP.region (hn := []) ?_ | refine WP.cond' ?_); simp -implicitDefEqProofs (maxSteps := 2000000) [hP, hN, h0, h1, h2, hlt, hlt', hw]))
        | (with_reducible ((first | refine WP.draw (hn := []) (by rw [hP]; kernel_rfl) (by kernel_rfl) ?_); simp -implicitDefEqProofs (maxSteps := 2000000) [hP, hN, h0, h1, h2, hlt, hlt', hw]; (try refine ⟨by kernel_rfl, ?_⟩)))
        | (with_reducible refine xB_split (by simp [h0, h1, h2, hlt, hlt', hw]) (fun hgd => ?_) (fun hgd => ?_) <;> first | (exfalso; simp at hgd; done) | (exfalso; simp at hgd; omega) | simp -implicitDefEqProofs (maxSteps := 2000000) [hP, hN, h0, h1, h2, hlt, hlt', hw])
        | (with_reducible refine yB_split (by simp [h0, h1, h2, hlt, hlt', hw]) (fun hgd => ?_) (fun hgd => ?_) <;> first | (exfalso; simp at hgd; done) | (exfalso; simp at hgd; omega) | (simp -implicitDefEqProofs (maxSteps := 2000000) [hP, hN, h0, h1, h2, hlt, hlt', hw] <;> (try refine ⟨by kernel_rfl, ?_⟩)))
        | with_reducible refine xTwo_intro ?_ ?_
        | (with_reducible refine xCond_split (fun hcd => ?_) (fun hcd => ?_) <;> (try (exfalso; clear hP hN; simp_all; done)) <;> (try (exfalso; simp at *; omega)))
        | with_reducible refine WP.block ?_
        | (with_reducible ((first | refine WP.skip ?_ | refine WP.exit ?_ | refine WP.ret ?_); simp [h0, h1, h2, hlt, hlt', hw])))
      all_goals first | (rw [sameX, hF (by simp only [eqB] <;> grind)]; simp; done) | (rw [hS (by simp only [eqB] <;> grind)]; done)
    · have hlt' : ¬ i < ys.length := by omega
      repeat' (first
        | with_reducible refine WP.seq ?_
        | (with_reducible ((first | refine WP.region (hn := []) ?_ | refine WP.cond' ?_); simp -implicitDefEqProofs (maxSteps := 2000000) [hP, hN, h0, h1, h2, hlt, hlt']))
        | (with_reducible ((first | refine WP.draw (hn := []) (by rw [hP]; kernel_rfl) (by kernel_rfl) ?_); simp -implicitDefEqProofs (maxSteps := 2000000) [hP, hN, h0, h1, h2, hlt, hlt']; (try refine ⟨by kernel_rfl, ?_⟩)))
        | (with_reducible refine xB_split (by simp [h0, h1, h2, hlt, hlt']) (fun hgd => ?_) (fun hgd => ?_) <;> first | (exfalso; simp at hgd; done) | (exfalso; simp at hgd; omega) | simp -implicitDefEqProofs (maxSteps := 2000000) [hP, hN, h0, h1, h2, hlt, hlt'])
        | (with_reducible refine yB_split (by simp [h0, h1, h2, hlt, hlt']) (fun hgd => ?_) (fun hgd => ?_) <;> first | (exfalso; simp at hgd; done) | (exfalso; simp at hgd; omega) | (simp -implicitDefEqProofs (maxSteps := 2000000) [hP, hN, h0, h1, h2, hlt, hlt'] <;> (try refine ⟨by kernel_rfl, ?_⟩)))
        | with_reducible refine xTwo_intro ?_ ?_
        | (with_reducible refine xCond_split (fun hcd => ?_) (fun hcd => ?_) <;> (try (exfalso; clear hP hN; simp_all; done)) <;> (try (exfalso; simp at *; omega)))
        | with_reducible refine WP.block ?_
        | (with_reducible ((first | refine WP.skip ?_ | refine WP.exit ?_ | refine WP.ret ?_); simp [h0, h1, h2, hlt, hlt'])))
      all_goals simp [sameX, he, allZ_done hlt hq]
  · skip
    repeat' (first
      | with_reducible refine WP.seq ?_
      | (with_reducible ((first | refine WP.region (hn := []) ?_ | refine WP.cond' ?_); simp -implicitDefEqProofs (maxSteps := 2000000) [hP, hN, he]))
      | (with_reducible ((first | refine WP.draw (hn := []) (by rw [hP]; kernel_rfl) (by kernel_rfl) ?_); simp -implicitDefEqProofs (maxSteps := 2000000) [hP, hN, he]; (try refine ⟨by kernel_rfl, ?_⟩)))
      | (with_reducible refine xB_split (by simp [he]) (fun hgd => ?_) (fun hgd => ?_) <;> first | (exfalso; simp at hgd; done) | (exfalso; simp at hgd; omega) | simp -implicitDefEqProofs (maxSteps := 2000000) [hP, hN, he])
      | (with_reducible refine yB_split (by simp [he]) (fun hgd => ?_) (fun hgd => ?_) <;> first | (exfalso; simp at hgd; done) | (exfalso; simp at hgd; omega) | (simp -implicitDefEqProofs (maxSteps := 2000000) [hP, hN, he] <;> (try refine ⟨by kernel_rfl, ?_⟩)))
      | with_reducible refine xTwo_intro ?_ ?_
      | (with_reducible refine xCond_split (fun hcd => ?_) (fun hcd => ?_) <;> (try (exfalso; clear hP hN; simp_all; done)) <;> (try (exfalso; simp at *; omega)))
      | with_reducible refine WP.block ?_
      | (with_reducible ((first | refine WP.skip ?_ | refine WP.exit ?_ | refine WP.ret ?_); simp [he])))
    all_goals simp [sameX, he]
theorem sameX_dec {α : Type} [DecidableEq α] (xs ys : List α) : sameX xs ys = decide (xs = ys) := by
  unfold sameX
  by_cases h : xs.length = ys.length
  · simp [h, allZ_eq h]
  · have : xs ≠ ys := fun e => h (by rw [e])
    simp [h, this]
abbrev nsS (l : List Nat) : PV := .sl (l.map zN')
theorem nsS_eq (l : List Nat) : nsS l = zs (l.map Int.ofNat) := by simp [nsS, zs, zN', Function.comp_def]
theorem d33 (xs ys : List Nat) (hl : xs.length ≤ 9223372036854775807) (hm : ys.length ≤ 9223372036854775807) : DetH Try.prog 33 [.pv (nsS xs), .pv (nsS ys)] [] [] (.pv (B (decide (xs = ys)))) := by
  have h := sameInts (xs.map Int.ofNat) (ys.map Int.ofNat) (by simpa using hl) (by simpa using hm)
  rw [sameX_dec] at h
  rw [nsS_eq, nsS_eq]
  have e : decide (xs.map Int.ofNat = ys.map Int.ofNat) = decide (xs = ys) := by
    have : (xs.map Int.ofNat = ys.map Int.ofNat) ↔ xs = ys := by
      constructor
      · intro h
        have h2 := congrArg (List.map Int.toNat) h
        simpa [Function.comp_def] using h2
      · exact fun h => by rw [h]
    simp [this]
  rw [e] at h
  exact h
/-! inside, has -/
def insideI (x : Int × Int) (c : Int) : Bool := decide (x.1 < c) && decide (c < x.2)
def insideL (b : Bx) (q : List Int) : Bool := allZ insideI b q
theorem d31 (xs : List (Int × Int)) (ys : List Int) (he : xs.length = ys.length) (hl : xs.length ≤ 9223372036854775807) : DetH Try.prog 31 [.pv (iv xs), .pv (zs ys)] [] [] (.pv (B (insideL xs ys))) := by
  refine detP_of Try.func31 rfl (by kernel_rfl) (by simp [Try.f31]) rfl ?_
  intro C hP hN
  simp only [Try.f31] at hN ⊢
  repeat' (first
    | with_reducible refine WP.seq ?_
    | (with_reducible ((first | refine WP.region (hn := []) ?_ | refine WP.cond' ?_); simp -implicitDefEqProofs (maxSteps := 2000000) [hP, hN, he]))
    | (with_reducible ((first | refine WP.draw (hn := []) (by rw [hP]; kernel_rfl) (by kernel_rfl) ?_); simp -implicitDefEqProofs (maxSteps := 2000000) [hP, hN, he]; (try refine ⟨by kernel_rfl, ?_⟩)))
    | (with_reducible refine xB_split (by simp [he]) (fun hgd => ?_) (fun hgd => ?_) <;> first | (exfalso; simp at hgd; done) | (exfalso; simp at hgd; omega) | simp -implicitDefEqProofs (maxSteps := 2000000) [hP, hN, he])
    | (with_reducible refine yB_split (by simp [he]) (fun hgd => ?_) (fun hgd => ?_) <;> first | (exfalso; simp at hgd; done) | (exfalso; simp at hgd; omega) | (simp -implicitDefEqProofs (maxSteps := 2000000) [hP, hN, he] <;> (try refine ⟨by kernel_rfl, ?_⟩)))
    | with_reducible refine xTwo_intro ?_ ?_
    | (with_reducible refine xCond_split (fun hcd => ?_) (fun hcd => ?_) <;> (try (exfalso; clear hP hN; simp_all; done)) <;> (try (exfalso; simp at *; omega)))
    | with_reducible refine WP.block ?_
    | (with_reducible ((first | refine WP.skip ?_ | refine WP.exit ?_ | refine WP.ret ?_); simp [he])))
  refine WP.loopN [] xs.length (fun i st => st.t 0 = .pv (iv xs) ∧ st.t 1 = .pv (zs ys) ∧ st.t 5 = .pv (Z i) ∧ allZt insideI xs ys i = true) (by simp [allZt]) ?_
  rintro i st hi ⟨h0, h1, h2, hq⟩
  by_cases hlt : i < xs.length
  · have hw := wr_succ hlt hl
    have hlt' : i < ys.length := by omega
    have hF : insideI xs[i] ys[i] = false → allZ insideI xs ys = false := allZ_false hlt hlt'
    have hS : insideI xs[i] ys[i] = true → allZt insideI xs ys (i + 1) = true := allZ_step hlt hlt' hq
    repeat' (first
      | with_reducible refine WP.seq ?_
      | (with_reducible ((first | refine WP.region (hn := []) ?_ | refine WP.cond' ?_); simp -implicitDefEqProofs (maxSteps := 2000000) [hP, hN, h0, h1, h2, hlt, hlt', hw]))
      | (with_reducible ((first | refine WP.draw (hn := []) (by rw [hP]; kernel_rfl) (by kernel_rfl) ?_); simp -implicitDefEqProofs (maxSteps := 2000000) [hP, hN, h0, h1, h2, hlt, hlt', hw]; (try refine ⟨by kernel_rfl, ?_⟩)))
      | (with_reducible refine xB_split (by simp [h0, h1, h2, hlt, hlt', hw]) (fun hgd => ?_) (fun hgd => ?_) <;> first | (exfalso; simp at hgd; done) | (exfalso; simp at hgd; omega) | simp -implicitDefEqProofs (maxSteps := 2000000) [hP, hN, h0, h1, h2, hlt, hlt', hw])
      | (with_reducible refine yB_split (by simp [h0, h1, h2, hlt, hlt', hw]) (fun hgd => ?_) (fun hgd => ?_) <;> first | (exfalso; simp at hgd; done) | (exfalso; simp at hgd; omega) | (simp -implicitDefEqProofs (maxSteps := 2000000) [hP, hN, h0, h1, h2, hlt, hlt', hw] <;> (try refine ⟨by kernel_rfl, ?_⟩)))
      | with_reducible refine xTwo_intro ?_ ?_
      | (with_reducible refine xCond_split (fun hcd => ?_) (fun hcd => ?_) <;> (try (exfalso; clear hP hN; simp_all; done)) <;> (try (exfalso; simp at *; omega)))
      | with_reducible refine WP.block ?_
      | (with_reducible ((first | refine WP.skip ?_ | refine WP.exit ?_ | refine WP.ret ?_); simp [h0, h1, h2, hlt, hlt', hw])))
    all_goals first | (rw [insideL, hF (by simp only [insideI] <;> grind)]; done) | (rw [hS (by simp only [insideI] <;> grind)]; done)
  · have hlt' : ¬ i < ys.length := by omega
    repeat' (first
      | with_reducible refine WP.seq ?_
      | (with_reducible ((first | refine WP.region (hn := []) ?_ | refine WP.cond' ?_); simp -implicitDefEqProofs (maxSteps := 2000000) [hP, hN, h0, h1, h2, hlt, hlt']))
      | (with_reducible ((first | refine WP.draw (hn := []) (by rw [hP]; kernel_rfl) (by kernel_rfl) ?_); simp -implicitDefEqProofs (maxSteps := 2000000) [hP, hN, h0, h1, h2, hlt, hlt']; (try refine ⟨by kernel_rfl, ?_⟩)))
      | (with_reducible refine xB_split (by simp [h0, h1, h2, hlt, hlt']) (fun hgd => ?_) (fun hgd => ?_) <;> first | (exfalso; simp at hgd; done) | (exfalso; simp at hgd; omega) | simp -implicitDefEqProofs (maxSteps := 2000000) [hP, hN, h0, h1, h2, hlt, hlt'])
      | (with_reducible refine yB_split (by simp [h0, h1, h2, hlt, hlt']) (fun hgd => ?_) (fun hgd => ?_) <;> first | (exfalso; simp at hgd; done) | (exfalso; simp at hgd; omega) | (simp -implicitDefEqProofs (maxSteps := 2000000) [hP, hN, h0, h1, h2, hlt, hlt'] <;> (try refine ⟨by kernel_rfl, ?_⟩)))
      | with_reducible refine xTwo_intro ?_ ?_
      | (with_reducible refine xCond_split (fun hcd => ?_) (fun hcd => ?_) <;> (try (exfalso; clear hP hN; simp_all; done)) <;> (try (exfalso; simp at *; omega)))
      | with_reducible refine WP.block ?_
      | (with_reducible ((first | refine WP.skip ?_ | refine WP.exit ?_ | refine WP.ret ?_); simp [h0, h1, h2, hlt, hlt'])))
    all_goals simp [insideL, allZ_done hlt hq]
theorem d43 (xs : List Nat) (k : Nat) (hl : xs.length ≤ 9223372036854775807) : DetH Try.prog 43 [.pv (nsS xs), .pv (Z k)] [] [] (.pv (B (decide (k ∈ xs)))) := by
  refine detP_of Try.func43 rfl (by kernel_rfl) (by simp [Try.f43]) rfl ?_
  intro C hP hN
  simp only [Try.f43] at hN ⊢
  repeat' (first
    | with_reducible refine WP.seq ?_
    | (with_reducible ((first | refine WP.region (hn := []) ?_ | refine WP.cond' ?_); simp -implicitDefEqProofs (maxSteps := 2000000) [hP, hN]))
    | (with_reducible ((first | refine WP.draw (hn := []) (by rw [hP]; kernel_rfl) (by kernel_rfl) ?_); simp -implicitDefEqProofs (maxSteps := 2000000) [hP, hN]; (try refine ⟨by kernel_rfl, ?_⟩)))
    | (with_reducible refine xB_split (by simp) (fun hgd => ?_) (fun hgd => ?_) <;> first | (exfalso; simp at hgd; done) | (exfalso; simp at hgd; omega) | simp -implicitDefEqProofs (maxSteps := 2000000) [hP, hN])
    | (with_reducible refine yB_split (by simp) (fun hgd => ?_) (fun hgd => ?_) <;> first | (exfalso; simp at hgd; done) | (exfalso; simp at hgd; omega) | (simp -implicitDefEqProofs (maxSteps := 2000000) [hP, hN] <;> (try refine ⟨by kernel_rfl, ?_⟩)))
    | with_reducible refine xTwo_intro ?_ ?_
    | (with_reducible refine xCond_split (fun hcd => ?_) (fun hcd => ?_) <;> (try (exfalso; clear hP hN; simp_all; done)) <;> (try (exfalso; simp at *; omega)))
    | with_reducible refine WP.block ?_
    | (with_reducible ((first | refine WP.skip ?_ | refine WP.exit ?_ | refine WP.ret ?_); simp)))
  refine WP.loopN [] xs.length (fun i st => st.t 0 = .pv (nsS xs) ∧ st.t 1 = .pv (Z k) ∧ st.t 5 = .pv (Z i) ∧ k ∉ xs.take i) (by simp) ?_
  rintro i st hi ⟨h0, h1, h2, hq⟩
  by_cases hlt : i < xs.length
  · have hw := wr_succ hlt hl
    by_cases hx : xs[i] = k
    · have hx' : ((xs[i] : Int) == (k : Int)) = true := by simp [hx]
      have hm : decide (k ∈ xs) = true := by
        simp only [decide_eq_true_eq]; rw [← hx]; exact List.getElem_mem hlt
      rw [hm]
      repeat' (first
        | with_reducible refine WP.seq ?_
        | (with_reducible ((first | refine WP.region (hn := []) ?_ | refine WP.cond' ?_); simp -implicitDefEqProofs (maxSteps := 2000000) [hP, hN, h0, h1, h2, hlt, hw, hx']))
        | (with_reducible ((first | refine WP.draw (hn := []) (by rw [hP]; kernel_rfl) (by kernel_rfl) ?_); simp -implicitDefEqProofs (maxSteps := 2000000) [hP, hN, h0, h1, h2, hlt, hw, hx']; (try refine ⟨by kernel_rfl, ?_⟩)))
        | (with_reducible refine xB_split (by simp [h0, h1, h2, hlt, hw, hx']) (fun hgd => ?_) (fun hgd => ?_) <;> first | (exfalso; simp at hgd; done) | (exfalso; simp at hgd; omega) | simp -implicitDefEqProofs (maxSteps := 2000000) [hP, hN, h0, h1, h2, hlt, hw, hx'])
        | (with_reducible refine yB_split (by simp [h0, h1, h2, hlt, hw, hx']) (fun hgd => ?_) (fun hgd => ?_) <;> first | (exfalso; simp at hgd; done) | (exfalso; simp at hgd; omega) | (simp -implicitDefEqProofs (maxSteps := 2000000) [hP, hN, h0, h1, h2, hlt, hw, hx'] <;> (try refine ⟨by kernel_rfl, ?_⟩)))
        | with_reducible refine xTwo_intro ?_ ?_
        | (with_reducible refine xCond_split (fun hcd => ?_) (fun hcd => ?_) <;> (try (exfalso; clear hP hN; simp_all; done)) <;> (try (exfalso; simp at *; omega)))
        | with_reducible refine WP.block ?_
        | (with_reducible ((first | refine WP.skip ?_ | refine WP.exit ?_ | refine WP.ret ?_); simp [h0, h1, h2, hlt, hw, hx'])))
    · have hx' : ((xs[i] : Int) == (k : Int)) = false := by simp; omega
      have hm : k ∉ xs.take (i + 1) := by
        rw [List.take_succ_eq_append_getElem hlt, List.mem_append]
        rintro (h | h)
        · exact hq h
        · simp at h; exact hx h.symm
      repeat' (first
        | with_reducible refine WP.seq ?_
        | (with_reducible ((first | refine WP.region (hn := []) ?_ | refine WP.cond' ?_); simp -implicitDefEqProofs (maxSteps := 2000000) [hP, hN, h0, h1, h2, hlt, hw, hx']))
        | (with_reducible ((first | refine WP.draw (hn := []) (by rw [hP]; kernel_rfl) (by kernel_rfl) ?_); simp -implicitDefEqProofs (maxSteps := 2000000) [hP, hN, h0, h1, h2, hlt, hw, hx']; (try refine ⟨by kernel_rfl, ?_⟩)))
        | (with_reducible refine xB_split (by simp [h0, h1, h2, hlt, hw, hx']) (fun hgd => ?_) (fun hgd => ?_) <;> first | (exfalso; simp at hgd; done) | (exfalso; simp at hgd; omega) | simp -implicitDefEqProofs (maxSteps := 2000000) [hP, hN, h0, h1, h2, hlt, hw, hx'])
        | (with_reducible refine yB_split (by simp [h0, h1, h2, hlt, hw, hx']) (fun hgd => ?_) (fun hgd => ?_) <;> first | (exfalso; simp at hgd; done) | (exfalso; simp at hgd; omega) | (simp -implicitDefEqProofs (maxSteps := 2000000) [hP, hN, h0, h1, h2, hlt, hw, hx'] <;> (try refine ⟨by kernel_rfl, ?_⟩)))
        | with_reducible refine xTwo_intro ?_ ?_
        | (with_reducible refine xCond_split (fun hcd => ?_) (fun hcd => ?_) <;> (try (exfalso; clear hP hN; simp_all; done)) <;> (try (exfalso; simp at *; omega)))
        | with_reducible refine WP.block ?_
        | (with_reducible ((first | refine WP.skip ?_ | refine WP.exit ?_ | refine WP.ret ?_); simp [h0, h1, h2, hlt, hw, hx'])))
      all_goals exact hm
  · have hi' : i = xs.length := by omega
    subst hi'
    rw [List.take_length] at hq
    have hm : decide (k ∈ xs) = false := by simpa using hq
    rw [hm]
    repeat' (first
      | with_reducible refine WP.seq ?_
      | (with_reducible ((first | refine WP.region (hn := []) ?_ | refine WP.cond' ?_); simp -implicitDefEqProofs (maxSteps := 2000000) [hP, hN, h0, h1, h2, hlt]))
      | (with_reducible ((first | refine WP.draw (hn := []) (by rw [hP]; kernel_rfl) (by kernel_rfl) ?_); simp -implicitDefEqProofs (maxSteps := 2000000) [hP, hN, h0, h1, h2, hlt]; (try refine ⟨by kernel_rfl, ?_⟩)))
      | (with_reducible refine xB_split (by simp [h0, h1, h2, hlt]) (fun hgd => ?_) (fun hgd => ?_) <;> first | (exfalso; simp at hgd; done) | (exfalso; simp at hgd; omega) | simp -implicitDefEqProofs (maxSteps := 2000000) [hP, hN, h0, h1, h2, hlt])
      | (with_reducible refine yB_split (by simp [h0, h1, h2, hlt]) (fun hgd => ?_) (fun hgd => ?_) <;> first | (exfalso; simp at hgd; done) | (exfalso; simp at hgd; omega) | (simp -implicitDefEqProofs (maxSteps := 2000000) [hP, hN, h0, h1, h2, hlt] <;> (try refine ⟨by kernel_rfl, ?_⟩)))
      | with_reducible refine xTwo_intro ?_ ?_
      | (with_reducible refine xCond_split (fun hcd => ?_) (fun hcd => ?_) <;> (try (exfalso; clear hP hN; simp_all; done)) <;> (try (exfalso; simp at *; omega)))
      | with_reducible refine WP.block ?_
      | (with_reducible ((first | refine WP.skip ?_ | refine WP.exit ?_ | refine WP.ret ?_); simp [h0, h1, h2, hlt])))
/-! the example -/
def exA : Tr := ⟨[(0, 8)], [leafC zeroV]⟩
def exT : Tr := ⟨[(0, 8)], [⟨0, 1, 2, zeroV⟩, leafC zeroV, leafC zeroV]⟩
theorem ex_new : newT [(0, 8)] = exA ∧ rootOk [(0, 8)] = true := ⟨by kernel_rfl, by decide +kernel⟩
theorem ex_split : splitT exA 0 0 = exT ∧ splitOk exA 0 0 = true := ⟨by kernel_rfl, by kernel_rfl⟩
theorem ex_look : validT exT = true ∧ homeR exT [4] = 1 ∧ homeOk exT [4] = true ∧ locL exT [4] = [1, 2] ∧ leavesL exT = [1, 2] := ⟨by kernel_rfl, by kernel_rfl, by kernel_rfl, by kernel_rfl, by kernel_rfl⟩
theorem ex_sm : TSm exA := ⟨by decide, by decide, by
  intro c hc
  simp [exA] at hc; subst hc
  exact ⟨by decide, by decide, by decide⟩⟩
set_option maxHeartbeats 4000000 in
theorem d20 : DetH Try.prog 20 [] [] [] (.pv (B true)) := by
  have c1 : DetH Try.prog 70 [.pv (.sl [I 0 8])] [] [] (.pv (.tup [encT exA, B true])) := by
    have := d70 [(0, 8)] (by decide)
    rw [ex_new.1, ex_new.2] at this; exact this
  have c2 := d38 exA 0 0 ex_sm
  rw [ex_split.1, ex_split.2] at c2
  obtain ⟨e1, e2, e3, e4, e5⟩ := ex_look
  have c3 : DetH Try.prog 32 [.pv (encT exT), .pv (.sl [Z 4])] [] [] (.pv (.tup [Z 1, B true])) := by
    have := d32 exT [4] (by decide) (by decide)
    rw [e2, e3] at this; exact this
  have c4 := d24 exT (by decide)
  rw [e1] at c4
  have c5 : DetH Try.prog 34 [.pv (encT exT), .pv (.sl [Z 4])] [] [] (.pv (.sl [Z 1, Z 2])) := by
    have := d34 exT [4] (by decide)
    rw [e4] at this; exact this
  have c6 : DetH Try.prog 27 [.pv (encT exT)] [] [] (.pv (.sl [Z 1, Z 2])) := by
    have := d27 exT (by decide)
    rw [e5] at this; exact this
  have c7 : DetH Try.prog 33 [.pv (.sl [Z 1, Z 2]), .pv (.sl [Z 1, Z 2])] [] [] (.pv (B true)) := by
    have := d33 [1, 2] [1, 2] (by decide) (by decide)
    exact this
  generalize exT = T2 at *
  generalize exA = T1 at *
  refine detP_of Try.func20 rfl (by kernel_rfl) (by simp [Try.f20]) rfl ?_
  intro C hP hN
  simp only [Try.f20] at hN ⊢
  repeat' (first
    | with_reducible refine WP.seq ?_
    | (with_reducible ((first | refine WP.region (hn := []) ?_ | refine xC_intro (c1) ?_ | refine xC_intro (c2) ?_ | refine xC_intro (c3) ?_ | refine xC_intro (c4) ?_ | refine xC_intro (c5) ?_ | refine xC_intro (c6) ?_ | refine xC_intro (c7) ?_ | refine WP.cond' ?_); simp -implicitDefEqProofs (maxSteps := 2000000) [hP, hN]))
    | (with_reducible ((first | refine WP.draw (hn := []) (by rw [hP]; kernel_rfl) (by kernel_rfl) ?_ | refine yC_intro (c1) ?_ | refine yC_intro (c2) ?_ | refine yC_intro (c3) ?_ | refine yC_intro (c4) ?_ | refine yC_intro (c5) ?_ | refine yC_intro (c6) ?_ | refine yC_intro (c7) ?_); simp -implicitDefEqProofs (maxSteps := 2000000) [hP, hN]; (try refine ⟨by kernel_rfl, ?_⟩)))
    | (with_reducible refine xB_split (by simp) (fun hgd => ?_) (fun hgd => ?_) <;> first | (exfalso; simp at hgd; done) | (exfalso; simp at hgd; omega) | simp -implicitDefEqProofs (maxSteps := 2000000) [hP, hN])
    | (with_reducible refine yB_split (by simp) (fun hgd => ?_) (fun hgd => ?_) <;> first | (exfalso; simp at hgd; done) | (exfalso; simp at hgd; omega) | (simp -implicitDefEqProofs (maxSteps := 2000000) [hP, hN] <;> (try refine ⟨by kernel_rfl, ?_⟩)))
    | with_reducible refine xTwo_intro ?_ ?_
    | (with_reducible refine xCond_split (fun hcd => ?_) (fun hcd => ?_) <;> (try (exfalso; clear hP hN; simp_all; done)) <;> (try (exfalso; simp at *; omega)))
    | with_reducible refine WP.block ?_
    | (with_reducible ((first | refine WP.skip ?_ | refine WP.exit ?_ | refine WP.ret ?_); simp)))
end Go.Ab
