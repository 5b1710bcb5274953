/- Tr7: as one text. -/
import Derived.Test.YtagmnknighofeaaTrE
import Derived.Test.YtagmnknighofeaaTrA
set_option linter.all false
/- Contracts: portals and chains. -/
namespace Go.Ab
open Go.Proofs
theorem d114 (xs : List (Int)) (hl : xs.length ≤ 16777216) : DetH Try.prog 114 [.pv (.sl (xs.map Z))] [] [] (.pv (.sl (xs.map Z))) := by
  by_cases hx : xs = []
  · subst hx
    refine detP_of Try.func114 rfl (by kernel_rfl) (by simp [Try.f114]) rfl ?_
    intro C hP hN
    simp only [Try.f114] at hN ⊢
    repeat' (first
      | with_reducible refine WP.seq ?_
      | (with_reducible ((first | refine WP.region (hn := [5]) ?_ | refine WP.cond' ?_); simp -implicitDefEqProofs (maxSteps := 2000000) [hP, hN]))
      | (with_reducible ((first | refine WP.draw (hn := [5]) (by rw [hP]; kernel_rfl) (by kernel_rfl) ?_); simp -implicitDefEqProofs (maxSteps := 2000000) [hP, hN]; (try refine ⟨by kernel_rfl, ?_⟩)))
      | (with_reducible refine xB_split (by simp) (fun hgd => ?_) (fun hgd => ?_) <;> first | (exfalso; simp at hgd; done) | (exfalso; simp at hgd; omega) | simp -implicitDefEqProofs (maxSteps := 2000000) [hP, hN])
      | (with_reducible refine yB_split (by simp) (fun hgd => ?_) (fun hgd => ?_) <;> first | (exfalso; simp at hgd; done) | (exfalso; simp at hgd; omega) | (simp -implicitDefEqProofs (maxSteps := 2000000) [hP, hN] <;> (try refine ⟨by kernel_rfl, ?_⟩)))
      | with_reducible refine xTwo_intro ?_ ?_
      | (with_reducible refine xCond_split (fun hcd => ?_) (fun hcd => ?_) <;> (try (exfalso; clear hP hN; simp_all; done)) <;> (try (exfalso; simp at *; omega)))
      | with_reducible refine WP.block ?_
      | (with_reducible ((first | refine WP.skip ?_ | refine WP.exit ?_ | refine WP.ret ?_); simp)))
  · have hne : xs.isEmpty = false := by simp [hx]
    refine detP_of Try.func114 rfl (by kernel_rfl) (by simp [Try.f114]) rfl ?_
    intro C hP hN
    simp only [Try.f114] at hN ⊢
    repeat' (first
      | with_reducible refine WP.seq ?_
      | (with_reducible ((first | refine WP.region (hn := [5]) ?_ | refine WP.cond' ?_); simp -implicitDefEqProofs (maxSteps := 2000000) [hP, hN, hx, hne, show xs.length * 8 ≤ 140737488355328 by omega, show xs.length ≤ 9223372036854775807 by omega]))
      | (with_reducible ((first | refine WP.draw (hn := [5]) (by rw [hP]; kernel_rfl) (by kernel_rfl) ?_); simp -implicitDefEqProofs (maxSteps := 2000000) [hP, hN, hx, hne, show xs.length * 8 ≤ 140737488355328 by omega, show xs.length ≤ 9223372036854775807 by omega]; (try refine ⟨by kernel_rfl, ?_⟩)))
      | (with_reducible refine xB_split (by simp [hx, hne, show xs.length * 8 ≤ 140737488355328 by omega, show xs.length ≤ 9223372036854775807 by omega]) (fun hgd => ?_) (fun hgd => ?_) <;> first | (exfalso; simp at hgd; done) | (exfalso; simp at hgd; omega) | simp -implicitDefEqProofs (maxSteps := 2000000) [hP, hN, hx, hne, show xs.length * 8 ≤ 140737488355328 by omega, show xs.length ≤ 9223372036854775807 by omega])
      | (with_reducible refine yB_split (by simp [hx, hne, show xs.length * 8 ≤ 140737488355328 by omega, show xs.length ≤ 9223372036854775807 by omega]) (fun hgd => ?_) (fun hgd => ?_) <;> first | (exfalso; simp at hgd; done) | (exfalso; simp at hgd; omega) | (simp -implicitDefEqProofs (maxSteps := 2000000) [hP, hN, hx, hne, show xs.length * 8 ≤ 140737488355328 by omega, show xs.length ≤ 9223372036854775807 by omega] <;> (try refine ⟨by kernel_rfl, ?_⟩)))
      | with_reducible refine xTwo_intro ?_ ?_
      | (with_reducible refine xCond_split (fun hcd => ?_) (fun hcd => ?_) <;> (try (exfalso; clear hP hN; simp_all; done)) <;> (try (exfalso; simp at *; omega)))
      | with_reducible refine WP.block ?_
      | (with_reducible ((first | refine WP.skip ?_ | refine WP.exit ?_ | refine WP.ret ?_); simp [hx, hne, show xs.length * 8 ≤ 140737488355328 by omega, show xs.length ≤ 9223372036854775807 by omega])))
theorem d81 (xs : List (Int × Int)) (hl : xs.length ≤ 16777216) : DetH Try.prog 81 [.pv (.sl (xs.map encI))] [] [] (.pv (.sl (xs.map encI))) := by
  by_cases hx : xs = []
  · subst hx
    refine detP_of Try.func81 rfl (by kernel_rfl) (by simp [Try.f81]) rfl ?_
    intro C hP hN
    simp only [Try.f81] at hN ⊢
    repeat' (first
      | with_reducible refine WP.seq ?_
      | (with_reducible ((first | refine WP.region (hn := [5]) ?_ | refine WP.cond' ?_); simp -implicitDefEqProofs (maxSteps := 2000000) [hP, hN]))
      | (with_reducible ((first | refine WP.draw (hn := [5]) (by rw [hP]; kernel_rfl) (by kernel_rfl) ?_); simp -implicitDefEqProofs (maxSteps := 2000000) [hP, hN]; (try refine ⟨by kernel_rfl, ?_⟩)))
      | (with_reducible refine xB_split (by simp) (fun hgd => ?_) (fun hgd => ?_) <;> first | (exfalso; simp at hgd; done) | (exfalso; simp at hgd; omega) | simp -implicitDefEqProofs (maxSteps := 2000000) [hP, hN])
      | (with_reducible refine yB_split (by simp) (fun hgd => ?_) (fun hgd => ?_) <;> first | (exfalso; simp at hgd; done) | (exfalso; simp at hgd; omega) | (simp -implicitDefEqProofs (maxSteps := 2000000) [hP, hN] <;> (try refine ⟨by kernel_rfl, ?_⟩)))
      | with_reducible refine xTwo_intro ?_ ?_
      | (with_reducible refine xCond_split (fun hcd => ?_) (fun hcd => ?_) <;> (try (exfalso; clear hP hN; simp_all; done)) <;> (try (exfalso; simp at *; omega)))
      | with_reducible refine WP.block ?_
      | (with_reducible ((first | refine WP.skip ?_ | refine WP.exit ?_ | refine WP.ret ?_); simp)))
  · have hne : xs.isEmpty = false := by simp [hx]
    refine detP_of Try.func81 rfl (by kernel_rfl) (by simp [Try.f81]) rfl ?_
    intro C hP hN
    simp only [Try.f81] at hN ⊢
    repeat' (first
      | with_reducible refine WP.seq ?_
      | (with_reducible ((first | refine WP.region (hn := [5]) ?_ | refine WP.cond' ?_); simp -implicitDefEqProofs (maxSteps := 2000000) [hP, hN, hx, hne, show xs.length * 16 ≤ 140737488355328 by omega, show xs.length ≤ 9223372036854775807 by omega]))
      | (with_reducible ((first | refine WP.draw (hn := [5]) (by rw [hP]; kernel_rfl) (by kernel_rfl) ?_); simp -implicitDefEqProofs (maxSteps := 2000000) [hP, hN, hx, hne, show xs.length * 16 ≤ 140737488355328 by omega, show xs.length ≤ 9223372036854775807 by omega]; (try refine ⟨by kernel_rfl, ?_⟩)))
      | (with_reducible refine xB_split (by simp [hx, hne, show xs.length * 16 ≤ 140737488355328 by omega, show xs.length ≤ 9223372036854775807 by omega]) (fun hgd => ?_) (fun hgd => ?_) <;> first | (exfalso; simp at hgd; done) | (exfalso; simp at hgd; omega) | simp -implicitDefEqProofs (maxSteps := 2000000) [hP, hN, hx, hne, show xs.length * 16 ≤ 140737488355328 by omega, show xs.length ≤ 9223372036854775807 by omega])
      | (with_reducible refine yB_split (by simp [hx, hne, show xs.length * 16 ≤ 140737488355328 by omega, show xs.length ≤ 9223372036854775807 by omega]) (fun hgd => ?_) (fun hgd => ?_) <;> first | (exfalso; simp at hgd; done) | (exfalso; simp at hgd; omega) | (simp -implicitDefEqProofs (maxSteps := 2000000) [hP, hN, hx, hne, show xs.length * 16 ≤ 140737488355328 by omega, show xs.length ≤ 9223372036854775807 by omega] <;> (try refine ⟨by kernel_rfl, ?_⟩)))
      | with_reducible refine xTwo_intro ?_ ?_
      | (with_reducible refine xCond_split (fun hcd => ?_) (fun hcd => ?_) <;> (try (exfalso; clear hP hN; simp_all; done)) <;> (try (exfalso; simp at *; omega)))
      | with_reducible refine WP.block ?_
      | (with_reducible ((first | refine WP.skip ?_ | refine WP.exit ?_ | refine WP.ret ?_); simp [hx, hne, show xs.length * 16 ≤ 140737488355328 by omega, show xs.length ≤ 9223372036854775807 by omega])))
theorem d124 (x y : Int) : DetH Try.prog 124 [.pv (Z x), .pv (Z y)] [] [] (.pv (B (decide (x < y)))) := by
  refine detP_of Try.func124 rfl (by kernel_rfl) (by simp [Try.f124]) rfl ?_
  intro C hP hN
  simp only [Try.f124] at hN ⊢
  repeat' (first
    | with_reducible refine WP.seq ?_
    | (with_reducible ((first | refine WP.region (hn := []) ?_ | refine WP.cond' ?_); simp -implicitDefEqProofs (maxSteps := 2000000) [hP, hN]))
    | (with_reducible ((first | refine WP.draw (hn := []) (by rw [hP]; kernel_rfl) (by kernel_rfl) ?_); simp -implicitDefEqProofs (maxSteps := 2000000) [hP, hN]; (try refine ⟨by kernel_rfl, ?_⟩)))
    | (with_reducible refine xB_split (by simp) (fun hgd => ?_) (fun hgd => ?_) <;> first | (exfalso; simp at hgd; done) | (exfalso; simp at hgd; omega) | simp -implicitDefEqProofs (maxSteps := 2000000) [hP, hN])
    | (with_reducible refine yB_split (by simp) (fun hgd => ?_) (fun hgd => ?_) <;> first | (exfalso; simp at hgd; done) | (exfalso; simp at hgd; omega) | (simp -implicitDefEqProofs (maxSteps := 2000000) [hP, hN] <;> (try refine ⟨by kernel_rfl, ?_⟩)))
    | with_reducible refine xTwo_intro ?_ ?_
    | (with_reducible refine xCond_split (fun hcd => ?_) (fun hcd => ?_) <;> (try (exfalso; clear hP hN; simp_all; done)) <;> (try (exfalso; simp at *; omega)))
    | with_reducible refine WP.block ?_
    | (with_reducible ((first | refine WP.skip ?_ | refine WP.exit ?_ | refine WP.ret ?_); simp)))
  all_goals (first | (simp_all; done) | ((try simp_all) <;> (try omega) <;> grind))
theorem d125 (x y : Int) : DetH Try.prog 125 [.pv (Z x), .pv (Z y)] [] [] (.pv (B (decide (y < x)))) := by
  refine detP_of Try.func125 rfl (by kernel_rfl) (by simp [Try.f125]) rfl ?_
  intro C hP hN
  simp only [Try.f125] at hN ⊢
  repeat' (first
    | with_reducible refine WP.seq ?_
    | (with_reducible ((first | refine WP.region (hn := []) ?_ | refine WP.cond' ?_); simp -implicitDefEqProofs (maxSteps := 2000000) [hP, hN]))
    | (with_reducible ((first | refine WP.draw (hn := []) (by rw [hP]; kernel_rfl) (by kernel_rfl) ?_); simp -implicitDefEqProofs (maxSteps := 2000000) [hP, hN]; (try refine ⟨by kernel_rfl, ?_⟩)))
    | (with_reducible refine xB_split (by simp) (fun hgd => ?_) (fun hgd => ?_) <;> first | (exfalso; simp at hgd; done) | (exfalso; simp at hgd; omega) | simp -implicitDefEqProofs (maxSteps := 2000000) [hP, hN])
    | (with_reducible refine yB_split (by simp) (fun hgd => ?_) (fun hgd => ?_) <;> first | (exfalso; simp at hgd; done) | (exfalso; simp at hgd; omega) | (simp -implicitDefEqProofs (maxSteps := 2000000) [hP, hN] <;> (try refine ⟨by kernel_rfl, ?_⟩)))
    | with_reducible refine xTwo_intro ?_ ?_
    | (with_reducible refine xCond_split (fun hcd => ?_) (fun hcd => ?_) <;> (try (exfalso; clear hP hN; simp_all; done)) <;> (try (exfalso; simp at *; omega)))
    | with_reducible refine WP.block ?_
    | (with_reducible ((first | refine WP.skip ?_ | refine WP.exit ?_ | refine WP.ret ?_); simp)))
  all_goals (first | (simp_all; done) | ((try simp_all) <;> (try omega) <;> grind))
theorem laterMax (x y : Int) : DetH Try.prog 123 [.pv (Z x), .pv (Z y), .pv (Fv 124)] [] [] (.pv (Z (max x y))) := by
  refine detP_of Try.func123 rfl (by kernel_rfl) (by simp [Try.f123]) rfl ?_
  intro C hP hN
  simp only [Try.f123] at hN ⊢
  repeat' (first
    | with_reducible refine WP.seq ?_
    | (with_reducible ((first | refine WP.region (hn := []) ?_ | refine xC_intro (d124 _ _) ?_ | refine WP.cond' ?_); simp -implicitDefEqProofs (maxSteps := 2000000) [hP, hN]))
    | (with_reducible ((first | refine WP.draw (hn := []) (by rw [hP]; kernel_rfl) (by kernel_rfl) ?_ | refine yC_intro (d124 _ _) ?_); simp -implicitDefEqProofs (maxSteps := 2000000) [hP, hN]; (try refine ⟨by kernel_rfl, ?_⟩)))
    | (with_reducible refine xB_split (by simp) (fun hgd => ?_) (fun hgd => ?_) <;> first | (exfalso; simp at hgd; done) | (exfalso; simp at hgd; omega) | simp -implicitDefEqProofs (maxSteps := 2000000) [hP, hN])
    | (with_reducible refine yB_split (by simp) (fun hgd => ?_) (fun hgd => ?_) <;> first | (exfalso; simp at hgd; done) | (exfalso; simp at hgd; omega) | (simp -implicitDefEqProofs (maxSteps := 2000000) [hP, hN] <;> (try refine ⟨by kernel_rfl, ?_⟩)))
    | with_reducible refine xTwo_intro ?_ ?_
    | (with_reducible refine xCond_split (fun hcd => ?_) (fun hcd => ?_) <;> (try (exfalso; clear hP hN; simp_all; done)) <;> (try (exfalso; simp at *; omega)))
    | with_reducible refine WP.block ?_
    | (with_reducible ((first | refine WP.skip ?_ | refine WP.exit ?_ | refine WP.ret ?_); simp)))
  all_goals (simp_all; omega)
theorem laterMin (x y : Int) : DetH Try.prog 123 [.pv (Z x), .pv (Z y), .pv (Fv 125)] [] [] (.pv (Z (min x y))) := by
  refine detP_of Try.func123 rfl (by kernel_rfl) (by simp [Try.f123]) rfl ?_
  intro C hP hN
  simp only [Try.f123] at hN ⊢
  repeat' (first
    | with_reducible refine WP.seq ?_
    | (with_reducible ((first | refine WP.region (hn := []) ?_ | refine xC_intro (d125 _ _) ?_ | refine WP.cond' ?_); simp -implicitDefEqProofs (maxSteps := 2000000) [hP, hN]))
    | (with_reducible ((first | refine WP.draw (hn := []) (by rw [hP]; kernel_rfl) (by kernel_rfl) ?_ | refine yC_intro (d125 _ _) ?_); simp -implicitDefEqProofs (maxSteps := 2000000) [hP, hN]; (try refine ⟨by kernel_rfl, ?_⟩)))
    | (with_reducible refine xB_split (by simp) (fun hgd => ?_) (fun hgd => ?_) <;> first | (exfalso; simp at hgd; done) | (exfalso; simp at hgd; omega) | simp -implicitDefEqProofs (maxSteps := 2000000) [hP, hN])
    | (with_reducible refine yB_split (by simp) (fun hgd => ?_) (fun hgd => ?_) <;> first | (exfalso; simp at hgd; done) | (exfalso; simp at hgd; omega) | (simp -implicitDefEqProofs (maxSteps := 2000000) [hP, hN] <;> (try refine ⟨by kernel_rfl, ?_⟩)))
    | with_reducible refine xTwo_intro ?_ ?_
    | (with_reducible refine xCond_split (fun hcd => ?_) (fun hcd => ?_) <;> (try (exfalso; clear hP hN; simp_all; done)) <;> (try (exfalso; simp at *; omega)))
    | with_reducible refine WP.block ?_
    | (with_reducible ((first | refine WP.skip ?_ | refine WP.exit ?_ | refine WP.ret ?_); simp)))
  all_goals (simp_all; omega)
theorem portal_no {a b : Bx} {q : List Int} (h : portalOk a b q = false) : portalL a b q = [] := by simp [portalL, h]
set_option maxHeartbeats 8000000 in
theorem d54 (a b : Bx) (q : List Int) (hl : a.length ≤ 16777216) : DetH Try.prog 54 [.pv (iv a), .pv (iv b), .pv (zs q)] [] [] (.pv (.tup [zs (portalL a b q), B (portalOk a b q)])) := by
  have ct := d104 a b (big hl)
  cases ht : touchC a b with
  | false =>
    have hno : portalOk a b q = false := by simp [portalOk, ht]
    rw [portal_no hno, hno]
    rw [ht] at ct
    refine detP_of Try.func54 rfl (by kernel_rfl) (by simp [Try.f54]) rfl ?_
    intro C hP hN
    simp only [Try.f54] at hN ⊢
    repeat' (first
      | with_reducible refine WP.seq ?_
      | (with_reducible ((first | refine WP.region (hn := []) ?_ | refine xC_intro (ct) ?_ | refine WP.cond' ?_); simp -implicitDefEqProofs (maxSteps := 2000000) [hP, hN]))
      | (with_reducible ((first | refine WP.draw (hn := []) (by rw [hP]; kernel_rfl) (by kernel_rfl) ?_ | refine yC_intro (ct) ?_); simp -implicitDefEqProofs (maxSteps := 2000000) [hP, hN]; (try refine ⟨by kernel_rfl, ?_⟩)))
      | (with_reducible refine xB_split (by simp) (fun hgd => ?_) (fun hgd => ?_) <;> first | (exfalso; simp at hgd; done) | (exfalso; simp at hgd; omega) | simp -implicitDefEqProofs (maxSteps := 2000000) [hP, hN])
      | (with_reducible refine yB_split (by simp) (fun hgd => ?_) (fun hgd => ?_) <;> first | (exfalso; simp at hgd; done) | (exfalso; simp at hgd; omega) | (simp -implicitDefEqProofs (maxSteps := 2000000) [hP, hN] <;> (try refine ⟨by kernel_rfl, ?_⟩)))
      | with_reducible refine xTwo_intro ?_ ?_
      | (with_reducible refine xCond_split (fun hcd => ?_) (fun hcd => ?_) <;> (try (exfalso; clear hP hN; simp_all; done)) <;> (try (exfalso; simp at *; omega)))
      | with_reducible refine WP.block ?_
      | (with_reducible ((first | refine WP.skip ?_ | refine WP.exit ?_ | refine WP.ret ?_); simp)))
  | true =>
    rw [ht] at ct
    by_cases he : q.length = a.length
    · have he' : ((q.length : Int) != a.length) = false := by simp [he]
      have hyes : portalOk a b q = true := by simp [portalOk, ht, he]
      obtain ⟨hab, va, vb⟩ := touchC_valid ht
      have hcl := common_len hab
      have cc := d126 (commonL a b) q (by omega)
      have hr : portalL a b q = clampL (commonL a b) q := by simp [portalL, hyes]
      rw [hr, hyes]
      refine detP_of Try.func54 rfl (by kernel_rfl) (by simp [Try.f54]) rfl ?_
      intro C hP hN
      simp only [Try.f54] at hN ⊢
      repeat' (first
        | with_reducible refine WP.seq ?_
        | (with_reducible ((first | refine WP.region (hn := []) ?_ | refine xC_intro (ct) ?_ | refine WP.cond' ?_); simp -implicitDefEqProofs (maxSteps := 2000000) [hP, hN, he', show (16 : Int) * a.length ≤ 281474976710656 by omega, show (a.length : Int) ≤ 9223372036854775807 by omega]))
        | (with_reducible ((first | refine WP.draw (hn := []) (by rw [hP]; kernel_rfl) (by kernel_rfl) ?_ | refine yC_intro (ct) ?_); simp -implicitDefEqProofs (maxSteps := 2000000) [hP, hN, he', show (16 : Int) * a.length ≤ 281474976710656 by omega, show (a.length : Int) ≤ 9223372036854775807 by omega]; (try refine ⟨by kernel_rfl, ?_⟩)))
        | (with_reducible refine xB_split (by simp [he', show (16 : Int) * a.length ≤ 281474976710656 by omega, show (a.length : Int) ≤ 9223372036854775807 by omega]) (fun hgd => ?_) (fun hgd => ?_) <;> first | (exfalso; simp at hgd; done) | (exfalso; simp at hgd; omega) | simp -implicitDefEqProofs (maxSteps := 2000000) [hP, hN, he', show (16 : Int) * a.length ≤ 281474976710656 by omega, show (a.length : Int) ≤ 9223372036854775807 by omega])
        | (with_reducible refine yB_split (by simp [he', show (16 : Int) * a.length ≤ 281474976710656 by omega, show (a.length : Int) ≤ 9223372036854775807 by omega]) (fun hgd => ?_) (fun hgd => ?_) <;> first | (exfalso; simp at hgd; done) | (exfalso; simp at hgd; omega) | (simp -implicitDefEqProofs (maxSteps := 2000000) [hP, hN, he', show (16 : Int) * a.length ≤ 281474976710656 by omega, show (a.length : Int) ≤ 9223372036854775807 by omega] <;> (try refine ⟨by kernel_rfl, ?_⟩)))
        | with_reducible refine xTwo_intro ?_ ?_
        | (with_reducible refine xCond_split (fun hcd => ?_) (fun hcd => ?_) <;> (try (exfalso; clear hP hN; simp_all; done)) <;> (try (exfalso; simp at *; omega)))
        | with_reducible refine WP.block ?_
        | (with_reducible ((first | refine WP.skip ?_ | refine WP.exit ?_ | refine WP.ret ?_); simp [he', show (16 : Int) * a.length ≤ 281474976710656 by omega, show (a.length : Int) ≤ 9223372036854775807 by omega])))
      refine WP.loopN [9] a.length (fun i st => st.t 0 = .pv (iv a) ∧ st.t 1 = .pv (iv b) ∧ st.t 2 = .pv (zs q) ∧ st.t 6 = .ptr 6 0 ∧ st.t 7 = .ptr 7 0 ∧ st.t 8 = .arr 24 a.length ∧ st.t 26 = .pv (Z a.length) ∧ st.t 27 = .pv (Z i) ∧ st.h 9 = none ∧ st.h 63 = none ∧ st.h 6 = some (.box [.pv (.val (.slice none 0 0))] true false) ∧ st.h 7 = some (.box [.pv (B false)] true false) ∧
        ∃ L, st.h 24 = some (.row 46 2 L 0) ∧ L.length = a.length ∧ (∀ j, j < i → L[j]? = ((commonL a b).map encI)[j]?) ∧ (∀ j, i ≤ j → j < a.length → L[j]? = some (I 0 0))) (by simp [List.getElem?_replicate]) ?_
      rintro i st hi ⟨g0, g1, g2, g6, g7, g8, g26, g27, hb9, hb63, hb6, hb7, L, hL, hLl, hq, hz⟩
      have hT : L.length = ((commonL a b).map encI).length := by simp [hLl, hcl]
      by_cases hlt : i < a.length
      · have hw := wr_succ hlt (big hl)
        have hlb : i < b.length := by omega
        have hltL : i < L.length := by omega
        have hLi := hz i (Nat.le_refl _) hlt
        have hLi' := (List.getElem?_eq_some_iff.1 hLi).2
        have hv := upto_set hT hq (v := encI (comI a[i] b[i])) (by simp [commonL, List.getElem?_zipWith, hlt, hlb])
        repeat' (first
          | with_reducible refine WP.seq ?_
          | (with_reducible ((first | refine WP.region (hn := []) ?_ | refine xC_intro (laterMax _ _) ?_ | refine xC_intro (laterMin _ _) ?_ | refine WP.cond' ?_); simp -implicitDefEqProofs (maxSteps := 2000000) [hP, hN, g0, g1, g2, g6, g7, g8, g26, g27, hb9, hb63, hb6, hb7, hL, hLl, hlt, hlb, hltL, hw, hLi, hLi']))
          | (with_reducible ((first | refine WP.draw (hn := []) (by rw [hP]; kernel_rfl) (by kernel_rfl) ?_ | refine yC_intro (laterMax _ _) ?_ | refine yC_intro (laterMin _ _) ?_); simp -implicitDefEqProofs (maxSteps := 2000000) [hP, hN, g0, g1, g2, g6, g7, g8, g26, g27, hb9, hb63, hb6, hb7, hL, hLl, hlt, hlb, hltL, hw, hLi, hLi']; (try refine ⟨by kernel_rfl, ?_⟩)))
          | (with_reducible refine xB_split (by simp [g0, g1, g2, g6, g7, g8, g26, g27, hb9, hb63, hb6, hb7, hL, hLl, hlt, hlb, hltL, hw, hLi, hLi']) (fun hgd => ?_) (fun hgd => ?_) <;> first | (exfalso; simp at hgd; done) | (exfalso; simp at hgd; omega) | simp -implicitDefEqProofs (maxSteps := 2000000) [hP, hN, g0, g1, g2, g6, g7, g8, g26, g27, hb9, hb63, hb6, hb7, hL, hLl, hlt, hlb, hltL, hw, hLi, hLi'])
          | (with_reducible refine yB_split (by simp [g0, g1, g2, g6, g7, g8, g26, g27, hb9, hb63, hb6, hb7, hL, hLl, hlt, hlb, hltL, hw, hLi, hLi']) (fun hgd => ?_) (fun hgd => ?_) <;> first | (exfalso; simp at hgd; done) | (exfalso; simp at hgd; omega) | (simp -implicitDefEqProofs (maxSteps := 2000000) [hP, hN, g0, g1, g2, g6, g7, g8, g26, g27, hb9, hb63, hb6, hb7, hL, hLl, hlt, hlb, hltL, hw, hLi, hLi'] <;> (try refine ⟨by kernel_rfl, ?_⟩)))
          | with_reducible refine xTwo_intro ?_ ?_
          | (with_reducible refine xCond_split (fun hcd => ?_) (fun hcd => ?_) <;> (try (exfalso; clear hP hN; simp_all; done)) <;> (try (exfalso; simp at *; omega)))
          | with_reducible refine WP.block ?_
          | (with_reducible ((first | refine WP.skip ?_ | refine WP.exit ?_ | refine WP.ret ?_); simp [g0, g1, g2, g6, g7, g8, g26, g27, hb9, hb63, hb6, hb7, hL, hLl, hlt, hlb, hltL, hw, hLi, hLi'])))
        all_goals exact ⟨fun j hj => by simpa [comI] using hv j hj, fun j h1 h2 => by rw [List.getElem?_set_ne (by omega)]; exact hz j (by omega) h2⟩
      · have hfin := upto_all hT hq (by simp [hcl]; omega)
        subst hfin
        repeat' (first
          | with_reducible refine WP.seq ?_
          | (with_reducible ((first | refine WP.region (hn := []) ?_ | refine xC_intro (cc) ?_ | refine WP.cond' ?_); simp -implicitDefEqProofs (maxSteps := 2000000) [hP, hN, g0, g1, g2, g6, g7, g8, g26, g27, hb9, hb63, hb6, hb7, hL, hLl, hlt, hcl]))
          | (with_reducible ((first | refine WP.draw (hn := []) (by rw [hP]; kernel_rfl) (by kernel_rfl) ?_ | refine yC_intro (cc) ?_); simp -implicitDefEqProofs (maxSteps := 2000000) [hP, hN, g0, g1, g2, g6, g7, g8, g26, g27, hb9, hb63, hb6, hb7, hL, hLl, hlt, hcl]; (try refine ⟨by kernel_rfl, ?_⟩)))
          | (with_reducible refine xB_split (by simp [g0, g1, g2, g6, g7, g8, g26, g27, hb9, hb63, hb6, hb7, hL, hLl, hlt, hcl]) (fun hgd => ?_) (fun hgd => ?_) <;> first | (exfalso; simp at hgd; done) | (exfalso; simp at hgd; omega) | simp -implicitDefEqProofs (maxSteps := 2000000) [hP, hN, g0, g1, g2, g6, g7, g8, g26, g27, hb9, hb63, hb6, hb7, hL, hLl, hlt, hcl])
          | (with_reducible refine yB_split (by simp [g0, g1, g2, g6, g7, g8, g26, g27, hb9, hb63, hb6, hb7, hL, hLl, hlt, hcl]) (fun hgd => ?_) (fun hgd => ?_) <;> first | (exfalso; simp at hgd; done) | (exfalso; simp at hgd; omega) | (simp -implicitDefEqProofs (maxSteps := 2000000) [hP, hN, g0, g1, g2, g6, g7, g8, g26, g27, hb9, hb63, hb6, hb7, hL, hLl, hlt, hcl] <;> (try refine ⟨by kernel_rfl, ?_⟩)))
          | with_reducible refine xTwo_intro ?_ ?_
          | (with_reducible refine xCond_split (fun hcd => ?_) (fun hcd => ?_) <;> (try (exfalso; clear hP hN; simp_all; done)) <;> (try (exfalso; simp at *; omega)))
          | with_reducible refine WP.block ?_
          | (with_reducible ((first | refine WP.skip ?_ | refine WP.exit ?_ | refine WP.ret ?_); simp [g0, g1, g2, g6, g7, g8, g26, g27, hb9, hb63, hb6, hb7, hL, hLl, hlt, hcl])))
    · have he' : ((q.length : Int) != a.length) = true := by simp; omega
      have hno : portalOk a b q = false := by simp [portalOk, he]
      rw [portal_no hno, hno]
      refine detP_of Try.func54 rfl (by kernel_rfl) (by simp [Try.f54]) rfl ?_
      intro C hP hN
      simp only [Try.f54] at hN ⊢
      repeat' (first
        | with_reducible refine WP.seq ?_
        | (with_reducible ((first | refine WP.region (hn := []) ?_ | refine xC_intro (ct) ?_ | refine WP.cond' ?_); simp -implicitDefEqProofs (maxSteps := 2000000) [hP, hN, he']))
        | (with_reducible ((first | refine WP.draw (hn := []) (by rw [hP]; kernel_rfl) (by kernel_rfl) ?_ | refine yC_intro (ct) ?_); simp -implicitDefEqProofs (maxSteps := 2000000) [hP, hN, he']; (try refine ⟨by kernel_rfl, ?_⟩)))
        | (with_reducible refine xB_split (by simp [he']) (fun hgd => ?_) (fun hgd => ?_) <;> first | (exfalso; simp at hgd; done) | (exfalso; simp at hgd; omega) | simp -implicitDefEqProofs (maxSteps := 2000000) [hP, hN, he'])
        | (with_reducible refine yB_split (by simp [he']) (fun hgd => ?_) (fun hgd => ?_) <;> first | (exfalso; simp at hgd; done) | (exfalso; simp at hgd; omega) | (simp -implicitDefEqProofs (maxSteps := 2000000) [hP, hN, he'] <;> (try refine ⟨by kernel_rfl, ?_⟩)))
        | with_reducible refine xTwo_intro ?_ ?_
        | (with_reducible refine xCond_split (fun hcd => ?_) (fun hcd => ?_) <;> (try (exfalso; clear hP hN; simp_all; done)) <;> (try (exfalso; simp at *; omega)))
        | with_reducible refine WP.block ?_
        | (with_reducible ((first | refine WP.skip ?_ | refine WP.exit ?_ | refine WP.ret ?_); simp [he'])))
set_option maxHeartbeats 8000000 in
theorem d163 (a b : Bx) (q : List Int) (hl : a.length ≤ 16777216) (hm : b.length ≤ 16777216) : DetH Try.prog 163 [.pv (iv a), .pv (iv b), .pv (zs q)] [] [] (.pv (.tup [zs (portalL a b q), B (portalOk a b q)])) := by
  have ct := d55 a b (big hl) (big hm)
  rw [touchL_eq] at ct
  cases ht : touchC a b with
  | false =>
    have hno : portalOk a b q = false := by simp [portalOk, ht]
    rw [portal_no hno, hno]
    rw [ht] at ct
    refine detP_of Try.func163 rfl (by kernel_rfl) (by simp [Try.f163]) rfl ?_
    intro C hP hN
    simp only [Try.f163] at hN ⊢
    repeat' (first
      | with_reducible refine WP.seq ?_
      | (with_reducible ((first | refine WP.region (hn := []) ?_ | refine xC_intro (ct) ?_ | refine WP.cond' ?_); simp -implicitDefEqProofs (maxSteps := 2000000) [hP, hN]))
      | (with_reducible ((first | refine WP.draw (hn := []) (by rw [hP]; kernel_rfl) (by kernel_rfl) ?_ | refine yC_intro (ct) ?_); simp -implicitDefEqProofs (maxSteps := 2000000) [hP, hN]; (try refine ⟨by kernel_rfl, ?_⟩)))
      | (with_reducible refine xB_split (by simp) (fun hgd => ?_) (fun hgd => ?_) <;> first | (exfalso; simp at hgd; done) | (exfalso; simp at hgd; omega) | simp -implicitDefEqProofs (maxSteps := 2000000) [hP, hN])
      | (with_reducible refine yB_split (by simp) (fun hgd => ?_) (fun hgd => ?_) <;> first | (exfalso; simp at hgd; done) | (exfalso; simp at hgd; omega) | (simp -implicitDefEqProofs (maxSteps := 2000000) [hP, hN] <;> (try refine ⟨by kernel_rfl, ?_⟩)))
      | with_reducible refine xTwo_intro ?_ ?_
      | (with_reducible refine xCond_split (fun hcd => ?_) (fun hcd => ?_) <;> (try (exfalso; clear hP hN; simp_all; done)) <;> (try (exfalso; simp at *; omega)))
      | with_reducible refine WP.block ?_
      | (with_reducible ((first | refine WP.skip ?_ | refine WP.exit ?_ | refine WP.ret ?_); simp)))
  | true =>
    rw [ht] at ct
    by_cases he : q.length = a.length
    · have he' : ((q.length : Int) != a.length) = false := by simp [he]
      have hyes : portalOk a b q = true := by simp [portalOk, ht, he]
      obtain ⟨hab, va, vb⟩ := touchC_valid ht
      have hcl := common_len hab
      have cc := d45 (commonL a b) q (by omega)
      have hr : portalL a b q = clampL (commonL a b) q := by simp [portalL, hyes]
      rw [hr, hyes]
      refine detP_of Try.func163 rfl (by kernel_rfl) (by simp [Try.f163]) rfl ?_
      intro C hP hN
      simp only [Try.f163] at hN ⊢
      repeat' (first
        | with_reducible refine WP.seq ?_
        | (with_reducible ((first | refine WP.region (hn := [8]) ?_ | refine xC_intro (ct) ?_ | refine WP.cond' ?_); simp -implicitDefEqProofs (maxSteps := 2000000) [hP, hN, he']))
        | (with_reducible ((first | refine WP.draw (hn := [8]) (by rw [hP]; kernel_rfl) (by kernel_rfl) ?_ | refine yC_intro (ct) ?_); simp -implicitDefEqProofs (maxSteps := 2000000) [hP, hN, he']; (try refine ⟨by kernel_rfl, ?_⟩)))
        | (with_reducible refine xB_split (by simp [he']) (fun hgd => ?_) (fun hgd => ?_) <;> first | (exfalso; simp at hgd; done) | (exfalso; simp at hgd; omega) | simp -implicitDefEqProofs (maxSteps := 2000000) [hP, hN, he'])
        | (with_reducible refine yB_split (by simp [he']) (fun hgd => ?_) (fun hgd => ?_) <;> first | (exfalso; simp at hgd; done) | (exfalso; simp at hgd; omega) | (simp -implicitDefEqProofs (maxSteps := 2000000) [hP, hN, he'] <;> (try refine ⟨by kernel_rfl, ?_⟩)))
        | with_reducible refine xTwo_intro ?_ ?_
        | (with_reducible refine xCond_split (fun hcd => ?_) (fun hcd => ?_) <;> (try (exfalso; clear hP hN; simp_all; done)) <;> (try (exfalso; simp at *; omega)))
        | with_reducible refine WP.block ?_
        | (with_reducible ((first | refine WP.skip ?_ | refine WP.exit ?_ | refine WP.ret ?_); simp [he'])))
      refine WP.loopN [] a.length (fun i st => st.t 0 = .pv (iv a) ∧ st.t 1 = .pv (iv b) ∧ st.t 2 = .pv (zs q) ∧ st.t 8 = .arr 8 i ∧ st.t 9 = .pv (Z i) ∧ st.h 55 = none ∧ st.h 8 = some (.row 46 2 (((commonL a b).map encI).take i) 0)) (by simp) ?_
      rintro i st hi ⟨g0, g1, g2, g8, g9, hb55, hb8⟩
      have hzT : min i (commonL a b).length = i := by rw [hcl]; omega
      by_cases hlt : i < a.length
      · have hw := wr_succ hlt (big hl)
        have hlb : i < b.length := by omega
        have hs : ((commonL a b).map encI).take i ++ [encI (comI a[i] b[i])] = ((commonL a b).map encI).take (i + 1) := by
          rw [List.take_succ_eq_append_getElem (by simpa [hcl] using hlt)]; simp [commonL]
        repeat' (first
          | with_reducible refine WP.seq ?_
          | (with_reducible ((first | refine WP.region (hn := []) ?_ | refine WP.cond' ?_); simp -implicitDefEqProofs (maxSteps := 2000000) [hP, hN, g0, g1, g2, g8, g9, hb55, hb8, hlt, hlb, hw, hzT, show (i + 1) * 16 ≤ 140737488355328 by omega, show i + 1 ≤ 9223372036854775807 by omega]))
          | (with_reducible ((first | refine WP.draw (hn := []) (by rw [hP]; kernel_rfl) (by kernel_rfl) ?_); simp -implicitDefEqProofs (maxSteps := 2000000) [hP, hN, g0, g1, g2, g8, g9, hb55, hb8, hlt, hlb, hw, hzT, show (i + 1) * 16 ≤ 140737488355328 by omega, show i + 1 ≤ 9223372036854775807 by omega]; (try refine ⟨by kernel_rfl, ?_⟩)))
          | (with_reducible refine xB_split (by simp [g0, g1, g2, g8, g9, hb55, hb8, hlt, hlb, hw, hzT, show (i + 1) * 16 ≤ 140737488355328 by omega, show i + 1 ≤ 9223372036854775807 by omega]) (fun hgd => ?_) (fun hgd => ?_) <;> first | (exfalso; simp at hgd; done) | (exfalso; simp at hgd; omega) | simp -implicitDefEqProofs (maxSteps := 2000000) [hP, hN, g0, g1, g2, g8, g9, hb55, hb8, hlt, hlb, hw, hzT, show (i + 1) * 16 ≤ 140737488355328 by omega, show i + 1 ≤ 9223372036854775807 by omega])
          | (with_reducible refine yB_split (by simp [g0, g1, g2, g8, g9, hb55, hb8, hlt, hlb, hw, hzT, show (i + 1) * 16 ≤ 140737488355328 by omega, show i + 1 ≤ 9223372036854775807 by omega]) (fun hgd => ?_) (fun hgd => ?_) <;> first | (exfalso; simp at hgd; done) | (exfalso; simp at hgd; omega) | (simp -implicitDefEqProofs (maxSteps := 2000000) [hP, hN, g0, g1, g2, g8, g9, hb55, hb8, hlt, hlb, hw, hzT, show (i + 1) * 16 ≤ 140737488355328 by omega, show i + 1 ≤ 9223372036854775807 by omega] <;> (try refine ⟨by kernel_rfl, ?_⟩)))
          | with_reducible refine xTwo_intro ?_ ?_
          | (with_reducible refine xCond_split (fun hcd => ?_) (fun hcd => ?_) <;> (try (exfalso; clear hP hN; simp_all; done)) <;> (try (exfalso; simp at *; omega)))
          | with_reducible refine WP.block ?_
          | (with_reducible ((first | refine WP.skip ?_ | refine WP.exit ?_ | refine WP.ret ?_); simp [g0, g1, g2, g8, g9, hb55, hb8, hlt, hlb, hw, hzT, show (i + 1) * 16 ≤ 140737488355328 by omega, show i + 1 ≤ 9223372036854775807 by omega])))
        all_goals exact hs
      · have hi' : i = a.length := by omega
        subst hi'
        have htk : ((commonL a b).map encI).take a.length = (commonL a b).map encI := List.take_of_length_le (by simp [hcl])
        repeat' (first
          | with_reducible refine WP.seq ?_
          | (with_reducible ((first | refine WP.region (hn := []) ?_ | refine xC_intro (cc) ?_ | refine WP.cond' ?_); simp -implicitDefEqProofs (maxSteps := 2000000) [hP, hN, g0, g1, g2, g8, g9, hb55, hb8, hlt, hzT, htk, hcl]))
          | (with_reducible ((first | refine WP.draw (hn := []) (by rw [hP]; kernel_rfl) (by kernel_rfl) ?_ | refine yC_intro (cc) ?_); simp -implicitDefEqProofs (maxSteps := 2000000) [hP, hN, g0, g1, g2, g8, g9, hb55, hb8, hlt, hzT, htk, hcl]; (try refine ⟨by kernel_rfl, ?_⟩)))
          | (with_reducible refine xB_split (by simp [g0, g1, g2, g8, g9, hb55, hb8, hlt, hzT, htk, hcl]) (fun hgd => ?_) (fun hgd => ?_) <;> first | (exfalso; simp at hgd; done) | (exfalso; simp at hgd; omega) | simp -implicitDefEqProofs (maxSteps := 2000000) [hP, hN, g0, g1, g2, g8, g9, hb55, hb8, hlt, hzT, htk, hcl])
          | (with_reducible refine yB_split (by simp [g0, g1, g2, g8, g9, hb55, hb8, hlt, hzT, htk, hcl]) (fun hgd => ?_) (fun hgd => ?_) <;> first | (exfalso; simp at hgd; done) | (exfalso; simp at hgd; omega) | (simp -implicitDefEqProofs (maxSteps := 2000000) [hP, hN, g0, g1, g2, g8, g9, hb55, hb8, hlt, hzT, htk, hcl] <;> (try refine ⟨by kernel_rfl, ?_⟩)))
          | with_reducible refine xTwo_intro ?_ ?_
          | (with_reducible refine xCond_split (fun hcd => ?_) (fun hcd => ?_) <;> (try (exfalso; clear hP hN; simp_all; done)) <;> (try (exfalso; simp at *; omega)))
          | with_reducible refine WP.block ?_
          | (with_reducible ((first | refine WP.skip ?_ | refine WP.exit ?_ | refine WP.ret ?_); simp [g0, g1, g2, g8, g9, hb55, hb8, hlt, hzT, htk, hcl])))
    · have he' : ((q.length : Int) != a.length) = true := by simp; omega
      have hno : portalOk a b q = false := by simp [portalOk, he]
      rw [portal_no hno, hno]
      refine detP_of Try.func163 rfl (by kernel_rfl) (by simp [Try.f163]) rfl ?_
      intro C hP hN
      simp only [Try.f163] at hN ⊢
      repeat' (first
        | with_reducible refine WP.seq ?_
        | (with_reducible ((first | refine WP.region (hn := []) ?_ | refine xC_intro (ct) ?_ | refine WP.cond' ?_); simp -implicitDefEqProofs (maxSteps := 2000000) [hP, hN, he']))
        | (with_reducible ((first | refine WP.draw (hn := []) (by rw [hP]; kernel_rfl) (by kernel_rfl) ?_ | refine yC_intro (ct) ?_); simp -implicitDefEqProofs (maxSteps := 2000000) [hP, hN, he']; (try refine ⟨by kernel_rfl, ?_⟩)))
        | (with_reducible refine xB_split (by simp [he']) (fun hgd => ?_) (fun hgd => ?_) <;> first | (exfalso; simp at hgd; done) | (exfalso; simp at hgd; omega) | simp -implicitDefEqProofs (maxSteps := 2000000) [hP, hN, he'])
        | (with_reducible refine yB_split (by simp [he']) (fun hgd => ?_) (fun hgd => ?_) <;> first | (exfalso; simp at hgd; done) | (exfalso; simp at hgd; omega) | (simp -implicitDefEqProofs (maxSteps := 2000000) [hP, hN, he'] <;> (try refine ⟨by kernel_rfl, ?_⟩)))
        | with_reducible refine xTwo_intro ?_ ?_
        | (with_reducible refine xCond_split (fun hcd => ?_) (fun hcd => ?_) <;> (try (exfalso; clear hP hN; simp_all; done)) <;> (try (exfalso; simp at *; omega)))
        | with_reducible refine WP.block ?_
        | (with_reducible ((first | refine WP.skip ?_ | refine WP.exit ?_ | refine WP.ret ?_); simp [he'])))
end Go.Ab
