/- TreeValid, TreeLooks: the walks. -/
import Derived.Test.YtagmnknighofeaaTrY
set_option linter.all false
namespace Go.Ab
open Go.Proofs
theorem MTree.tiny {t : Tr} (h : MTree t) : Tiny t := ⟨h.pos, by have := h.three; omega, h.one, by have := h.cells; omega⟩
set_option maxRecDepth 10000 in
set_option maxHeartbeats 8000000 in
theorem d3 (root : List (Int × Int)) (any : Tr) (l : List Int) (how at_ x : Int) : DetH Try.prog 3 [.pv (iv root), .pv (encT any), .pv (zs l), .pv (Z how), .pv (Z at_), .pv (Z x)] [] [] (.pv (B true)) := by
  have cS := d19 any
  cases hs : (decide (any.root.length ≤ 12) && decide (any.cells.length ≤ 60)) with
  | false =>
    rw [hs] at cS
    refine detP_of Try.func3 rfl (by kernel_rfl) (by simp [Try.f3]) rfl ?_
    intro C hP hN
    simp only [Try.f3] at hN ⊢
    repeat' (first
      | with_reducible refine WP.seq ?_
      | (with_reducible ((first | refine WP.region (hn := []) ?_ | refine xC_intro (cS) ?_ | refine xC_intro (d20) ?_ | refine WP.cond' ?_); simp -implicitDefEqProofs (maxSteps := 2000000) [hP, hN]))
      | (with_reducible ((first | refine WP.draw (hn := []) (by rw [hP]; kernel_rfl) (by kernel_rfl) ?_ | refine yC_intro (cS) ?_ | refine yC_intro (d20) ?_); simp -implicitDefEqProofs (maxSteps := 2000000) [hP, hN]; (try refine ⟨by kernel_rfl, ?_⟩)))
      | (with_reducible refine xB_split (by simp) (fun hgd => ?_) (fun hgd => ?_) <;> first | (exfalso; simp at hgd; done) | (exfalso; simp at hgd; omega) | simp -implicitDefEqProofs (maxSteps := 2000000) [hP, hN])
      | (with_reducible refine yB_split (by simp) (fun hgd => ?_) (fun hgd => ?_) <;> first | (exfalso; simp at hgd; done) | (exfalso; simp at hgd; omega) | (simp -implicitDefEqProofs (maxSteps := 2000000) [hP, hN] <;> (try refine ⟨by kernel_rfl, ?_⟩)))
      | with_reducible refine xTwo_intro ?_ ?_
      | (with_reducible refine xCond_split (fun hcd => ?_) (fun hcd => ?_) <;> (try (exfalso; clear hP hN; simp_all; done)) <;> (try (exfalso; simp at *; omega)))
      | with_reducible refine WP.block ?_
      | (with_reducible ((first | refine WP.skip ?_ | refine WP.exit ?_ | refine WP.ret ?_); simp)))
  | true =>
    rw [hs] at cS
    simp only [Bool.and_eq_true, decide_eq_true_eq] at hs
    by_cases hr : (20 : Int) < root.length
    · skip
      refine detP_of Try.func3 rfl (by kernel_rfl) (by simp [Try.f3]) rfl ?_
      intro C hP hN
      simp only [Try.f3] at hN ⊢
      repeat' (first
        | with_reducible refine WP.seq ?_
        | (with_reducible ((first | refine WP.region (hn := []) ?_ | refine xC_intro (cS) ?_ | refine xC_intro (d20) ?_ | refine WP.cond' ?_); simp -implicitDefEqProofs (maxSteps := 2000000) [hP, hN, hr]))
        | (with_reducible ((first | refine WP.draw (hn := []) (by rw [hP]; kernel_rfl) (by kernel_rfl) ?_ | refine yC_intro (cS) ?_ | refine yC_intro (d20) ?_); simp -implicitDefEqProofs (maxSteps := 2000000) [hP, hN, hr]; (try refine ⟨by kernel_rfl, ?_⟩)))
        | (with_reducible refine xB_split (by simp [hr]) (fun hgd => ?_) (fun hgd => ?_) <;> first | (exfalso; simp at hgd; done) | (exfalso; simp at hgd; omega) | simp -implicitDefEqProofs (maxSteps := 2000000) [hP, hN, hr])
        | (with_reducible refine yB_split (by simp [hr]) (fun hgd => ?_) (fun hgd => ?_) <;> first | (exfalso; simp at hgd; done) | (exfalso; simp at hgd; omega) | (simp -implicitDefEqProofs (maxSteps := 2000000) [hP, hN, hr] <;> (try refine ⟨by kernel_rfl, ?_⟩)))
        | with_reducible refine xTwo_intro ?_ ?_
        | (with_reducible refine xCond_split (fun hcd => ?_) (fun hcd => ?_) <;> (try (exfalso; clear hP hN; simp_all; done)) <;> (try (exfalso; simp at *; omega)))
        | with_reducible refine WP.block ?_
        | (with_reducible ((first | refine WP.skip ?_ | refine WP.exit ?_ | refine WP.ret ?_); simp [hr])))
    · have hT := mkTree_ok l
      have ct := d21 l
      generalize mkTree l = t at *
      obtain ⟨u, cu, hu⟩ := altered_ok t how at_ x hT.tiny
      have h27 := hT.cells
      have h3 := hT.three
      have hu2 := hu.cells
      have c1 := d23 root (by omega)
      have c2 := d23 t.root (by omega)
      have c3 := d24 any (by omega)
      have c4 := d25 any (by omega)
      have c5 := d24 t (by omega)
      rw [hT.valid] at c5
      have c6 := d24 u (by omega)
      have c7 := d25 u (by omega)
      generalize validT any = v1 at *
      generalize validT u = v2 at *
      refine detP_of Try.func3 rfl (by kernel_rfl) (by simp [Try.f3]) rfl ?_
      intro C hP hN
      simp only [Try.f3] at hN ⊢
      repeat' (first
        | with_reducible refine WP.seq ?_
        | (with_reducible ((first | refine WP.region (hn := []) ?_ | refine xC_intro (cS) ?_ | refine xC_intro (ct) ?_ | refine xC_intro (cu) ?_ | refine xC_intro (d20) ?_ | refine xC_intro (c1) ?_ | refine xC_intro (c2) ?_ | refine xC_intro (c3) ?_ | refine xC_intro (c4) ?_ | refine xC_intro (c5) ?_ | refine xC_intro (c6) ?_ | refine xC_intro (c7) ?_ | refine WP.cond' ?_); simp -implicitDefEqProofs (maxSteps := 2000000) [hP, hN, hr]))
        | (with_reducible ((first | refine WP.draw (hn := []) (by rw [hP]; kernel_rfl) (by kernel_rfl) ?_ | refine yC_intro (cS) ?_ | refine yC_intro (ct) ?_ | refine yC_intro (cu) ?_ | refine yC_intro (d20) ?_ | refine yC_intro (c1) ?_ | refine yC_intro (c2) ?_ | refine yC_intro (c3) ?_ | refine yC_intro (c4) ?_ | refine yC_intro (c5) ?_ | refine yC_intro (c6) ?_ | refine yC_intro (c7) ?_); simp -implicitDefEqProofs (maxSteps := 2000000) [hP, hN, hr]; (try refine ⟨by kernel_rfl, ?_⟩)))
        | (with_reducible refine xB_split (by simp [hr]) (fun hgd => ?_) (fun hgd => ?_) <;> first | (exfalso; simp at hgd; done) | (exfalso; simp at hgd; omega) | simp -implicitDefEqProofs (maxSteps := 2000000) [hP, hN, hr])
        | (with_reducible refine yB_split (by simp [hr]) (fun hgd => ?_) (fun hgd => ?_) <;> first | (exfalso; simp at hgd; done) | (exfalso; simp at hgd; omega) | (simp -implicitDefEqProofs (maxSteps := 2000000) [hP, hN, hr] <;> (try refine ⟨by kernel_rfl, ?_⟩)))
        | with_reducible refine xTwo_intro ?_ ?_
        | (with_reducible refine xCond_split (fun hcd => ?_) (fun hcd => ?_) <;> (try (exfalso; clear hP hN; simp_all; done)) <;> (try (exfalso; simp at *; omega)))
        | with_reducible refine WP.block ?_
        | (with_reducible ((first | refine WP.skip ?_ | refine WP.exit ?_ | refine WP.ret ?_); simp [hr])))
set_option maxRecDepth 10000 in
set_option maxHeartbeats 8000000 in
theorem d42 (t : Tr) (i : Int) (q : List Int) (hl : t.cells.length ≤ 100) (hr : t.root.length ≤ 100) (hq : q.length ≤ 100) : DetH Try.prog 42 [.pv (encT t), .pv (Z i), .pv (zs q)] [] [] (.pv (B true)) := by
  have c1 := d28 t i (by omega)
  have c2 := d61 t i (by omega)
  have c3 := d32 t q (by omega) (by omega)
  have c4 := d99 t q (by omega) (by omega) (by omega)
  have c5 := d27 t (by omega)
  have c6 : DetH Try.prog 100 [.pv (encT t)] [] [] (.pv (.sl ((leavesL t).map zN'))) := d100 t (by omega)
  have c7 := d34 t q (by omega)
  have c8 := d101 t q (by omega) (by omega) (by omega)
  have c9 := d44 t i (by omega)
  have c10 := d102 t i (by omega)
  have hb : (boxOf t i).length ≤ 100 := by
    unfold boxOf
    split
    · rename_i h
      simp only [boxOk, Bool.and_eq_true, decide_eq_true_eq] at h
      have := (boxAt_ok h.1.1 (c := i) (by omega)).2.1
      omega
    · simp
  have h1 := leavesL_len t
  have h2 : (locL t q).length ≤ 100 := by
    have := List.length_filter_le (locP t q) (leavesL t)
    unfold locL; omega
  have h3 : (nbL t i).length ≤ 100 := by
    unfold nbL
    split
    · have := List.length_filter_le (nbP t i.toNat) (leavesL t); omega
    · simp
  have s1 := d40 (boxOf t i) (boxOf t i) (by omega) (by omega)
  have s2 := d33 (leavesL t) (leavesL t) (by omega) (by omega)
  have s3 := d33 (locL t q) (locL t q) (by omega) (by omega)
  have s4 := d33 (nbL t i) (nbL t i) (by omega) (by omega)
  rw [sameX_dec, decide_eq_true rfl] at s1
  rw [decide_eq_true rfl] at s2 s3 s4
  generalize boxOf t i = b at *
  generalize boxOk t i = o at *
  generalize homeR t q = hm at *
  generalize homeOk t q = ho at *
  generalize leavesL t = l1 at *
  generalize locL t q = l2 at *
  generalize nbL t i = l3 at *
  refine detP_of Try.func42 rfl (by kernel_rfl) (by simp [Try.f42]) rfl ?_
  intro C hP hN
  simp only [Try.f42] at hN ⊢
  repeat' (first
    | with_reducible refine WP.seq ?_
    | (with_reducible ((first | refine WP.region (hn := []) ?_ | refine xC_intro (c1) ?_ | refine xC_intro (c2) ?_ | refine xC_intro (c3) ?_ | refine xC_intro (c4) ?_ | refine xC_intro (c5) ?_ | refine xC_intro (c6) ?_ | refine xC_intro (c7) ?_ | refine xC_intro (c8) ?_ | refine xC_intro (c9) ?_ | refine xC_intro (c10) ?_ | refine xC_intro (s1) ?_ | refine xC_intro (s2) ?_ | refine xC_intro (s3) ?_ | refine xC_intro (s4) ?_ | refine WP.cond' ?_); simp -implicitDefEqProofs (maxSteps := 2000000) [hP, hN]))
    | (with_reducible ((first | refine WP.draw (hn := []) (by rw [hP]; kernel_rfl) (by kernel_rfl) ?_ | refine yC_intro (c1) ?_ | refine yC_intro (c2) ?_ | refine yC_intro (c3) ?_ | refine yC_intro (c4) ?_ | refine yC_intro (c5) ?_ | refine yC_intro (c6) ?_ | refine yC_intro (c7) ?_ | refine yC_intro (c8) ?_ | refine yC_intro (c9) ?_ | refine yC_intro (c10) ?_ | refine yC_intro (s1) ?_ | refine yC_intro (s2) ?_ | refine yC_intro (s3) ?_ | refine yC_intro (s4) ?_); simp -implicitDefEqProofs (maxSteps := 2000000) [hP, hN]; (try refine ⟨by kernel_rfl, ?_⟩)))
    | (with_reducible refine xB_split (by simp) (fun hgd => ?_) (fun hgd => ?_) <;> first | (exfalso; simp at hgd; done) | (exfalso; simp at hgd; omega) | simp -implicitDefEqProofs (maxSteps := 2000000) [hP, hN])
    | (with_reducible refine yB_split (by simp) (fun hgd => ?_) (fun hgd => ?_) <;> first | (exfalso; simp at hgd; done) | (exfalso; simp at hgd; omega) | (simp -implicitDefEqProofs (maxSteps := 2000000) [hP, hN] <;> (try refine ⟨by kernel_rfl, ?_⟩)))
    | with_reducible refine xTwo_intro ?_ ?_
    | (with_reducible refine xCond_split (fun hcd => ?_) (fun hcd => ?_) <;> (try (exfalso; clear hP hN; simp_all; done)) <;> (try (exfalso; simp at *; omega)))
    | with_reducible refine WP.block ?_
    | (with_reducible ((first | refine WP.skip ?_ | refine WP.exit ?_ | refine WP.ret ?_); simp)))
set_option maxRecDepth 10000 in
set_option maxHeartbeats 8000000 in
theorem d8 (any : Tr) (i : Int) (q : List Int) (l m : List Int) (how at_ x : Int) : DetH Try.prog 8 [.pv (encT any), .pv (Z i), .pv (zs q), .pv (zs l), .pv (zs m), .pv (Z how), .pv (Z at_), .pv (Z x)] [] [] (.pv (B true)) := by
  have cS := d19 any
  cases hs : (decide (any.root.length ≤ 12) && decide (any.cells.length ≤ 60)) with
  | false =>
    rw [hs] at cS
    refine detP_of Try.func8 rfl (by kernel_rfl) (by simp [Try.f8]) rfl ?_
    intro C hP hN
    simp only [Try.f8] at hN ⊢
    repeat' (first
      | with_reducible refine WP.seq ?_
      | (with_reducible ((first | refine WP.region (hn := []) ?_ | refine xC_intro (cS) ?_ | refine xC_intro (d20) ?_ | refine WP.cond' ?_); simp -implicitDefEqProofs (maxSteps := 2000000) [hP, hN]))
      | (with_reducible ((first | refine WP.draw (hn := []) (by rw [hP]; kernel_rfl) (by kernel_rfl) ?_ | refine yC_intro (cS) ?_ | refine yC_intro (d20) ?_); simp -implicitDefEqProofs (maxSteps := 2000000) [hP, hN]; (try refine ⟨by kernel_rfl, ?_⟩)))
      | (with_reducible refine xB_split (by simp) (fun hgd => ?_) (fun hgd => ?_) <;> first | (exfalso; simp at hgd; done) | (exfalso; simp at hgd; omega) | simp -implicitDefEqProofs (maxSteps := 2000000) [hP, hN])
      | (with_reducible refine yB_split (by simp) (fun hgd => ?_) (fun hgd => ?_) <;> first | (exfalso; simp at hgd; done) | (exfalso; simp at hgd; omega) | (simp -implicitDefEqProofs (maxSteps := 2000000) [hP, hN] <;> (try refine ⟨by kernel_rfl, ?_⟩)))
      | with_reducible refine xTwo_intro ?_ ?_
      | (with_reducible refine xCond_split (fun hcd => ?_) (fun hcd => ?_) <;> (try (exfalso; clear hP hN; simp_all; done)) <;> (try (exfalso; simp at *; omega)))
      | with_reducible refine WP.block ?_
      | (with_reducible ((first | refine WP.skip ?_ | refine WP.exit ?_ | refine WP.ret ?_); simp)))
  | true =>
    rw [hs] at cS
    simp only [Bool.and_eq_true, decide_eq_true_eq] at hs
    by_cases hr : (20 : Int) < q.length
    · skip
      refine detP_of Try.func8 rfl (by kernel_rfl) (by simp [Try.f8]) rfl ?_
      intro C hP hN
      simp only [Try.f8] at hN ⊢
      repeat' (first
        | with_reducible refine WP.seq ?_
        | (with_reducible ((first | refine WP.region (hn := []) ?_ | refine xC_intro (cS) ?_ | refine xC_intro (d20) ?_ | refine WP.cond' ?_); simp -implicitDefEqProofs (maxSteps := 2000000) [hP, hN, hr]))
        | (with_reducible ((first | refine WP.draw (hn := []) (by rw [hP]; kernel_rfl) (by kernel_rfl) ?_ | refine yC_intro (cS) ?_ | refine yC_intro (d20) ?_); simp -implicitDefEqProofs (maxSteps := 2000000) [hP, hN, hr]; (try refine ⟨by kernel_rfl, ?_⟩)))
        | (with_reducible refine xB_split (by simp [hr]) (fun hgd => ?_) (fun hgd => ?_) <;> first | (exfalso; simp at hgd; done) | (exfalso; simp at hgd; omega) | simp -implicitDefEqProofs (maxSteps := 2000000) [hP, hN, hr])
        | (with_reducible refine yB_split (by simp [hr]) (fun hgd => ?_) (fun hgd => ?_) <;> first | (exfalso; simp at hgd; done) | (exfalso; simp at hgd; omega) | (simp -implicitDefEqProofs (maxSteps := 2000000) [hP, hN, hr] <;> (try refine ⟨by kernel_rfl, ?_⟩)))
        | with_reducible refine xTwo_intro ?_ ?_
        | (with_reducible refine xCond_split (fun hcd => ?_) (fun hcd => ?_) <;> (try (exfalso; clear hP hN; simp_all; done)) <;> (try (exfalso; simp at *; omega)))
        | with_reducible refine WP.block ?_
        | (with_reducible ((first | refine WP.skip ?_ | refine WP.exit ?_ | refine WP.ret ?_); simp [hr])))
    · have hT := mkTree_ok l
      have ct := d21 l
      generalize mkTree l = t at *
      have hz := sizeOk_iff.1 (valid_size hT.valid)
      obtain ⟨u, cu, hu⟩ := altered_ok t how at_ x hT.tiny
      have h27 := hT.cells
      have h3 := hT.three
      have hu1 := hu.root
      have hu2 := hu.cells
      obtain ⟨y, hy, hyl⟩ := rndNat (i := i) (n := t.cells.length + 2) (by omega) (by omega)
      rw [Int.natCast_add] at hy
      have cr := d35 i ((t.cells.length : Int) + 2) (by omega)
      rw [show roundI i ((t.cells.length : Int) + 2) = (y : Int) from hy] at cr
      have w1 : IntKind.i64.wrap ((t.cells.length : Int) + 2) = (t.cells.length : Int) + 2 := wr_id (by omega) (by omega)
      have w2 : IntKind.i64.wrap ((y : Int) - 1) = (y : Int) - 1 := wr_id (by omega) (by omega)
      have ci := d26 t.root m (by omega) hz.2.2.2.2
      have lq := inL_len t.root m
      generalize inL t.root m = p at *
      have c1 := d42 any i q (by omega) (by omega) (by omega)
      have c2 := d42 t ((y : Int) - 1) p (by omega) (by omega) (by omega)
      have c3 := d42 t ((y : Int) - 1) q (by omega) (by omega) (by omega)
      have c4 := d42 u ((y : Int) - 1) p (by omega) (by omega) (by omega)
      refine detP_of Try.func8 rfl (by kernel_rfl) (by simp [Try.f8]) rfl ?_
      intro C hP hN
      simp only [Try.f8] at hN ⊢
      repeat' (first
        | with_reducible refine WP.seq ?_
        | (with_reducible ((first | refine WP.region (hn := []) ?_ | refine xC_intro (cS) ?_ | refine xC_intro (ct) ?_ | refine xC_intro (cr) ?_ | refine xC_intro (d20) ?_ | refine xC_intro (c1) ?_ | refine xC_intro (ci) ?_ | refine xC_intro (c2) ?_ | refine xC_intro (c3) ?_ | refine xC_intro (cu) ?_ | refine xC_intro (c4) ?_ | refine WP.cond' ?_); simp -implicitDefEqProofs (maxSteps := 2000000) [hP, hN, hr, w1, w2]))
        | (with_reducible ((first | refine WP.draw (hn := []) (by rw [hP]; kernel_rfl) (by kernel_rfl) ?_ | refine yC_intro (cS) ?_ | refine yC_intro (ct) ?_ | refine yC_intro (cr) ?_ | refine yC_intro (d20) ?_ | refine yC_intro (c1) ?_ | refine yC_intro (ci) ?_ | refine yC_intro (c2) ?_ | refine yC_intro (c3) ?_ | refine yC_intro (cu) ?_ | refine yC_intro (c4) ?_); simp -implicitDefEqProofs (maxSteps := 2000000) [hP, hN, hr, w1, w2]; (try refine ⟨by kernel_rfl, ?_⟩)))
        | (with_reducible refine xB_split (by simp [hr, w1, w2]) (fun hgd => ?_) (fun hgd => ?_) <;> first | (exfalso; simp at hgd; done) | (exfalso; simp at hgd; omega) | simp -implicitDefEqProofs (maxSteps := 2000000) [hP, hN, hr, w1, w2])
        | (with_reducible refine yB_split (by simp [hr, w1, w2]) (fun hgd => ?_) (fun hgd => ?_) <;> first | (exfalso; simp at hgd; done) | (exfalso; simp at hgd; omega) | (simp -implicitDefEqProofs (maxSteps := 2000000) [hP, hN, hr, w1, w2] <;> (try refine ⟨by kernel_rfl, ?_⟩)))
        | with_reducible refine xTwo_intro ?_ ?_
        | (with_reducible refine xCond_split (fun hcd => ?_) (fun hcd => ?_) <;> (try (exfalso; clear hP hN; simp_all; done)) <;> (try (exfalso; simp at *; omega)))
        | with_reducible refine WP.block ?_
        | (with_reducible ((first | refine WP.skip ?_ | refine WP.exit ?_ | refine WP.ret ?_); simp [hr, w1, w2])))
end Go.Ab
