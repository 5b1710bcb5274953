/- TreeNeighbors: the walk. -/
import Derived.Test.YtagmnknighofeaaL28b
set_option linter.all false
namespace Go.Ab
open Go.Proofs
theorem clamp_fix {b : Bx} {q : List Int} (vb : allB vI b = true) (hl : b.length = q.length) : clampL b q = q ↔ hasC b q = true := by
  constructor
  · intro h
    have := clamp_has vb hl
    rw [h] at this; exact this
  · intro h
    obtain ⟨_, m1⟩ := (hasC_vi vb).1 h
    rw [clampL, vb]
    simp only [hl, decide_true, Bool.and_self, if_true]
    apply List.ext_getElem?; intro i
    rw [List.getElem?_zipWith]
    cases hc : q[i]? with
    | none => cases b[i]? <;> rfl
    | some c =>
      have hi := (List.getElem?_eq_some_iff.1 hc).1
      have hb : b[i]? = some (b[i]'(by omega)) := List.getElem?_eq_getElem _
      have := m1 i _ c hb hc
      rw [hb]
      simp only [clampI]
      congr 1
      omega
theorem nb_key {a b : Bx} (va : allB vI a = true) (vb : allB vI b = true) (hl : a.length = b.length) : hasC b (clampL a (middleL b)) = touchC a b := by
  have hml : (middleL b).length = b.length := by simp [middleL, vb]
  have hm : ∀ (i : Nat) y, b[i]? = some y → (middleL b)[i]? = some ((y.1 + y.2) / 2) := by
    intro i y hy
    have vy : validB y.1 y.2 = true := allV_iff.1 vb _ (List.mem_of_getElem? hy)
    rw [middleL, vb]
    simp [hy, mid_rng vy]
  have hc : ∀ (i : Nat) x y, a[i]? = some x → b[i]? = some y → (clampL a (middleL b))[i]? = some (clampI x ((y.1 + y.2) / 2)) := by
    intro i x y hx hy
    rw [clampL, va]
    simp [hl, hml, List.getElem?_zipWith, hx, hm i y hy]
  have hcl : (clampL a (middleL b)).length = a.length := clamp_length va (by omega)
  rw [Bool.eq_iff_iff, touchC_vi va vb, hasC_vi vb]
  constructor
  · rintro ⟨h1, h2⟩
    refine ⟨hl, fun i x y hx hy => ?_⟩
    have := h2 i y _ hy (hc i x y hx hy)
    have v1 := validB_iff.1 (allV_iff.1 va _ (List.mem_of_getElem? hx))
    simp only [clampI] at this
    omega
  · rintro ⟨h1, h2⟩
    refine ⟨by omega, fun i y c hy hcc => ?_⟩
    have hi := (List.getElem?_eq_some_iff.1 hy).1
    have hx : a[i]? = some (a[i]'(by omega)) := List.getElem?_eq_getElem _
    rw [hc i _ y hx hy] at hcc
    injection hcc with hcc; subst hcc
    have := h2 i _ y hx hy
    have v1 := validB_iff.1 (allV_iff.1 va _ (List.mem_of_getElem? hx))
    have v2 := validB_iff.1 (allV_iff.1 vb _ (List.mem_of_getElem? hy))
    simp only [clampI]
    omega
theorem nb_mem {t : Tr} (hv : validT t = true) {a b : Nat} (ha : leafN t a = true) (hb : leafN t b = true) (la : a < t.cells.length) : decide (b ∈ nbL t (a : Int)) = (decide (b ≠ a) && touchC (boxAt t (a : Int)) (boxAt t (b : Int))) := by
  have h1 : nbOk t (a : Int) = true := by simp [nbOk, boxOk, hv, la, ha]
  have h2 : b ∈ leavesL t := by
    obtain ⟨c, hc, hl, _⟩ := leafN_get hb
    exact leavesL_mem.2 ⟨hv, c, hc, hl⟩
  rw [nbL, if_pos h1, Bool.eq_iff_iff, decide_eq_true_eq, List.mem_filter]
  simp only [h2, true_and, nbP, Int.toNat_natCast]
set_option maxRecDepth 10000 in
set_option maxHeartbeats 16000000 in
theorem d9 (l : List Int) (i k : Int) : DetH Try.prog 9 [.pv (zs l), .pv (Z i), .pv (Z k)] [] [] (.pv (B true)) := by
  have hT := mkTree_ok l
  have ct := d21 l
  generalize mkTree l = t at *
  have hz := sizeOk_iff.1 (valid_size hT.valid)
  have h27 := hT.cells
  have cl := d27 t (by omega)
  have hpos := leavesL_pos hT.valid
  have hle := leavesL_len t
  have hnbl : ∀ a : Int, (nbL t a).length ≤ 27 := by
    intro a
    unfold nbL
    split
    · have := List.length_filter_le (nbP t a.toNat) (leavesL t); omega
    · simp
  generalize hall : leavesL t = all at *
  obtain ⟨x, hx, hxl⟩ := rndNat (i := i) (n := all.length) (by omega) (by omega)
  obtain ⟨y, hy, hyl⟩ := rndNat (i := k) (n := all.length) (by omega) (by omega)
  have cx := d35 i (all.length : Int) (by omega)
  have cy := d35 k (all.length : Int) (by omega)
  rw [hx] at cx
  rw [hy] at cy
  have hnil : all ≠ [] := by intro h; simp [h] at hpos
  generalize ha : all[x] = a at *
  generalize hb : all[y] = b at *
  have hai : all[x]? = some a := by rw [List.getElem?_eq_getElem hxl, ha]
  have hbi : all[y]? = some b := by rw [List.getElem?_eq_getElem hyl, hb]
  rw [← hall] at hai hbi
  obtain ⟨_, la, ra⟩ := leaf_at hai
  obtain ⟨_, lb, rb⟩ := leaf_at hbi
  rw [hall] at hai hbi
  have c1 := d28 t a (by omega)
  have c2 := d28 t b (by omega)
  rw [(boxOf_yes hT.valid ra).1, (boxOf_yes hT.valid ra).2] at c1
  rw [(boxOf_yes hT.valid rb).1, (boxOf_yes hT.valid rb).2] at c2
  obtain ⟨_, l1, v1⟩ := boxAt_ok hT.valid (c := (a : Int)) ra
  obtain ⟨_, l2, v2⟩ := boxAt_ok hT.valid (c := (b : Int)) rb
  have c3 := d44 t a (by omega)
  have c4 := d44 t b (by omega)
  have c5 := d43 (nbL t a) b (by have := hnbl a; omega)
  have c6 := d43 (nbL t b) a (by have := hnbl b; omega)
  rw [nb_mem hT.valid la lb ra] at c5
  rw [nb_mem hT.valid lb la rb] at c6
  have hsw := touchC_swap v2 v1
  have hkey := nb_key v1 v2 (by omega)
  rw [hsw] at c6
  generalize boxAt t a = u at *
  generalize boxAt t b = v at *
  have hml : (middleL v).length = v.length := by simp [middleL, v2]
  have c7 := d46 v (by omega)
  have c8 := d45 u (middleL v) (by omega)
  have hcl : (clampL u (middleL v)).length = u.length := clamp_length v1 (by omega)
  generalize clampL u (middleL v) = q at *
  have c9 := d45 v q (by omega)
  have hc2 : (clampL v q).length = v.length := clamp_length v2 (by omega)
  have hh := clamp_has (c := q) v2 (by omega)
  have hfix := clamp_fix (q := q) v2 (by omega)
  have c10 := d30 v (clampL v q) (by omega) (by omega)
  rw [hasL_eq, hh] at c10
  have c11 := d47 (clampL v q) q (by omega) (by omega)
  have hsm : sameX (clampL v q) q = touchC u v := by
    rw [sameX_dec, ← hkey, Bool.eq_iff_iff, decide_eq_true_eq, hfix]
  rw [hsm] at c11
  generalize clampL v q = qq at *
  generalize middleL v = mm at *
  generalize nbL t a = n1 at *
  generalize nbL t b = n2 at *
  generalize touchC u v = tc at *
  by_cases hab : a = b
  · have hab' : ((a : Int) != (b : Int)) = false := by simp [hab]
    rw [decide_eq_false (by simpa using hab.symm), Bool.false_and] at c5
    rw [decide_eq_false (by simpa using hab), Bool.false_and] at c6
    refine detP_of Try.func9 rfl (by kernel_rfl) (by simp [Try.f9]) rfl ?_
    intro C hP hN
    simp only [Try.f9] at hN ⊢
    repeat' (first
      | with_reducible refine WP.seq ?_
      | (with_reducible ((first | refine WP.region (hn := []) ?_ | refine xC_intro (ct) ?_ | refine xC_intro (cl) ?_ | refine xC_intro (cx) ?_ | refine xC_intro (cy) ?_ | refine xC_intro (c1) ?_ | refine xC_intro (c2) ?_ | refine xC_intro (c3) ?_ | refine xC_intro (c4) ?_ | refine xC_intro (c5) ?_ | refine xC_intro (c6) ?_ | refine xC_intro (c7) ?_ | refine xC_intro (c8) ?_ | refine xC_intro (d20) ?_ | refine WP.cond' ?_); simp -implicitDefEqProofs (maxSteps := 2000000) [hP, hN, hnil, hx, hy, hxl, hyl, ha, hb, hai, hbi, hab']))
      | (with_reducible ((first | refine WP.draw (hn := []) (by rw [hP]; kernel_rfl) (by kernel_rfl) ?_ | refine yC_intro (ct) ?_ | refine yC_intro (cl) ?_ | refine yC_intro (cx) ?_ | refine yC_intro (cy) ?_ | refine yC_intro (c1) ?_ | refine yC_intro (c2) ?_ | refine yC_intro (c3) ?_ | refine yC_intro (c4) ?_ | refine yC_intro (c5) ?_ | refine yC_intro (c6) ?_ | refine yC_intro (c7) ?_ | refine yC_intro (c8) ?_ | refine yC_intro (d20) ?_); simp -implicitDefEqProofs (maxSteps := 2000000) [hP, hN, hnil, hx, hy, hxl, hyl, ha, hb, hai, hbi, hab']; (try refine ⟨by kernel_rfl, ?_⟩)))
      | (with_reducible refine xB_split (by simp [hnil, hx, hy, hxl, hyl, ha, hb, hai, hbi, hab']) (fun hgd => ?_) (fun hgd => ?_) <;> first | (exfalso; simp at hgd; done) | (exfalso; simp at hgd; omega) | simp -implicitDefEqProofs (maxSteps := 2000000) [hP, hN, hnil, hx, hy, hxl, hyl, ha, hb, hai, hbi, hab'])
      | (with_reducible refine yB_split (by simp [hnil, hx, hy, hxl, hyl, ha, hb, hai, hbi, hab']) (fun hgd => ?_) (fun hgd => ?_) <;> first | (exfalso; simp at hgd; done) | (exfalso; simp at hgd; omega) | (simp -implicitDefEqProofs (maxSteps := 2000000) [hP, hN, hnil, hx, hy, hxl, hyl, ha, hb, hai, hbi, hab'] <;> (try refine ⟨by kernel_rfl, ?_⟩)))
      | with_reducible refine xTwo_intro ?_ ?_
      | (with_reducible refine xCond_split (fun hcd => ?_) (fun hcd => ?_) <;> (try (exfalso; clear hP hN; simp_all; done)) <;> (try (exfalso; simp at *; omega)))
      | with_reducible refine WP.block ?_
      | (with_reducible ((first | refine WP.skip ?_ | refine WP.exit ?_ | refine WP.ret ?_); simp [hnil, hx, hy, hxl, hyl, ha, hb, hai, hbi, hab'])))
  · have hab' : ((a : Int) != (b : Int)) = true := by simp; omega
    have hba : b ≠ a := fun h => hab h.symm
    rw [decide_eq_true hba, Bool.true_and] at c5
    rw [decide_eq_true hab, Bool.true_and] at c6
    refine detP_of Try.func9 rfl (by kernel_rfl) (by simp [Try.f9]) rfl ?_
    intro C hP hN
    simp only [Try.f9] at hN ⊢
    repeat' (first
      | with_reducible refine WP.seq ?_
      | (with_reducible ((first | refine WP.region (hn := []) ?_ | refine xC_intro (ct) ?_ | refine xC_intro (cl) ?_ | refine xC_intro (cx) ?_ | refine xC_intro (cy) ?_ | refine xC_intro (c1) ?_ | refine xC_intro (c2) ?_ | refine xC_intro (c3) ?_ | refine xC_intro (c4) ?_ | refine xC_intro (c5) ?_ | refine xC_intro (c6) ?_ | refine xC_intro (c7) ?_ | refine xC_intro (c8) ?_ | refine xC_intro (c9) ?_ | refine xC_intro (c10) ?_ | refine xC_intro (c11) ?_ | refine xC_intro (d20) ?_ | refine WP.cond' ?_); simp -implicitDefEqProofs (maxSteps := 2000000) [hP, hN, hnil, hx, hy, hxl, hyl, ha, hb, hai, hbi, hab']))
      | (with_reducible ((first | refine WP.draw (hn := []) (by rw [hP]; kernel_rfl) (by kernel_rfl) ?_ | refine yC_intro (ct) ?_ | refine yC_intro (cl) ?_ | refine yC_intro (cx) ?_ | refine yC_intro (cy) ?_ | refine yC_intro (c1) ?_ | refine yC_intro (c2) ?_ | refine yC_intro (c3) ?_ | refine yC_intro (c4) ?_ | refine yC_intro (c5) ?_ | refine yC_intro (c6) ?_ | refine yC_intro (c7) ?_ | refine yC_intro (c8) ?_ | refine yC_intro (c9) ?_ | refine yC_intro (c10) ?_ | refine yC_intro (c11) ?_ | refine yC_intro (d20) ?_); simp -implicitDefEqProofs (maxSteps := 2000000) [hP, hN, hnil, hx, hy, hxl, hyl, ha, hb, hai, hbi, hab']; (try refine ⟨by kernel_rfl, ?_⟩)))
      | (with_reducible refine xB_split (by simp [hnil, hx, hy, hxl, hyl, ha, hb, hai, hbi, hab']) (fun hgd => ?_) (fun hgd => ?_) <;> first | (exfalso; simp at hgd; done) | (exfalso; simp at hgd; omega) | simp -implicitDefEqProofs (maxSteps := 2000000) [hP, hN, hnil, hx, hy, hxl, hyl, ha, hb, hai, hbi, hab'])
      | (with_reducible refine yB_split (by simp [hnil, hx, hy, hxl, hyl, ha, hb, hai, hbi, hab']) (fun hgd => ?_) (fun hgd => ?_) <;> first | (exfalso; simp at hgd; done) | (exfalso; simp at hgd; omega) | (simp -implicitDefEqProofs (maxSteps := 2000000) [hP, hN, hnil, hx, hy, hxl, hyl, ha, hb, hai, hbi, hab'] <;> (try refine ⟨by kernel_rfl, ?_⟩)))
      | with_reducible refine xTwo_intro ?_ ?_
      | (with_reducible refine xCond_split (fun hcd => ?_) (fun hcd => ?_) <;> (try (exfalso; clear hP hN; simp_all; done)) <;> (try (exfalso; simp at *; omega)))
      | with_reducible refine WP.block ?_
      | (with_reducible ((first | refine WP.skip ?_ | refine WP.exit ?_ | refine WP.ret ?_); simp [hnil, hx, hy, hxl, hyl, ha, hb, hai, hbi, hab'])))
end Go.Ab
