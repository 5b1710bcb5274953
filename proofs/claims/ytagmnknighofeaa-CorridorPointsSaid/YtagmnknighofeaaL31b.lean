/- CorridorPoints and CorridorInside: the walks, ended. -/
import Derived.Test.YtagmnknighofeaaL31a
set_option linter.all false
namespace Go.Ab
open Go.Proofs
set_option maxRecDepth 100000 in
set_option maxHeartbeats 16000000 in
theorem d10 (u : Tr) (chain p q l m o : List Int) (at_ x : Int) (hu : u.cells.length ≤ 9223372036854775807) (hur : u.root.length ≤ 9223372036854775807) : DetH Try.prog 10 [.pv (encT u), .pv (zs chain), .pv (zs p), .pv (zs q), .pv (zs l), .pv (zs m), .pv (zs o), .pv (Z at_), .pv (Z x)] [] [] (.pv (B true)) := by
  have cs := d19 u
  by_cases hbig : decide ((u.root.length : Int) ≤ 12) && decide ((u.cells.length : Int) ≤ 60)
  · rw [hbig] at cs
    simp only [Bool.and_eq_true, decide_eq_true_eq] at hbig
    by_cases k1 : (40 : Int) < chain.length
    · have k1n : 40 < chain.length := by omega
      refine detP_of Try.func10 rfl (by kernel_rfl) (by simp [Try.f10]) rfl ?_
      intro C hP hN
      simp only [Try.f10] at hN ⊢
      repeat' (first
        | with_reducible refine WP.seq ?_
        | (with_reducible ((first | refine WP.region (hn := []) ?_ | refine xC_intro (cs) ?_ | refine xC_intro (d48) ?_ | refine WP.cond' ?_); simp -implicitDefEqProofs (maxSteps := 2000000) [hP, hN, k1, k1n]))
        | (with_reducible ((first | refine WP.draw (hn := []) (by rw [hP]; kernel_rfl) (by kernel_rfl) ?_ | refine yC_intro (cs) ?_ | refine yC_intro (d48) ?_); simp -implicitDefEqProofs (maxSteps := 2000000) [hP, hN, k1, k1n]; (try refine ⟨by kernel_rfl, ?_⟩)))
        | (with_reducible refine xB_split (by simp [k1, k1n]) (fun hgd => ?_) (fun hgd => ?_) <;> first | (exfalso; simp at hgd; done) | (exfalso; simp at hgd; omega) | simp -implicitDefEqProofs (maxSteps := 2000000) [hP, hN, k1, k1n])
        | (with_reducible refine yB_split (by simp [k1, k1n]) (fun hgd => ?_) (fun hgd => ?_) <;> first | (exfalso; simp at hgd; done) | (exfalso; simp at hgd; omega) | (simp -implicitDefEqProofs (maxSteps := 2000000) [hP, hN, k1, k1n] <;> (try refine ⟨by kernel_rfl, ?_⟩)))
        | with_reducible refine xTwo_intro ?_ ?_
        | (with_reducible refine xCond_split (fun hcd => ?_) (fun hcd => ?_) <;> (try (exfalso; clear hP hN; simp_all; done)) <;> (try (exfalso; simp at *; omega)))
        | with_reducible refine WP.block ?_
        | (with_reducible ((first | refine WP.skip ?_ | refine WP.exit ?_ | refine WP.ret ?_); simp [k1, k1n])))
    by_cases k2 : (20 : Int) < p.length
    · have k1n : ¬ 40 < chain.length := by omega
      have k2n : 20 < p.length := by omega
      refine detP_of Try.func10 rfl (by kernel_rfl) (by simp [Try.f10]) rfl ?_
      intro C hP hN
      simp only [Try.f10] at hN ⊢
      repeat' (first
        | with_reducible refine WP.seq ?_
        | (with_reducible ((first | refine WP.region (hn := []) ?_ | refine xC_intro (cs) ?_ | refine xC_intro (d48) ?_ | refine WP.cond' ?_); simp -implicitDefEqProofs (maxSteps := 2000000) [hP, hN, k1, k1n, k2, k2n]))
        | (with_reducible ((first | refine WP.draw (hn := []) (by rw [hP]; kernel_rfl) (by kernel_rfl) ?_ | refine yC_intro (cs) ?_ | refine yC_intro (d48) ?_); simp -implicitDefEqProofs (maxSteps := 2000000) [hP, hN, k1, k1n, k2, k2n]; (try refine ⟨by kernel_rfl, ?_⟩)))
        | (with_reducible refine xB_split (by simp [k1, k1n, k2, k2n]) (fun hgd => ?_) (fun hgd => ?_) <;> first | (exfalso; simp at hgd; done) | (exfalso; simp at hgd; omega) | simp -implicitDefEqProofs (maxSteps := 2000000) [hP, hN, k1, k1n, k2, k2n])
        | (with_reducible refine yB_split (by simp [k1, k1n, k2, k2n]) (fun hgd => ?_) (fun hgd => ?_) <;> first | (exfalso; simp at hgd; done) | (exfalso; simp at hgd; omega) | (simp -implicitDefEqProofs (maxSteps := 2000000) [hP, hN, k1, k1n, k2, k2n] <;> (try refine ⟨by kernel_rfl, ?_⟩)))
        | with_reducible refine xTwo_intro ?_ ?_
        | (with_reducible refine xCond_split (fun hcd => ?_) (fun hcd => ?_) <;> (try (exfalso; clear hP hN; simp_all; done)) <;> (try (exfalso; simp at *; omega)))
        | with_reducible refine WP.block ?_
        | (with_reducible ((first | refine WP.skip ?_ | refine WP.exit ?_ | refine WP.ret ?_); simp [k1, k1n, k2, k2n])))
    by_cases k3 : (20 : Int) < q.length
    · have k1n : ¬ 40 < chain.length := by omega
      have k2n : ¬ 20 < p.length := by omega
      have k3n : 20 < q.length := by omega
      refine detP_of Try.func10 rfl (by kernel_rfl) (by simp [Try.f10]) rfl ?_
      intro C hP hN
      simp only [Try.f10] at hN ⊢
      repeat' (first
        | with_reducible refine WP.seq ?_
        | (with_reducible ((first | refine WP.region (hn := []) ?_ | refine xC_intro (cs) ?_ | refine xC_intro (d48) ?_ | refine WP.cond' ?_); simp -implicitDefEqProofs (maxSteps := 2000000) [hP, hN, k1, k1n, k2, k2n, k3, k3n]))
        | (with_reducible ((first | refine WP.draw (hn := []) (by rw [hP]; kernel_rfl) (by kernel_rfl) ?_ | refine yC_intro (cs) ?_ | refine yC_intro (d48) ?_); simp -implicitDefEqProofs (maxSteps := 2000000) [hP, hN, k1, k1n, k2, k2n, k3, k3n]; (try refine ⟨by kernel_rfl, ?_⟩)))
        | (with_reducible refine xB_split (by simp [k1, k1n, k2, k2n, k3, k3n]) (fun hgd => ?_) (fun hgd => ?_) <;> first | (exfalso; simp at hgd; done) | (exfalso; simp at hgd; omega) | simp -implicitDefEqProofs (maxSteps := 2000000) [hP, hN, k1, k1n, k2, k2n, k3, k3n])
        | (with_reducible refine yB_split (by simp [k1, k1n, k2, k2n, k3, k3n]) (fun hgd => ?_) (fun hgd => ?_) <;> first | (exfalso; simp at hgd; done) | (exfalso; simp at hgd; omega) | (simp -implicitDefEqProofs (maxSteps := 2000000) [hP, hN, k1, k1n, k2, k2n, k3, k3n] <;> (try refine ⟨by kernel_rfl, ?_⟩)))
        | with_reducible refine xTwo_intro ?_ ?_
        | (with_reducible refine xCond_split (fun hcd => ?_) (fun hcd => ?_) <;> (try (exfalso; clear hP hN; simp_all; done)) <;> (try (exfalso; simp at *; omega)))
        | with_reducible refine WP.block ?_
        | (with_reducible ((first | refine WP.skip ?_ | refine WP.exit ?_ | refine WP.ret ?_); simp [k1, k1n, k2, k2n, k3, k3n])))
    have k1n : ¬ 40 < chain.length := by omega
    have k2n : ¬ 20 < p.length := by omega
    have k3n : ¬ 20 < q.length := by omega
    have hT := mkTree_ok l
    have ct := d21 l
    generalize mkTree l = t at *
    have hz := sizeOk_iff.1 (valid_size hT.valid)
    have h27 := hT.cells
    have h3 := hT.three
    have ca := d26 t.root m (by omega) hz.2.2.2.2
    have cb := d26 t.root o (by omega) hz.2.2.2.2
    have la := inL_len t.root m
    have lb := inL_len t.root o
    generalize inL t.root m = a at *
    generalize inL t.root o = b at *
    have cc := chainB t a b (by omega) (by omega) (by omega) (by omega)
    have hcl := chn_len (t := t) (p := a) (q := b)
    generalize chnL t a b 3 = c at *
    generalize chnOk t a b 3 = B9 at *
    have p1 := d50 u chain p q hu hur (by omega) (by omega) (by omega)
    have p2 := d50 t c a b (by omega) (by omega) (by omega) (by omega) (by omega)
    have p4 := d50 t c b a (by omega) (by omega) (by omega) (by omega) (by omega)
    have p5 := d50 t chain a b (by omega) (by omega) (by omega) (by omega) (by omega)
    by_cases hc0 : c = []
    · subst hc0
      simp only [zs, List.map_nil] at cc p2 p4
      refine detP_of Try.func10 rfl (by kernel_rfl) (by simp [Try.f10]) rfl ?_
      intro C hP hN
      simp only [Try.f10] at hN ⊢
      repeat' (first
        | with_reducible refine WP.seq ?_
        | (with_reducible ((first | refine WP.region (hn := []) ?_ | refine xC_intro (cs) ?_ | refine xC_intro (ct) ?_ | refine xC_intro (ca) ?_ | refine xC_intro (cb) ?_ | refine xC_intro (cc) ?_ | refine xC_intro (p1) ?_ | refine xC_intro (p2) ?_ | refine xC_intro (p4) ?_ | refine xC_intro (p5) ?_ | refine xC_intro (d48) ?_ | refine WP.cond' ?_); simp -implicitDefEqProofs (maxSteps := 2000000) [hP, hN, k1, k1n, k2, k2n, k3, k3n]))
        | (with_reducible ((first | refine WP.draw (hn := []) (by rw [hP]; kernel_rfl) (by kernel_rfl) ?_ | refine yC_intro (cs) ?_ | refine yC_intro (ct) ?_ | refine yC_intro (ca) ?_ | refine yC_intro (cb) ?_ | refine yC_intro (cc) ?_ | refine yC_intro (p1) ?_ | refine yC_intro (p2) ?_ | refine yC_intro (p4) ?_ | refine yC_intro (p5) ?_ | refine yC_intro (d48) ?_); simp -implicitDefEqProofs (maxSteps := 2000000) [hP, hN, k1, k1n, k2, k2n, k3, k3n]; (try refine ⟨by kernel_rfl, ?_⟩)))
        | (with_reducible refine xB_split (by simp [k1, k1n, k2, k2n, k3, k3n]) (fun hgd => ?_) (fun hgd => ?_) <;> first | (exfalso; simp at hgd; done) | (exfalso; simp at hgd; omega) | simp -implicitDefEqProofs (maxSteps := 2000000) [hP, hN, k1, k1n, k2, k2n, k3, k3n])
        | (with_reducible refine yB_split (by simp [k1, k1n, k2, k2n, k3, k3n]) (fun hgd => ?_) (fun hgd => ?_) <;> first | (exfalso; simp at hgd; done) | (exfalso; simp at hgd; omega) | (simp -implicitDefEqProofs (maxSteps := 2000000) [hP, hN, k1, k1n, k2, k2n, k3, k3n] <;> (try refine ⟨by kernel_rfl, ?_⟩)))
        | with_reducible refine xTwo_intro ?_ ?_
        | (with_reducible refine xCond_split (fun hcd => ?_) (fun hcd => ?_) <;> (try (exfalso; clear hP hN; simp_all; done)) <;> (try (exfalso; simp at *; omega)))
        | with_reducible refine WP.block ?_
        | (with_reducible ((first | refine WP.skip ?_ | refine WP.exit ?_ | refine WP.ret ?_); simp [k1, k1n, k2, k2n, k3, k3n])))
    · have hpos := List.length_pos_iff.2 hc0
      have hpos' : (0 : Int) < c.length := by omega
      obtain ⟨y, hy, hyl⟩ := round_nat (i := at_) (n := c.length) hpos (by omega)
      have c1 := d35 at_ (c.length : Int) (by omega)
      rw [hy] at c1
      have hw : IntKind.i64.wrap ((t.cells.length : Int) + 2) = (t.cells.length : Int) + 2 := wr_id (by omega) (by omega)
      have c2 := d35 x ((t.cells.length : Int) + 2) (by omega)
      have hrr := round_range x (k := (t.cells.length : Int) + 2) (by omega) (by omega)
      generalize roundI x ((t.cells.length : Int) + 2) = v at *
      have hw2 : IntKind.i64.wrap (v - 1) = v - 1 := wr_id (by omega) (by omega)
      have p3 := d50 t (c.set y (v - 1)) a b (by omega) (by omega) (by simp; omega) (by omega) (by omega)
      have hst : (List.map Z c).set y (PV.val (Value.int IntKind.i64 (v - 1))) = List.map Z (c.set y (v - 1)) := by simp [List.map_set]
      obtain ⟨d, hd⟩ : ∃ d, d = c.set y (v - 1) := ⟨_, rfl⟩
      rw [← hd] at p3 hst
      have hdl : d.length = c.length := by rw [hd]; simp
      refine detP_of Try.func10 rfl (by kernel_rfl) (by simp [Try.f10]) rfl ?_
      intro C hP hN
      simp only [Try.f10] at hN ⊢
      repeat' (first
        | with_reducible refine WP.seq ?_
        | (with_reducible ((first | refine WP.region (hn := []) ?_ | refine xC_intro (cs) ?_ | refine xC_intro (ct) ?_ | refine xC_intro (ca) ?_ | refine xC_intro (cb) ?_ | refine xC_intro (cc) ?_ | refine xC_intro (c1) ?_ | refine xC_intro (c2) ?_ | refine xC_intro (p1) ?_ | refine xC_intro (p2) ?_ | refine xC_intro (p3) ?_ | refine xC_intro (p4) ?_ | refine xC_intro (p5) ?_ | refine xC_intro (d48) ?_ | refine WP.cond' ?_); simp -implicitDefEqProofs (maxSteps := 2000000) [hP, hN, k1, k1n, k2, k2n, k3, k3n, hpos, hpos', hyl, hw, hw2, hst, hdl, show c.length * 8 ≤ 140737488355328 by omega, show c.length ≤ 9223372036854775807 by omega]))
        | (with_reducible ((first | refine WP.draw (hn := []) (by rw [hP]; kernel_rfl) (by kernel_rfl) ?_ | refine yC_intro (cs) ?_ | refine yC_intro (ct) ?_ | refine yC_intro (ca) ?_ | refine yC_intro (cb) ?_ | refine yC_intro (cc) ?_ | refine yC_intro (c1) ?_ | refine yC_intro (c2) ?_ | refine yC_intro (p1) ?_ | refine yC_intro (p2) ?_ | refine yC_intro (p3) ?_ | refine yC_intro (p4) ?_ | refine yC_intro (p5) ?_ | refine yC_intro (d48) ?_); simp -implicitDefEqProofs (maxSteps := 2000000) [hP, hN, k1, k1n, k2, k2n, k3, k3n, hpos, hpos', hyl, hw, hw2, hst, hdl, show c.length * 8 ≤ 140737488355328 by omega, show c.length ≤ 9223372036854775807 by omega]; (try refine ⟨by kernel_rfl, ?_⟩)))
        | (with_reducible refine xB_split (by simp [k1, k1n, k2, k2n, k3, k3n, hpos, hpos', hyl, hw, hw2, hst, hdl, show c.length * 8 ≤ 140737488355328 by omega, show c.length ≤ 9223372036854775807 by omega]) (fun hgd => ?_) (fun hgd => ?_) <;> first | (exfalso; simp at hgd; done) | (exfalso; simp at hgd; omega) | simp -implicitDefEqProofs (maxSteps := 2000000) [hP, hN, k1, k1n, k2, k2n, k3, k3n, hpos, hpos', hyl, hw, hw2, hst, hdl, show c.length * 8 ≤ 140737488355328 by omega, show c.length ≤ 9223372036854775807 by omega])
        | (with_reducible refine yB_split (by simp [k1, k1n, k2, k2n, k3, k3n, hpos, hpos', hyl, hw, hw2, hst, hdl, show c.length * 8 ≤ 140737488355328 by omega, show c.length ≤ 9223372036854775807 by omega]) (fun hgd => ?_) (fun hgd => ?_) <;> first | (exfalso; simp at hgd; done) | (exfalso; simp at hgd; omega) | (simp -implicitDefEqProofs (maxSteps := 2000000) [hP, hN, k1, k1n, k2, k2n, k3, k3n, hpos, hpos', hyl, hw, hw2, hst, hdl, show c.length * 8 ≤ 140737488355328 by omega, show c.length ≤ 9223372036854775807 by omega] <;> (try refine ⟨by kernel_rfl, ?_⟩)))
        | with_reducible refine xTwo_intro ?_ ?_
        | (with_reducible refine xCond_split (fun hcd => ?_) (fun hcd => ?_) <;> (try (exfalso; clear hP hN; simp_all; done)) <;> (try (exfalso; simp at *; omega)))
        | with_reducible refine WP.block ?_
        | (with_reducible ((first | refine WP.skip ?_ | refine WP.exit ?_ | refine WP.ret ?_); simp [k1, k1n, k2, k2n, k3, k3n, hpos, hpos', hyl, hw, hw2, hst, hdl, show c.length * 8 ≤ 140737488355328 by omega, show c.length ≤ 9223372036854775807 by omega])))
  · rw [Bool.not_eq_true] at hbig
    rw [hbig] at cs
    refine detP_of Try.func10 rfl (by kernel_rfl) (by simp [Try.f10]) rfl ?_
    intro C hP hN
    simp only [Try.f10] at hN ⊢
    repeat' (first
      | with_reducible refine WP.seq ?_
      | (with_reducible ((first | refine WP.region (hn := []) ?_ | refine xC_intro (cs) ?_ | refine xC_intro (d48) ?_ | refine WP.cond' ?_); simp -implicitDefEqProofs (maxSteps := 2000000) [hP, hN]))
      | (with_reducible ((first | refine WP.draw (hn := []) (by rw [hP]; kernel_rfl) (by kernel_rfl) ?_ | refine yC_intro (cs) ?_ | refine yC_intro (d48) ?_); simp -implicitDefEqProofs (maxSteps := 2000000) [hP, hN]; (try refine ⟨by kernel_rfl, ?_⟩)))
      | (with_reducible refine xB_split (by simp) (fun hgd => ?_) (fun hgd => ?_) <;> first | (exfalso; simp at hgd; done) | (exfalso; simp at hgd; omega) | simp -implicitDefEqProofs (maxSteps := 2000000) [hP, hN])
      | (with_reducible refine yB_split (by simp) (fun hgd => ?_) (fun hgd => ?_) <;> first | (exfalso; simp at hgd; done) | (exfalso; simp at hgd; omega) | (simp -implicitDefEqProofs (maxSteps := 2000000) [hP, hN] <;> (try refine ⟨by kernel_rfl, ?_⟩)))
      | with_reducible refine xTwo_intro ?_ ?_
      | (with_reducible refine xCond_split (fun hcd => ?_) (fun hcd => ?_) <;> (try (exfalso; clear hP hN; simp_all; done)) <;> (try (exfalso; simp at *; omega)))
      | with_reducible refine WP.block ?_
      | (with_reducible ((first | refine WP.skip ?_ | refine WP.exit ?_ | refine WP.ret ?_); simp)))
theorem atP_between {N i f t lo hi : Int} (hN : 0 < N) (h0 : 0 ≤ i) (h1 : i ≤ N) (hf : lo ≤ f ∧ f ≤ hi) (ht : lo ≤ t ∧ t ≤ hi) : lo ≤ atP N i f t ∧ atP N i f t ≤ hi := by
  unfold atP
  by_cases h : f ≤ t
  · have e1 : 0 ≤ i * (t - f) := Int.mul_nonneg h0 (by omega)
    have e2 : i * (t - f) ≤ N * (t - f) := Int.mul_le_mul_of_nonneg_right h1 (by omega)
    have d1 : 0 ≤ (i * (t - f)) / N := Int.ediv_nonneg e1 (by omega)
    have d2 : (i * (t - f)) / N ≤ t - f := by
      have := Int.ediv_le_ediv hN e2
      rwa [Int.mul_ediv_cancel_left _ (by omega)] at this
    omega
  · have e1 : i * (t - f) ≤ 0 := by
      have : 0 ≤ i * (f - t) := Int.mul_nonneg h0 (by omega)
      have e : i * (t - f) = - (i * (f - t)) := by rw [← Int.mul_neg]; congr 1; omega
      omega
    have e2 : N * (t - f) ≤ i * (t - f) := by
      have := Int.mul_le_mul_of_nonneg_right h1 (show 0 ≤ f - t by omega)
      have e : i * (t - f) = - (i * (f - t)) := by rw [← Int.mul_neg]; congr 1; omega
      have e' : N * (t - f) = - (N * (f - t)) := by rw [← Int.mul_neg]; congr 1; omega
      omega
    have d1 : (i * (t - f)) / N ≤ 0 := by
      have := Int.ediv_le_ediv hN e1
      simpa using this
    have d2 : t - f ≤ (i * (t - f)) / N := by
      have := Int.ediv_le_ediv hN e2
      rwa [Int.mul_ediv_cancel_left _ (by omega)] at this
    omega
theorem at_has {b : Bx} {p q : List Int} {d i : Int} (hv : allB vI b = true) (hb : ∀ x ∈ b, -1000000 ≤ x.1 ∧ x.2 ≤ 1000000) (hp : hasC b p = true) (hq : hasC b q = true) (h0 : 0 ≤ d) (h1 : d ≤ 20) (hi : 0 ≤ i) (hi' : i ≤ 2 ^ d.toNat) : (refAtL p q d i).2 = true ∧ hasC b (refAtL p q d i).1 = true ∧ (refAtL p q d i).1.length = b.length := by
  obtain ⟨l1, m1⟩ := (hasC_vi hv).1 hp
  obtain ⟨l2, m2⟩ := (hasC_vi hv).1 hq
  have rng : ∀ {c : List Int}, hasC b c = true → ∀ x ∈ c, -1000000 ≤ x ∧ x ≤ 1000000 := by
    intro c hc x hx
    obtain ⟨l3, m3⟩ := (hasC_vi hv).1 hc
    obtain ⟨j, hj⟩ := List.getElem?_of_mem hx
    have hjl := (List.getElem?_eq_some_iff.1 hj).1
    have hbj : b[j]? = some (b[j]'(by omega)) := List.getElem?_eq_getElem _
    have := m3 j _ _ hbj hj
    have := hb _ (List.mem_of_getElem? hbj)
    omega
  rw [refAtL_eq, at_of (by omega) (rng hp) (rng hq) h0 h1 hi hi']
  refine ⟨rfl, (hasC_vi hv).2 ⟨by simp; omega, fun j x y hx hy => ?_⟩, by simp; omega⟩
  simp only [List.getElem?_zipWith] at hy
  cases hpj : p[j]? with
  | none => simp [hpj] at hy
  | some u =>
    cases hqj : q[j]? with
    | none => simp [hpj, hqj] at hy
    | some v =>
      simp [hpj, hqj] at hy
      rw [← hy]
      exact atP_between (pow_pos2 _) hi hi' (m1 j x u hx hpj) (m2 j x v hx hqj)
/-- A box of a tree lies in the tree's. -/
theorem boxes_sub {t : Tr} {j : Nat} {b : Bx} (hb : (boxesL t)[j]? = some b) {lo hi : Int} (hr : ∀ x ∈ t.root, lo ≤ x.1 ∧ x.2 ≤ hi) : ∀ x ∈ b, lo ≤ x.1 ∧ x.2 ≤ hi := by
  cases hL : boxesO t with
  | none => simp [boxesL, hL] at hb
  | some L =>
    have hP := boxes_ind (P := fun _ M => ∀ (k : Nat) d, M[k]? = some (some d) → ∀ x ∈ d, lo ≤ x.1 ∧ x.2 ≤ hi) hL (by
      intro k d hd
      cases k with
      | zero => simp [bInit] at hd; subst hd; exact hr
      | succ k => simp [bInit, List.getElem?_replicate] at hd) (by
      intro k c M M' hk hp hm
      obtain ⟨d, hd, ⟨_, _, rfl⟩ | ⟨_, hi', hh, hlo, hhi, rfl⟩⟩ := bStep_some hm
      · exact hp
      · have hdr := hp k d hd
        obtain ⟨x, hx, hv, h3, ea, ez⟩ := halve_eq hh
        have hxr := hdr x (List.mem_of_getElem? hx)
        have hxv := validB_iff.1 hv
        have key : ∀ y : Int × Int, lo ≤ y.1 → y.2 ≤ hi → ∀ z ∈ d.set c.joint.toNat y, lo ≤ z.1 ∧ z.2 ≤ hi := by
          intro y h1 h2 z hz
          rcases List.mem_or_eq_of_mem_set hz with h | rfl
          · exact hdr z h
          · exact ⟨h1, h2⟩
        intro k' e he
        rw [List.getElem?_set] at he
        split at he
        · split at he
          · injection he with he; injection he with he; subst he
            rw [ez]; exact key _ (by simp only; omega) (by simp only; omega)
          · cases he
        · rw [List.getElem?_set] at he
          split at he
          · split at he
            · injection he with he; injection he with he; subst he
              rw [ea]; exact key _ (by simp only; omega) (by simp only; omega)
            · cases he
          · exact hp k' e he)
    refine hP j b ?_
    rw [boxesO_map hL]; simp [hb]
theorem in_of_hasRoot {t : Tr} {p : List Int} (h : hasC t.root p = true) : p.length = t.root.length := by
  simp only [hasC, Bool.and_eq_true, decide_eq_true_eq] at h; exact h.1.symm
/-- Each point of a chain lies in the boxes on both sides of it. -/
theorem pt_in {t : Tr} {chain p q : List Int} (h : chainOk t chain p q = true) {k : Nat} (hk : k < chain.length) : hasC (boxAt t chain[k]) (ptS t chain p k) = true ∧ hasC (boxAt t chain[k]) ((ptsL t chain p q)[k + 1]?.getD []) = true ∧ (ptsL t chain p q)[k]? = some (ptS t chain p k) := by
  obtain ⟨hC, hE⟩ := chOk_pre h
  have hpos := List.length_pos_iff.2 hC.ne
  have hl1 : chain.length - 1 < chain.length := by omega
  simp only [chEnds, Bool.and_eq_true, List.getElem?_eq_getElem hpos, List.getElem?_eq_getElem hl1, Option.getD_some] at hE
  have hq : ptsL t chain p q = (List.range chain.length).map (ptS t chain p) ++ [q] := by simp [ptsL, h]
  have port : ∀ {j : Nat} (hj : j + 1 < chain.length), hasC (boxAt t chain[j]) (ptS t chain p (j + 1)) = true ∧ hasC (boxAt t chain[j + 1]) (ptS t chain p (j + 1)) = true := by
    intro j hj
    rw [hC.pt_succ hj]
    exact portal_in (hC.touch hj) (by rw [hC.pt_len (by omega : j < chain.length), (hC.box (by omega : j < chain.length)).2.1])
  refine ⟨?_, ?_, ?_⟩
  · cases k with
    | zero => exact hE.1
    | succ k => exact (port hk).2
  · rw [hq]
    by_cases hk1 : k + 1 < chain.length
    · rw [List.getElem?_append_left (by simpa using hk1), List.getElem?_map, List.getElem?_range hk1]
      simp only [Option.map_some, Option.getD_some]
      exact (port hk1).1
    · have e : k = chain.length - 1 := by omega
      subst e
      rw [List.getElem?_append_right (by simp; omega)]
      rw [show chain.length - 1 + 1 - (List.map (ptS t chain p) (List.range chain.length)).length = 0 by simp; omega]
      exact hE.2
  · rw [hq, List.getElem?_append_left (by simpa using hk), List.getElem?_map, List.getElem?_range hk]; rfl
set_option maxRecDepth 100000 in
set_option maxHeartbeats 16000000 in
theorem d11 (l m o : List Int) (depth index : Int) : DetH Try.prog 11 [.pv (zs l), .pv (zs m), .pv (zs o), .pv (Z depth), .pv (Z index)] [] [] (.pv (B true)) := by
  have hT := mkTree_ok l
  have ct := d21 l
  generalize mkTree l = t at *
  have hz := sizeOk_iff.1 (valid_size hT.valid)
  have h27 := hT.cells
  have h3 := hT.three
  have ca := d26 t.root m (by omega) hz.2.2.2.2
  have cb := d26 t.root o (by omega) hz.2.2.2.2
  have la := inL_len t.root m
  have lb := inL_len t.root o
  generalize inL t.root m = a at *
  generalize inL t.root o = b at *
  have cc := chainB t a b (by omega) (by omega) (by omega) (by omega)
  have hcl := chn_len (t := t) (p := a) (q := b)
  cases hok : chnOk t a b 3 with
  | false =>
    rw [hok] at cc
    generalize chnL t a b 3 = c at *
    refine detP_of Try.func11 rfl (by kernel_rfl) (by simp [Try.f11]) rfl ?_
    intro C hP hN
    simp only [Try.f11] at hN ⊢
    repeat' (first
      | with_reducible refine WP.seq ?_
      | (with_reducible ((first | refine WP.region (hn := []) ?_ | refine xC_intro (ct) ?_ | refine xC_intro (ca) ?_ | refine xC_intro (cb) ?_ | refine xC_intro (cc) ?_ | refine xC_intro (d48) ?_ | refine WP.cond' ?_); simp -implicitDefEqProofs (maxSteps := 2000000) [hP, hN]))
      | (with_reducible ((first | refine WP.draw (hn := []) (by rw [hP]; kernel_rfl) (by kernel_rfl) ?_ | refine yC_intro (ct) ?_ | refine yC_intro (ca) ?_ | refine yC_intro (cb) ?_ | refine yC_intro (cc) ?_ | refine yC_intro (d48) ?_); simp -implicitDefEqProofs (maxSteps := 2000000) [hP, hN]; (try refine ⟨by kernel_rfl, ?_⟩)))
      | (with_reducible refine xB_split (by simp) (fun hgd => ?_) (fun hgd => ?_) <;> first | (exfalso; simp at hgd; done) | (exfalso; simp at hgd; omega) | simp -implicitDefEqProofs (maxSteps := 2000000) [hP, hN])
      | (with_reducible refine yB_split (by simp) (fun hgd => ?_) (fun hgd => ?_) <;> first | (exfalso; simp at hgd; done) | (exfalso; simp at hgd; omega) | (simp -implicitDefEqProofs (maxSteps := 2000000) [hP, hN] <;> (try refine ⟨by kernel_rfl, ?_⟩)))
      | with_reducible refine xTwo_intro ?_ ?_
      | (with_reducible refine xCond_split (fun hcd => ?_) (fun hcd => ?_) <;> (try (exfalso; clear hP hN; simp_all; done)) <;> (try (exfalso; simp at *; omega)))
      | with_reducible refine WP.block ?_
      | (with_reducible ((first | refine WP.skip ?_ | refine WP.exit ?_ | refine WP.ret ?_); simp)))
  | true =>
    rw [hok] at cc
    have hch := (chn_chain hok).1
    generalize chnL t a b 3 = c at *
    obtain ⟨hC, _⟩ := chOk_pre hch
    have hpos := List.length_pos_iff.2 hC.ne
    have cp := d51 t c a b (by omega) (by omega) (by omega)
    rw [hch] at cp
    have cx := d52 t (by omega)
    rw [hT.valid] at cx
    have hbl := boxesL_len hT.valid
    have hin := fun {k : Nat} (hk : k < c.length) => pt_in hch hk
    have hpl : (ptsL t c a b).length = c.length + 1 := by simp [ptsL, hch]
    have hp0 : (ptsL t c a b)[0]? = some a := by simp [ptsL, hch, List.getElem?_append_left, hpos, ptS]
    have hpz : (ptsL t c a b)[c.length]? = some b := by simp [ptsL, hch]
    generalize hP9 : ptsL t c a b = pl at *
    have c1 := d47 a a (by omega) (by omega)
    have c2 := d47 b b (by omega) (by omega)
    rw [same_refl] at c1 c2
    have hl0 : 0 < pl.length := by omega
    have hlz : c.length < pl.length := by omega
    have hp0' := get_of hp0 hl0
    have hpz' := get_of hpz hlz
    have hne : ((pl.length : Int) != (c.length : Int) + 1) = false := by rw [hpl]; simp
    have hwl : IntKind.i64.wrap ((c.length : Int) + 1) = (c.length : Int) + 1 := wr_id (by omega) (by omega)
    have cd := d35 depth 8 (by decide)
    have hdr := round_range depth (k := 8) (by decide) (by decide)
    generalize roundI depth 8 = d at *
    refine detP_of Try.func11 rfl (by kernel_rfl) (by simp [Try.f11]) rfl ?_
    intro C hP hN
    simp only [Try.f11] at hN ⊢
    repeat' (first
      | with_reducible refine WP.seq ?_
      | (with_reducible ((first | refine WP.region (hn := []) ?_ | refine xC_intro (ct) ?_ | refine xC_intro (ca) ?_ | refine xC_intro (cb) ?_ | refine xC_intro (cc) ?_ | refine xC_intro (cp) ?_ | refine xC_intro (cx) ?_ | refine xC_intro (c1) ?_ | refine xC_intro (c2) ?_ | refine xC_intro (cd) ?_ | refine WP.cond' ?_); simp -implicitDefEqProofs (maxSteps := 2000000) [hP, hN, hbl, hpl, hp0, hpz, hl0, hlz, hp0', hpz', hne, hwl]))
      | (with_reducible ((first | refine WP.draw (hn := []) (by rw [hP]; kernel_rfl) (by kernel_rfl) ?_ | refine yC_intro (ct) ?_ | refine yC_intro (ca) ?_ | refine yC_intro (cb) ?_ | refine yC_intro (cc) ?_ | refine yC_intro (cp) ?_ | refine yC_intro (cx) ?_ | refine yC_intro (c1) ?_ | refine yC_intro (c2) ?_ | refine yC_intro (cd) ?_); simp -implicitDefEqProofs (maxSteps := 2000000) [hP, hN, hbl, hpl, hp0, hpz, hl0, hlz, hp0', hpz', hne, hwl]; (try refine ⟨by kernel_rfl, ?_⟩)))
      | (with_reducible refine xB_split (by simp [hbl, hpl, hp0, hpz, hl0, hlz, hp0', hpz', hne, hwl]) (fun hgd => ?_) (fun hgd => ?_) <;> first | (exfalso; simp at hgd; done) | (exfalso; simp at hgd; omega) | simp -implicitDefEqProofs (maxSteps := 2000000) [hP, hN, hbl, hpl, hp0, hpz, hl0, hlz, hp0', hpz', hne, hwl])
      | (with_reducible refine yB_split (by simp [hbl, hpl, hp0, hpz, hl0, hlz, hp0', hpz', hne, hwl]) (fun hgd => ?_) (fun hgd => ?_) <;> first | (exfalso; simp at hgd; done) | (exfalso; simp at hgd; omega) | (simp -implicitDefEqProofs (maxSteps := 2000000) [hP, hN, hbl, hpl, hp0, hpz, hl0, hlz, hp0', hpz', hne, hwl] <;> (try refine ⟨by kernel_rfl, ?_⟩)))
      | with_reducible refine xTwo_intro ?_ ?_
      | (with_reducible refine xCond_split (fun hcd => ?_) (fun hcd => ?_) <;> (try (exfalso; clear hP hN; simp_all; done)) <;> (try (exfalso; simp at *; omega)))
      | with_reducible refine WP.block ?_
      | (with_reducible ((first | refine WP.skip ?_ | refine WP.exit ?_ | refine WP.ret ?_); simp [hbl, hpl, hp0, hpz, hl0, hlz, hp0', hpz', hne, hwl])))
    have hu : IntKind.u64.wrap d = d := by rw [IntKind.wrap_u64]; omega
    have hd64 : d < 64 := by omega
    have hpw : (1 : Int) ≤ 2 ^ d.toNat ∧ (2 : Int) ^ d.toNat ≤ 128 := by
      have : d = 0 ∨ d = 1 ∨ d = 2 ∨ d = 3 ∨ d = 4 ∨ d = 5 ∨ d = 6 ∨ d = 7 := by omega
      rcases this with rfl | rfl | rfl | rfl | rfl | rfl | rfl | rfl <;> decide
    have hwp : IntKind.i64.wrap ((2 : Int) ^ d.toNat + 1) = (2 : Int) ^ d.toNat + 1 := wr_id (by omega) (by omega)
    have ci := d35 index ((2 : Int) ^ d.toNat + 1) (by omega)
    have hir := round_range index (k := (2 : Int) ^ d.toNat + 1) (by omega) (by omega)
    generalize roundI index ((2 : Int) ^ d.toNat + 1) = ix at *
    refine WP.loopN [] c.length (fun i st => st.t 4 = .pv (Z index) ∧ st.t 14 = .pv (zs c) ∧ st.t 16 = .pv (.sl (pl.map zs)) ∧ st.t 18 = .pv (.sl ((boxesL t).map iv)) ∧ st.t 20 = .pv (Z d) ∧ st.t 21 = .pv (Z i)) (by simp) ?_
    rintro i st hi ⟨g4, g14, g16, g18, g20, g21⟩
    by_cases hlt : i < c.length
    · have hwi := wr_succ hlt (by omega)
      obtain ⟨u1, u2, u3⟩ := hin hlt
      have bx := hC.box hlt
      have hcg := hC.get hlt
      obtain ⟨x, hx⟩ := Int.eq_ofNat_of_zero_le hcg.1
      rw [hx] at bx u1 u2 hcg
      have hxB : x < (boxesL t).length := by omega
      have bx1 : (boxesL t)[x]? = some (boxAt t x) := bx.1
      have bx2 := get_of bx1 hxB
      have hsub := boxes_sub bx1 (lo := -40) (hi := 100) (fun y hy => ⟨(hT.rng y hy).1, (hT.rng y hy).2.2⟩)
      have hil : i < pl.length := by omega
      have hil1 : i + 1 < pl.length := by omega
      have v1 := get_of u3 hil
      have v2 : pl[i + 1]? = some pl[i + 1] := List.getElem?_eq_getElem hil1
      rw [v2, Option.getD_some] at u2
      generalize ptS t c a i = p at *
      generalize hQ : pl[i + 1] = q at *
      have lp : p.length = t.root.length := by rw [(in_of_hasRoot (t := ⟨boxAt t x, []⟩) u1)]; exact bx.2.1
      have lq : q.length = t.root.length := by rw [(in_of_hasRoot (t := ⟨boxAt t x, []⟩) u2)]; exact bx.2.1
      have cat := d53 p q d ix (by omega) (by omega)
      obtain ⟨w1, w2, w3⟩ := at_has (d := d) (i := ix) bx.2.2 (fun y hy => by have := hsub y hy; omega) u1 u2 (by omega) (by omega) (by omega) (by omega)
      rw [w1] at cat
      generalize (refAtL p q d ix).1 = r at *
      have d1 := d30 (boxAt t x) p (by have := bx.2.1; omega) (by omega)
      have d2 := d30 (boxAt t x) q (by have := bx.2.1; omega) (by omega)
      have d3 := d30 (boxAt t x) r (by have := bx.2.1; omega) (by have := bx.2.1; omega)
      rw [hasL_eq, u1] at d1
      rw [hasL_eq, u2] at d2
      rw [hasL_eq, w2] at d3
      have hi1 : ((i : Int) + 1).toNat = i + 1 := by omega
      have hi0 : (0 : Int) ≤ (i : Int) + 1 := by omega
      repeat' (first
        | with_reducible refine WP.seq ?_
        | (with_reducible ((first | refine WP.region (hn := []) ?_ | refine xC_intro (ci) ?_ | refine xC_intro (cat) ?_ | refine xC_intro (d1) ?_ | refine xC_intro (d2) ?_ | refine xC_intro (d3) ?_ | refine WP.cond' ?_); simp -implicitDefEqProofs (maxSteps := 2000000) [hP, hN, g4, g14, g16, g18, g20, g21, hlt, hwi, hx, hxB, bx1, bx2, hil, hil1, u3, v1, v2, hQ, hu, hdr.1, bits64, min64 hd64, wr_shl hdr.1 (by omega), hwp, hi1, hi0]))
        | (with_reducible ((first | refine WP.draw (hn := []) (by rw [hP]; kernel_rfl) (by kernel_rfl) ?_ | refine yC_intro (ci) ?_ | refine yC_intro (cat) ?_ | refine yC_intro (d1) ?_ | refine yC_intro (d2) ?_ | refine yC_intro (d3) ?_); simp -implicitDefEqProofs (maxSteps := 2000000) [hP, hN, g4, g14, g16, g18, g20, g21, hlt, hwi, hx, hxB, bx1, bx2, hil, hil1, u3, v1, v2, hQ, hu, hdr.1, bits64, min64 hd64, wr_shl hdr.1 (by omega), hwp, hi1, hi0]; (try refine ⟨by kernel_rfl, ?_⟩)))
        | (with_reducible refine xB_split (by simp [g4, g14, g16, g18, g20, g21, hlt, hwi, hx, hxB, bx1, bx2, hil, hil1, u3, v1, v2, hQ, hu, hdr.1, bits64, min64 hd64, wr_shl hdr.1 (by omega), hwp, hi1, hi0]) (fun hgd => ?_) (fun hgd => ?_) <;> first | (exfalso; simp at hgd; done) | (exfalso; simp at hgd; omega) | simp -implicitDefEqProofs (maxSteps := 2000000) [hP, hN, g4, g14, g16, g18, g20, g21, hlt, hwi, hx, hxB, bx1, bx2, hil, hil1, u3, v1, v2, hQ, hu, hdr.1, bits64, min64 hd64, wr_shl hdr.1 (by omega), hwp, hi1, hi0])
        | (with_reducible refine yB_split (by simp [g4, g14, g16, g18, g20, g21, hlt, hwi, hx, hxB, bx1, bx2, hil, hil1, u3, v1, v2, hQ, hu, hdr.1, bits64, min64 hd64, wr_shl hdr.1 (by omega), hwp, hi1, hi0]) (fun hgd => ?_) (fun hgd => ?_) <;> first | (exfalso; simp at hgd; done) | (exfalso; simp at hgd; omega) | (simp -implicitDefEqProofs (maxSteps := 2000000) [hP, hN, g4, g14, g16, g18, g20, g21, hlt, hwi, hx, hxB, bx1, bx2, hil, hil1, u3, v1, v2, hQ, hu, hdr.1, bits64, min64 hd64, wr_shl hdr.1 (by omega), hwp, hi1, hi0] <;> (try refine ⟨by kernel_rfl, ?_⟩)))
        | with_reducible refine xTwo_intro ?_ ?_
        | (with_reducible refine xCond_split (fun hcd => ?_) (fun hcd => ?_) <;> (try (exfalso; clear hP hN; simp_all; done)) <;> (try (exfalso; simp at *; omega)))
        | with_reducible refine WP.block ?_
        | (with_reducible ((first | refine WP.skip ?_ | refine WP.exit ?_ | refine WP.ret ?_); simp [g4, g14, g16, g18, g20, g21, hlt, hwi, hx, hxB, bx1, bx2, hil, hil1, u3, v1, v2, hQ, hu, hdr.1, bits64, min64 hd64, wr_shl hdr.1 (by omega), hwp, hi1, hi0])))
    · skip
      repeat' (first
        | with_reducible refine WP.seq ?_
        | (with_reducible ((first | refine WP.region (hn := []) ?_ | refine xC_intro (d48) ?_ | refine WP.cond' ?_); simp -implicitDefEqProofs (maxSteps := 2000000) [hP, hN, g4, g14, g16, g18, g20, g21, hlt]))
        | (with_reducible ((first | refine WP.draw (hn := []) (by rw [hP]; kernel_rfl) (by kernel_rfl) ?_ | refine yC_intro (d48) ?_); simp -implicitDefEqProofs (maxSteps := 2000000) [hP, hN, g4, g14, g16, g18, g20, g21, hlt]; (try refine ⟨by kernel_rfl, ?_⟩)))
        | (with_reducible refine xB_split (by simp [g4, g14, g16, g18, g20, g21, hlt]) (fun hgd => ?_) (fun hgd => ?_) <;> first | (exfalso; simp at hgd; done) | (exfalso; simp at hgd; omega) | simp -implicitDefEqProofs (maxSteps := 2000000) [hP, hN, g4, g14, g16, g18, g20, g21, hlt])
        | (with_reducible refine yB_split (by simp [g4, g14, g16, g18, g20, g21, hlt]) (fun hgd => ?_) (fun hgd => ?_) <;> first | (exfalso; simp at hgd; done) | (exfalso; simp at hgd; omega) | (simp -implicitDefEqProofs (maxSteps := 2000000) [hP, hN, g4, g14, g16, g18, g20, g21, hlt] <;> (try refine ⟨by kernel_rfl, ?_⟩)))
        | with_reducible refine xTwo_intro ?_ ?_
        | (with_reducible refine xCond_split (fun hcd => ?_) (fun hcd => ?_) <;> (try (exfalso; clear hP hN; simp_all; done)) <;> (try (exfalso; simp at *; omega)))
        | with_reducible refine WP.block ?_
        | (with_reducible ((first | refine WP.skip ?_ | refine WP.exit ?_ | refine WP.ret ?_); simp [g4, g14, g16, g18, g20, g21, hlt])))
end Go.Ab
