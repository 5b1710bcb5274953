/- Contracts: the reference's points; lists of lists. -/
import Derived.Test.YtagmnknighofeaaTr9
set_option linter.all false
namespace Go.Ab
open Go.Proofs
set_option maxRecDepth 10000 in
set_option maxHeartbeats 8000000 in
theorem d110 (t : Tr) (chain p q : List Int) (hl : t.cells.length ≤ 9223372036854775807) (hr : t.root.length ≤ 9223372036854775807) (hk : chain.length ≤ 1000000) (hpl : p.length ≤ 9223372036854775807) (hql : q.length ≤ 9223372036854775807) : DetH Try.prog 110 [.pv (encT t), .pv (zs chain), .pv (zs p), .pv (zs q)] [] [] (.pv (.tup [.sl ((ptsL t chain p q).map zs), B (chainOk t chain p q)])) := by
  have ci := d111 t chain p q hl hr (by omega) hpl hql
  cases hok : chainOk t chain p q with
  | false =>
    rw [hok] at ci
    have e : ptsL t chain p q = [] := by simp [ptsL, hok]
    rw [e]
    refine detP_of Try.func110 rfl (by kernel_rfl) (by simp [Try.f110]) rfl ?_
    intro C hP hN
    simp only [Try.f110] at hN ⊢
    repeat' (first
      | with_reducible refine WP.seq ?_
      | (with_reducible ((first | refine WP.region (hn := []) ?_ | refine xC_intro (ci) ?_ | refine WP.cond' ?_); simp -implicitDefEqProofs (maxSteps := 2000000) [hP, hN]))
      | (with_reducible ((first | refine WP.draw (hn := []) (by rw [hP]; kernel_rfl) (by kernel_rfl) ?_ | refine yC_intro (ci) ?_); simp -implicitDefEqProofs (maxSteps := 2000000) [hP, hN]; (try refine ⟨by kernel_rfl, ?_⟩)))
      | (with_reducible refine xB_split (by simp) (fun hgd => ?_) (fun hgd => ?_) <;> first | (exfalso; simp at hgd; done) | (exfalso; simp at hgd; omega) | simp -implicitDefEqProofs (maxSteps := 2000000) [hP, hN])
      | (with_reducible refine yB_split (by simp) (fun hgd => ?_) (fun hgd => ?_) <;> first | (exfalso; simp at hgd; done) | (exfalso; simp at hgd; omega) | (simp -implicitDefEqProofs (maxSteps := 2000000) [hP, hN] <;> (try refine ⟨by kernel_rfl, ?_⟩)))
      | with_reducible refine xTwo_intro ?_ ?_
      | (with_reducible refine xCond_split (fun hcd => ?_) (fun hcd => ?_) <;> (try (exfalso; clear hP hN; simp_all; done)) <;> (try (exfalso; simp at *; omega)))
      | with_reducible refine WP.block ?_
      | (with_reducible ((first | refine WP.skip ?_ | refine WP.exit ?_ | refine WP.ret ?_); simp)))
  | true =>
    rw [hok] at ci
    obtain ⟨hC, _⟩ := chOk_pre hok
    have hpos := List.length_pos_iff.2 hC.ne
    have hz := sizeOk_iff.1 (valid_size hC.valid)
    have cb := d52 t hl
    rw [hC.valid] at cb
    have hbl := boxesL_len hC.valid
    rw [pts_eq hok]
    refine detP_of Try.func110 rfl (by kernel_rfl) (by simp [Try.f110]) rfl ?_
    intro C hP hN
    simp only [Try.f110] at hN ⊢
    repeat' (first
      | with_reducible refine WP.seq ?_
      | (with_reducible ((first | refine WP.region (hn := [28]) ?_ | refine xC_intro (ci) ?_ | refine xC_intro (cb) ?_ | refine WP.cond' ?_); simp -implicitDefEqProofs (maxSteps := 2000000) [hP, hN]))
      | (with_reducible ((first | refine WP.draw (hn := [28]) (by rw [hP]; kernel_rfl) (by kernel_rfl) ?_ | refine yC_intro (ci) ?_ | refine yC_intro (cb) ?_); simp -implicitDefEqProofs (maxSteps := 2000000) [hP, hN]; (try refine ⟨by kernel_rfl, ?_⟩)))
      | (with_reducible refine xB_split (by simp) (fun hgd => ?_) (fun hgd => ?_) <;> first | (exfalso; simp at hgd; done) | (exfalso; simp at hgd; omega) | simp -implicitDefEqProofs (maxSteps := 2000000) [hP, hN])
      | (with_reducible refine yB_split (by simp) (fun hgd => ?_) (fun hgd => ?_) <;> first | (exfalso; simp at hgd; done) | (exfalso; simp at hgd; omega) | (simp -implicitDefEqProofs (maxSteps := 2000000) [hP, hN] <;> (try refine ⟨by kernel_rfl, ?_⟩)))
      | with_reducible refine xTwo_intro ?_ ?_
      | (with_reducible refine xCond_split (fun hcd => ?_) (fun hcd => ?_) <;> (try (exfalso; clear hP hN; simp_all; done)) <;> (try (exfalso; simp at *; omega)))
      | with_reducible refine WP.block ?_
      | (with_reducible ((first | refine WP.skip ?_ | refine WP.exit ?_ | refine WP.ret ?_); simp)))
    refine WP.loopN [] (chain.length - 1) (fun i st => st.t 1 = .pv (zs chain) ∧ st.t 3 = .pv (zs q) ∧ st.t 10 = .pv (.sl ((boxesL t).map iv)) ∧ st.t 12 = .arr 28 (i + 1) ∧ st.t 13 = .pv (Z ((i : Int) + 1)) ∧ st.h 28 = some (.row 33 1 ((List.range (i + 1)).map (zp t chain p)) 0)) (by simp [ptS]) ?_
    rintro i st hi ⟨g1, g3, g10, g12, g13, hb28⟩
    by_cases hlt : i < chain.length - 1
    · have hlt1 : i + 1 < chain.length := by omega
      have hlt0 : i < chain.length := by omega
      have hlti : (i : Int) + 1 < chain.length := by omega
      have hw1 : IntKind.i64.wrap ((i : Int) + 1 - 1) = (i : Int) := by rw [show (i : Int) + 1 - 1 = (i : Int) by omega]; exact wr_id (by omega) (by omega)
      have hw1' : IntKind.i64.wrap (i : Int) = (i : Int) := wr_id (by omega) (by omega)
      have hw2 : IntKind.i64.wrap ((i : Int) + 1 + 1) = (i : Int) + 1 + 1 := wr_id (by omega) (by omega)
      have ht1 : ((i : Int) + 1).toNat = i + 1 := by omega
      have hn1 : (0 : Int) ≤ (i : Int) + 1 := by omega
      have bx := hC.box hlt0
      have bY := hC.box hlt1
      have cp := d163 (boxAt t chain[i]) (boxAt t chain[i + 1]) (ptS t chain p i) (by have := bx.2.1; omega) (by have := bY.2.1; omega)
      rw [hC.pt_ok hlt1, ← hC.pt_succ hlt1] at cp
      obtain ⟨x, hx⟩ := Int.eq_ofNat_of_zero_le (hC.get hlt0).1
      obtain ⟨y, hy⟩ := Int.eq_ofNat_of_zero_le (hC.get hlt1).1
      have hxl := (hC.get hlt0).2.1
      have hyl := (hC.get hlt1).2.1
      rw [hx] at bx hxl
      rw [hy] at bY hyl
      rw [hx, hy] at cp
      have hxB : x < (boxesL t).length := by omega
      have hyB : y < (boxesL t).length := by omega
      have bx1 : (boxesL t)[x]? = some (boxAt t x) := bx.1
      have by1 : (boxesL t)[y]? = some (boxAt t y) := bY.1
      have bx2 := get_of bx1 hxB
      have by2 := get_of by1 hyB
      have hst := range_step (zp t chain p) (i + 1)
      repeat' (first
        | with_reducible refine WP.seq ?_
        | (with_reducible ((first | refine WP.region (hn := []) ?_ | refine xC_intro (cp) ?_ | refine WP.cond' ?_); simp -implicitDefEqProofs (maxSteps := 2000000) [hP, hN, g1, g3, g10, g12, g13, hb28, hlt1, hlt0, hlti, hw1, hw1', hw2, ht1, hn1, hx, hy, bx1, by1, bx2, by2, hxB, hyB, show (i + 1 + 1) * 24 ≤ 140737488355328 by omega, show i + 1 + 1 ≤ 9223372036854775807 by omega]))
        | (with_reducible ((first | refine WP.draw (hn := []) (by rw [hP]; kernel_rfl) (by kernel_rfl) ?_ | refine yC_intro (cp) ?_); simp -implicitDefEqProofs (maxSteps := 2000000) [hP, hN, g1, g3, g10, g12, g13, hb28, hlt1, hlt0, hlti, hw1, hw1', hw2, ht1, hn1, hx, hy, bx1, by1, bx2, by2, hxB, hyB, show (i + 1 + 1) * 24 ≤ 140737488355328 by omega, show i + 1 + 1 ≤ 9223372036854775807 by omega]; (try refine ⟨by kernel_rfl, ?_⟩)))
        | (with_reducible refine xB_split (by simp [g1, g3, g10, g12, g13, hb28, hlt1, hlt0, hlti, hw1, hw1', hw2, ht1, hn1, hx, hy, bx1, by1, bx2, by2, hxB, hyB, show (i + 1 + 1) * 24 ≤ 140737488355328 by omega, show i + 1 + 1 ≤ 9223372036854775807 by omega]) (fun hgd => ?_) (fun hgd => ?_) <;> first | (exfalso; simp at hgd; done) | (exfalso; simp at hgd; omega) | simp -implicitDefEqProofs (maxSteps := 2000000) [hP, hN, g1, g3, g10, g12, g13, hb28, hlt1, hlt0, hlti, hw1, hw1', hw2, ht1, hn1, hx, hy, bx1, by1, bx2, by2, hxB, hyB, show (i + 1 + 1) * 24 ≤ 140737488355328 by omega, show i + 1 + 1 ≤ 9223372036854775807 by omega])
        | (with_reducible refine yB_split (by simp [g1, g3, g10, g12, g13, hb28, hlt1, hlt0, hlti, hw1, hw1', hw2, ht1, hn1, hx, hy, bx1, by1, bx2, by2, hxB, hyB, show (i + 1 + 1) * 24 ≤ 140737488355328 by omega, show i + 1 + 1 ≤ 9223372036854775807 by omega]) (fun hgd => ?_) (fun hgd => ?_) <;> first | (exfalso; simp at hgd; done) | (exfalso; simp at hgd; omega) | (simp -implicitDefEqProofs (maxSteps := 2000000) [hP, hN, g1, g3, g10, g12, g13, hb28, hlt1, hlt0, hlti, hw1, hw1', hw2, ht1, hn1, hx, hy, bx1, by1, bx2, by2, hxB, hyB, show (i + 1 + 1) * 24 ≤ 140737488355328 by omega, show i + 1 + 1 ≤ 9223372036854775807 by omega] <;> (try refine ⟨by kernel_rfl, ?_⟩)))
        | with_reducible refine xTwo_intro ?_ ?_
        | (with_reducible refine xCond_split (fun hcd => ?_) (fun hcd => ?_) <;> (try (exfalso; clear hP hN; simp_all; done)) <;> (try (exfalso; simp at *; omega)))
        | with_reducible refine WP.block ?_
        | (with_reducible ((first | refine WP.skip ?_ | refine WP.exit ?_ | refine WP.ret ?_); simp [g1, g3, g10, g12, g13, hb28, hlt1, hlt0, hlti, hw1, hw1', hw2, ht1, hn1, hx, hy, bx1, by1, bx2, by2, hxB, hyB, show (i + 1 + 1) * 24 ≤ 140737488355328 by omega, show i + 1 + 1 ≤ 9223372036854775807 by omega])))
      all_goals exact ⟨hlt, hst⟩
    · have hi' : i + 1 = chain.length := by omega
      have hlti : ¬ (i : Int) + 1 < chain.length := by omega
      repeat' (first
        | with_reducible refine WP.seq ?_
        | (with_reducible ((first | refine WP.region (hn := []) ?_ | refine WP.cond' ?_); simp -implicitDefEqProofs (maxSteps := 2000000) [hP, hN, g1, g3, g10, g12, g13, hb28, hlti, show (i + 1 + 1) * 24 ≤ 140737488355328 by omega, show i + 1 + 1 ≤ 9223372036854775807 by omega]))
        | (with_reducible ((first | refine WP.draw (hn := []) (by rw [hP]; kernel_rfl) (by kernel_rfl) ?_); simp -implicitDefEqProofs (maxSteps := 2000000) [hP, hN, g1, g3, g10, g12, g13, hb28, hlti, show (i + 1 + 1) * 24 ≤ 140737488355328 by omega, show i + 1 + 1 ≤ 9223372036854775807 by omega]; (try refine ⟨by kernel_rfl, ?_⟩)))
        | (with_reducible refine xB_split (by simp [g1, g3, g10, g12, g13, hb28, hlti, show (i + 1 + 1) * 24 ≤ 140737488355328 by omega, show i + 1 + 1 ≤ 9223372036854775807 by omega]) (fun hgd => ?_) (fun hgd => ?_) <;> first | (exfalso; simp at hgd; done) | (exfalso; simp at hgd; omega) | simp -implicitDefEqProofs (maxSteps := 2000000) [hP, hN, g1, g3, g10, g12, g13, hb28, hlti, show (i + 1 + 1) * 24 ≤ 140737488355328 by omega, show i + 1 + 1 ≤ 9223372036854775807 by omega])
        | (with_reducible refine yB_split (by simp [g1, g3, g10, g12, g13, hb28, hlti, show (i + 1 + 1) * 24 ≤ 140737488355328 by omega, show i + 1 + 1 ≤ 9223372036854775807 by omega]) (fun hgd => ?_) (fun hgd => ?_) <;> first | (exfalso; simp at hgd; done) | (exfalso; simp at hgd; omega) | (simp -implicitDefEqProofs (maxSteps := 2000000) [hP, hN, g1, g3, g10, g12, g13, hb28, hlti, show (i + 1 + 1) * 24 ≤ 140737488355328 by omega, show i + 1 + 1 ≤ 9223372036854775807 by omega] <;> (try refine ⟨by kernel_rfl, ?_⟩)))
        | with_reducible refine xTwo_intro ?_ ?_
        | (with_reducible refine xCond_split (fun hcd => ?_) (fun hcd => ?_) <;> (try (exfalso; clear hP hN; simp_all; done)) <;> (try (exfalso; simp at *; omega)))
        | with_reducible refine WP.block ?_
        | (with_reducible ((first | refine WP.skip ?_ | refine WP.exit ?_ | refine WP.ret ?_); simp [g1, g3, g10, g12, g13, hb28, hlti, show (i + 1 + 1) * 24 ≤ 140737488355328 by omega, show i + 1 + 1 ≤ 9223372036854775807 by omega])))
      all_goals rw [hi']
set_option maxHeartbeats 4000000 in
theorem d106 (xs ys : List (List Int)) (hl : xs.length ≤ 9223372036854775807) (hx : ∀ x ∈ xs, x.length ≤ 9223372036854775807) (hy : ∀ x ∈ ys, x.length ≤ 9223372036854775807) : DetH Try.prog 106 [.pv (.sl (xs.map zs)), .pv (.sl (ys.map zs))] [] [] (.pv (B (sameLL xs ys))) := by
  by_cases he : xs.length = ys.length
  · have he' : ((xs.length : Int) != ys.length) = false := by simp [he]
    have hr : sameLL xs ys = allZ sameX xs ys := by simp [sameLL, he]
    rw [hr]
    refine detP_of Try.func106 rfl (by kernel_rfl) (by simp [Try.f106]) rfl ?_
    intro C hP hN
    simp only [Try.f106] at hN ⊢
    repeat' (first
      | with_reducible refine WP.seq ?_
      | (with_reducible ((first | refine WP.region (hn := []) ?_ | refine WP.cond' ?_); simp -implicitDefEqProofs (maxSteps := 2000000) [hP, hN, he']))
      | (with_reducible ((first | refine WP.draw (hn := []) (by rw [hP]; kernel_rfl) (by kernel_rfl) ?_); simp -implicitDefEqProofs (maxSteps := 2000000) [hP, hN, he']; (try refine ⟨by kernel_rfl, ?_⟩)))
      | (with_reducible refine xB_split (by simp [he']) (fun hgd => ?_) (fun hgd => ?_) <;> first | (exfalso; simp at hgd; done) | (exfalso; simp at hgd; omega) | simp -implicitDefEqProofs (maxSteps := 2000000) [hP, hN, he'])
      | (with_reducible refine yB_split (by simp [he']) (fun hgd => ?_) (fun hgd => ?_) <;> first | (exfalso; simp at hgd; done) | (exfalso; simp at hgd; omega) | (simp -implicitDefEqProofs (maxSteps := 2000000) [hP, hN, he'] <;> (try refine ⟨by kernel_rfl, ?_⟩)))
      | with_reducible refine xTwo_intro ?_ ?_
      | (with_reducible refine xCond_split (fun hcd => ?_) (fun hcd => ?_) <;> (try (exfalso; clear hP hN; simp_all; done)) <;> (try (exfalso; simp at *; omega)))
      | with_reducible refine WP.block ?_
      | (with_reducible ((first | refine WP.skip ?_ | refine WP.exit ?_ | refine WP.ret ?_); simp [he'])))
    refine WP.loopN [] xs.length (fun i st => st.t 0 = .pv (.sl (xs.map zs)) ∧ st.t 1 = .pv (.sl (ys.map zs)) ∧ st.t 5 = .pv (Z i) ∧ allZt sameX xs ys i = true) (by simp [allZt]) ?_
    rintro i st hi ⟨g0, g1, g5, hq⟩
    by_cases hlt : i < xs.length
    · have hw := wr_succ hlt hl
      have hlt' : i < ys.length := by omega
      have hF : sameX xs[i] ys[i] = false → allZ sameX xs ys = false := allZ_false hlt hlt'
      have hS : sameX xs[i] ys[i] = true → allZt sameX xs ys (i + 1) = true := allZ_step hlt hlt' hq
      have cm := d47 xs[i] ys[i] (hx _ (List.getElem_mem hlt)) (hy _ (List.getElem_mem hlt'))
      cases ht : sameX xs[i] ys[i] with
      | true =>
        rw [ht] at cm
        repeat' (first
          | with_reducible refine WP.seq ?_
          | (with_reducible ((first | refine WP.region (hn := []) ?_ | refine xC_intro (cm) ?_ | refine WP.cond' ?_); simp -implicitDefEqProofs (maxSteps := 2000000) [hP, hN, g0, g1, g5, hlt, hlt', hw]))
          | (with_reducible ((first | refine WP.draw (hn := []) (by rw [hP]; kernel_rfl) (by kernel_rfl) ?_ | refine yC_intro (cm) ?_); simp -implicitDefEqProofs (maxSteps := 2000000) [hP, hN, g0, g1, g5, hlt, hlt', hw]; (try refine ⟨by kernel_rfl, ?_⟩)))
          | (with_reducible refine xB_split (by simp [g0, g1, g5, hlt, hlt', hw]) (fun hgd => ?_) (fun hgd => ?_) <;> first | (exfalso; simp at hgd; done) | (exfalso; simp at hgd; omega) | simp -implicitDefEqProofs (maxSteps := 2000000) [hP, hN, g0, g1, g5, hlt, hlt', hw])
          | (with_reducible refine yB_split (by simp [g0, g1, g5, hlt, hlt', hw]) (fun hgd => ?_) (fun hgd => ?_) <;> first | (exfalso; simp at hgd; done) | (exfalso; simp at hgd; omega) | (simp -implicitDefEqProofs (maxSteps := 2000000) [hP, hN, g0, g1, g5, hlt, hlt', hw] <;> (try refine ⟨by kernel_rfl, ?_⟩)))
          | with_reducible refine xTwo_intro ?_ ?_
          | (with_reducible refine xCond_split (fun hcd => ?_) (fun hcd => ?_) <;> (try (exfalso; clear hP hN; simp_all; done)) <;> (try (exfalso; simp at *; omega)))
          | with_reducible refine WP.block ?_
          | (with_reducible ((first | refine WP.skip ?_ | refine WP.exit ?_ | refine WP.ret ?_); simp [g0, g1, g5, hlt, hlt', hw])))
        all_goals exact hS ht
      | false =>
        rw [ht] at cm
        repeat' (first
          | with_reducible refine WP.seq ?_
          | (with_reducible ((first | refine WP.region (hn := []) ?_ | refine xC_intro (cm) ?_ | refine WP.cond' ?_); simp -implicitDefEqProofs (maxSteps := 2000000) [hP, hN, g0, g1, g5, hlt, hlt', hw]))
          | (with_reducible ((first | refine WP.draw (hn := []) (by rw [hP]; kernel_rfl) (by kernel_rfl) ?_ | refine yC_intro (cm) ?_); simp -implicitDefEqProofs (maxSteps := 2000000) [hP, hN, g0, g1, g5, hlt, hlt', hw]; (try refine ⟨by kernel_rfl, ?_⟩)))
          | (with_reducible refine xB_split (by simp [g0, g1, g5, hlt, hlt', hw]) (fun hgd => ?_) (fun hgd => ?_) <;> first | (exfalso; simp at hgd; done) | (exfalso; simp at hgd; omega) | simp -implicitDefEqProofs (maxSteps := 2000000) [hP, hN, g0, g1, g5, hlt, hlt', hw])
          | (with_reducible refine yB_split (by simp [g0, g1, g5, hlt, hlt', hw]) (fun hgd => ?_) (fun hgd => ?_) <;> first | (exfalso; simp at hgd; done) | (exfalso; simp at hgd; omega) | (simp -implicitDefEqProofs (maxSteps := 2000000) [hP, hN, g0, g1, g5, hlt, hlt', hw] <;> (try refine ⟨by kernel_rfl, ?_⟩)))
          | with_reducible refine xTwo_intro ?_ ?_
          | (with_reducible refine xCond_split (fun hcd => ?_) (fun hcd => ?_) <;> (try (exfalso; clear hP hN; simp_all; done)) <;> (try (exfalso; simp at *; omega)))
          | with_reducible refine WP.block ?_
          | (with_reducible ((first | refine WP.skip ?_ | refine WP.exit ?_ | refine WP.ret ?_); simp [g0, g1, g5, hlt, hlt', hw])))
        all_goals simp [hF ht]
    · skip
      repeat' (first
        | with_reducible refine WP.seq ?_
        | (with_reducible ((first | refine WP.region (hn := []) ?_ | refine WP.cond' ?_); simp -implicitDefEqProofs (maxSteps := 2000000) [hP, hN, g0, g1, g5, hlt]))
        | (with_reducible ((first | refine WP.draw (hn := []) (by rw [hP]; kernel_rfl) (by kernel_rfl) ?_); simp -implicitDefEqProofs (maxSteps := 2000000) [hP, hN, g0, g1, g5, hlt]; (try refine ⟨by kernel_rfl, ?_⟩)))
        | (with_reducible refine xB_split (by simp [g0, g1, g5, hlt]) (fun hgd => ?_) (fun hgd => ?_) <;> first | (exfalso; simp at hgd; done) | (exfalso; simp at hgd; omega) | simp -implicitDefEqProofs (maxSteps := 2000000) [hP, hN, g0, g1, g5, hlt])
        | (with_reducible refine yB_split (by simp [g0, g1, g5, hlt]) (fun hgd => ?_) (fun hgd => ?_) <;> first | (exfalso; simp at hgd; done) | (exfalso; simp at hgd; omega) | (simp -implicitDefEqProofs (maxSteps := 2000000) [hP, hN, g0, g1, g5, hlt] <;> (try refine ⟨by kernel_rfl, ?_⟩)))
        | with_reducible refine xTwo_intro ?_ ?_
        | (with_reducible refine xCond_split (fun hcd => ?_) (fun hcd => ?_) <;> (try (exfalso; clear hP hN; simp_all; done)) <;> (try (exfalso; simp at *; omega)))
        | with_reducible refine WP.block ?_
        | (with_reducible ((first | refine WP.skip ?_ | refine WP.exit ?_ | refine WP.ret ?_); simp [g0, g1, g5, hlt])))
      all_goals simp [allZ_done hlt hq]
  · have he' : ((xs.length : Int) != ys.length) = true := by simp; omega
    have hr : sameLL xs ys = false := by simp [sameLL, he]
    rw [hr]
    refine detP_of Try.func106 rfl (by kernel_rfl) (by simp [Try.f106]) rfl ?_
    intro C hP hN
    simp only [Try.f106] at hN ⊢
    repeat' (first
      | with_reducible refine WP.seq ?_
      | (with_reducible ((first | refine WP.region (hn := []) ?_ | refine WP.cond' ?_); simp -implicitDefEqProofs (maxSteps := 2000000) [hP, hN, he']))
      | (with_reducible ((first | refine WP.draw (hn := []) (by rw [hP]; kernel_rfl) (by kernel_rfl) ?_); simp -implicitDefEqProofs (maxSteps := 2000000) [hP, hN, he']; (try refine ⟨by kernel_rfl, ?_⟩)))
      | (with_reducible refine xB_split (by simp [he']) (fun hgd => ?_) (fun hgd => ?_) <;> first | (exfalso; simp at hgd; done) | (exfalso; simp at hgd; omega) | simp -implicitDefEqProofs (maxSteps := 2000000) [hP, hN, he'])
      | (with_reducible refine yB_split (by simp [he']) (fun hgd => ?_) (fun hgd => ?_) <;> first | (exfalso; simp at hgd; done) | (exfalso; simp at hgd; omega) | (simp -implicitDefEqProofs (maxSteps := 2000000) [hP, hN, he'] <;> (try refine ⟨by kernel_rfl, ?_⟩)))
      | with_reducible refine xTwo_intro ?_ ?_
      | (with_reducible refine xCond_split (fun hcd => ?_) (fun hcd => ?_) <;> (try (exfalso; clear hP hN; simp_all; done)) <;> (try (exfalso; simp at *; omega)))
      | with_reducible refine WP.block ?_
      | (with_reducible ((first | refine WP.skip ?_ | refine WP.exit ?_ | refine WP.ret ?_); simp [he'])))
theorem pts_len {t : Tr} {chain p q : List Int} (hq : q.length ≤ 9223372036854775807) : ∀ x ∈ ptsL t chain p q, x.length ≤ 9223372036854775807 := by
  unfold ptsL
  split
  · rename_i hok
    obtain ⟨hC, _⟩ := chOk_pre hok
    have hz := sizeOk_iff.1 (valid_size hC.valid)
    intro x hx
    simp only [List.mem_append, List.mem_map, List.mem_range, List.mem_singleton] at hx
    rcases hx with ⟨k, hk, rfl⟩ | rfl
    · have := hC.pt_len hk
      omega
    · exact hq
  · intro x hx; cases hx
theorem pts_count {t : Tr} {chain p q : List Int} : (ptsL t chain p q).length ≤ chain.length + 1 := by
  unfold ptsL
  split <;> simp
set_option maxHeartbeats 4000000 in
theorem d50 (t : Tr) (chain p q : List Int) (hl : t.cells.length ≤ 9223372036854775807) (hr : t.root.length ≤ 9223372036854775807) (hk : chain.length ≤ 1000000) (hpl : p.length ≤ 9223372036854775807) (hql : q.length ≤ 9223372036854775807) : DetH Try.prog 50 [.pv (encT t), .pv (zs chain), .pv (zs p), .pv (zs q)] [] [] (.pv (B true)) := by
  have c1 := d51 t chain p q hl hr hk
  have c2 := d110 t chain p q hl hr hk hpl hql
  have hn := pts_count (t := t) (chain := chain) (p := p) (q := q)
  have c3 := d106 (ptsL t chain p q) (ptsL t chain p q) (by omega) (pts_len hql) (pts_len hql)
  have c4 := d107 t chain p q hl hr (by omega)
  have c5 := d111 t chain p q hl hr (by omega) hpl hql
  rw [sameLL_refl] at c3
  generalize chainOk t chain p q = B9 at *
  generalize ptsL t chain p q = L9 at *
  refine detP_of Try.func50 rfl (by kernel_rfl) (by simp [Try.f50]) rfl ?_
  intro C hP hN
  simp only [Try.f50] at hN ⊢
  repeat' (first
    | with_reducible refine WP.seq ?_
    | (with_reducible ((first | refine WP.region (hn := []) ?_ | refine xC_intro (c1) ?_ | refine xC_intro (c2) ?_ | refine xC_intro (c3) ?_ | refine xC_intro (c4) ?_ | refine xC_intro (c5) ?_ | refine WP.cond' ?_); simp -implicitDefEqProofs (maxSteps := 2000000) [hP, hN]))
    | (with_reducible ((first | refine WP.draw (hn := []) (by rw [hP]; kernel_rfl) (by kernel_rfl) ?_ | refine yC_intro (c1) ?_ | refine yC_intro (c2) ?_ | refine yC_intro (c3) ?_ | refine yC_intro (c4) ?_ | refine yC_intro (c5) ?_); simp -implicitDefEqProofs (maxSteps := 2000000) [hP, hN]; (try refine ⟨by kernel_rfl, ?_⟩)))
    | (with_reducible refine xB_split (by simp) (fun hgd => ?_) (fun hgd => ?_) <;> first | (exfalso; simp at hgd; done) | (exfalso; simp at hgd; omega) | simp -implicitDefEqProofs (maxSteps := 2000000) [hP, hN])
    | (with_reducible refine yB_split (by simp) (fun hgd => ?_) (fun hgd => ?_) <;> first | (exfalso; simp at hgd; done) | (exfalso; simp at hgd; omega) | (simp -implicitDefEqProofs (maxSteps := 2000000) [hP, hN] <;> (try refine ⟨by kernel_rfl, ?_⟩)))
    | with_reducible refine xTwo_intro ?_ ?_
    | (with_reducible refine xCond_split (fun hcd => ?_) (fun hcd => ?_) <;> (try (exfalso; clear hP hN; simp_all; done)) <;> (try (exfalso; simp at *; omega)))
    | with_reducible refine WP.block ?_
    | (with_reducible ((first | refine WP.skip ?_ | refine WP.exit ?_ | refine WP.ret ?_); simp)))
def awT : Tr := ⟨[(0, 8)], [⟨0, 1, 2, zeroV⟩, leafC zeroV, leafC zeroV]⟩
theorem aw_new : newT [(0, 8)] = ⟨[(0, 8)], [leafC zeroV]⟩ ∧ rootOk [(0, 8)] = true := ⟨by kernel_rfl, by decide +kernel⟩
theorem aw_split : splitT ⟨[(0, 8)], [leafC zeroV]⟩ 0 0 = awT ∧ splitOk ⟨[(0, 8)], [leafC zeroV]⟩ 0 0 = true := ⟨by kernel_rfl, by kernel_rfl⟩
theorem aw_chain : chainOk awT [1, 2] [1] [7] = true ∧ ptsL awT [1, 2] [1] [7] = [[1], [4], [7]] := ⟨by kernel_rfl, by kernel_rfl⟩
end Go.Ab
