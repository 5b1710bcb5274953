/- Contracts: the entry of a motion into a box, III: the reference. -/
import Derived.Test.YtagmnknighofeaaCu9
set_option linter.all false
namespace Go.Ab
open Go.Proofs
def entD (s : Fr × Fr) (X Y D : Int) : Option (Fr × Fr) :=
  if D < X ∨ Y < 0 then none
  else some (if 0 < X ∧ ltF s.1 (X, D) = true then (X, D) else s.1, if Y < D ∧ ltF (Y, D) s.2 = true then (Y, D) else s.2)
theorem entStep_D (s : Fr × Fr) (a b lo hi : Int) : entStep s a b lo hi = entD s (lo - a) (hi - a) (b - a) := by
  unfold entStep entD
  have e1 : (b < lo ∨ hi < a) ↔ (b - a < lo - a ∨ hi - a < 0) := by omega
  have e2 : a < lo ↔ 0 < lo - a := by omega
  have e3 : hi < b ↔ hi - a < b - a := by omega
  simp only [e1, e2, e3]
theorem entAt_neg {s : Fr × Fr} {p q : Int} {x : Int × Int} (h : q < p) : entAt s p q x = entD s (p - x.2) (p - x.1) (p - q) := by
  rw [entAt, if_pos h, entStep_D, show -x.2 - -p = p - x.2 by omega, show -x.1 - -p = p - x.1 by omega, show -q - -p = p - q by omega]
theorem entAt_pos {s : Fr × Fr} {p q : Int} {x : Int × Int} (h : ¬ q < p) : entAt s p q x = entD s (x.1 - p) (x.2 - p) (q - p) := by
  rw [entAt, if_neg h, entStep_D]
set_option maxRecDepth 10000 in
set_option maxHeartbeats 16000000 in
theorem d169 (b : Bx) (p q : List Int) (hS : Sm b p q) : DetH Try.prog 169 [.pv (zs p), .pv (zs q), .pv (iv b)] [] [] (.pv (.tup [encI (entX b p q), B (entC b p q).isSome])) := by
  have hbl := hS.lb
  refine detP_of Try.func169 rfl (by kernel_rfl) (by simp [Try.f169]) rfl ?_
  intro C hP hN
  simp only [Try.f169] at hN ⊢
  repeat' (first
    | with_reducible refine WP.seq ?_
    | (with_reducible ((first | refine WP.region (hn := []) ?_ | refine WP.cond' ?_); simp -implicitDefEqProofs (maxSteps := 2000000) [hP, hN]))
    | (with_reducible ((first | refine WP.draw (hn := []) (by rw [hP]; kernel_rfl) (by kernel_rfl) ?_); simp -implicitDefEqProofs (maxSteps := 2000000) [hP, hN]; (try refine ⟨by kernel_rfl, ?_⟩)))
    | (with_reducible refine xB_split (by simp) (fun hgd => ?_) (fun hgd => ?_) <;> first | (exfalso; simp at hgd; done) | (exfalso; simp at hgd; omega) | simp -implicitDefEqProofs (maxSteps := 2000000) [hP, hN])
    | (with_reducible refine yB_split (by simp) (fun hgd => ?_) (fun hgd => ?_) <;> first | (exfalso; simp at hgd; done) | (exfalso; simp at hgd; omega) | (simp -implicitDefEqProofs (maxSteps := 2000000) [hP, hN] <;> (try refine ⟨by kernel_rfl, ?_⟩)))
    | with_reducible refine xTwo_intro ?_ ?_
    | (with_reducible refine xCond_split (fun hcd => ?_) (fun hcd => ?_) <;> (try (exfalso; clear hP hN; simp_all; done)) <;> (try (exfalso; simp at *; omega)))
    | with_reducible refine WP.block ?_
    | (with_reducible ((first | refine WP.skip ?_ | refine WP.exit ?_ | refine WP.ret ?_); simp)))
  refine WP.loopN [12, 13] b.length (fun i st => ∃ s, EntI b p q i s ∧ st.t 0 = .pv (zs p) ∧ st.t 1 = .pv (zs q) ∧ st.t 2 = .pv (iv b) ∧ st.t 6 = .ptr 6 0 ∧ st.t 8 = .ptr 8 0 ∧ st.t 9 = .ptr 9 0 ∧ st.t 10 = .pv (Z i) ∧ st.h 12 = none ∧ st.h 13 = none ∧ st.h 6 = some (.box [.pv (Z 0), .pv (Z 0)] true false) ∧ st.h 8 = some (Fb s.1) ∧ st.h 9 = some (Fb s.2)) (by exact ⟨ent0, entI_zero b p q, by simp [ent0]⟩) ?_
  rintro i st hi0 ⟨s, hI, g0, g1, g2, g6, g8, g9, g10, hb12, hb13, hb6, hb8, hb9⟩
  obtain ⟨hF1, hF2⟩ := okS_F hI.ok
  by_cases hlt : i < b.length
  · have hw := wr_succ hlt (by omega)
    have hpl : i < p.length := by rw [hS.lp]; exact hlt
    have hql : i < q.length := by rw [hS.lq]; exact hlt
    have hbi : b[i]? = some b[i] := List.getElem?_eq_getElem hlt
    have hpi : p[i]? = some p[i] := List.getElem?_eq_getElem hpl
    have hqi : q[i]? = some q[i] := List.getElem?_eq_getElem hql
    have hvx := validB_iff.1 (allV_iff.1 hS.v _ (List.mem_of_getElem? hbi))
    have hpx := hS.sp _ (List.mem_of_getElem? hpi)
    have hqx := hS.sq _ (List.mem_of_getElem? hqi)
    generalize hbx : b[i] = x at *
    generalize hpu : p[i] = u at *
    generalize hqv : q[i] = v at *
    obtain ⟨xl, xh⟩ := x
    simp only at hvx
    have n0 : IntKind.i64.wrap (v - u) = v - u := wr_id (by omega) (by omega)
    by_cases hqp : v < u
    · have hAt := entAt_neg (s := s) (x := (xl, xh)) hqp
      simp only at hAt
      have n1 : IntKind.i64.wrap (u - xh) = u - xh := wr_id (by omega) (by omega)
      have n2 : IntKind.i64.wrap (u - xl) = u - xl := wr_id (by omega) (by omega)
      have n3 : IntKind.i64.wrap (xl - u) = xl - u := wr_id (by omega) (by omega)
      have n4 : IntKind.i64.wrap (xh - u) = xh - u := wr_id (by omega) (by omega)
      obtain ⟨E, hE⟩ : ∃ a, v - u = a := ⟨_, rfl⟩
      obtain ⟨X, hX⟩ : ∃ a, u - xh = a := ⟨_, rfl⟩
      obtain ⟨Y, hY⟩ : ∃ a, u - xl = a := ⟨_, rfl⟩
      obtain ⟨D, hD⟩ : ∃ a, u - v = a := ⟨_, rfl⟩
      rw [hX, hY, hD] at hAt
      have n0 : IntKind.i64.wrap (v - u) = E := n0.trans hE
      have n1 : IntKind.i64.wrap (u - xh) = X := n1.trans hX
      have n2 : IntKind.i64.wrap (u - xl) = Y := n2.trans hY
      have n5 : IntKind.i64.wrap (-E) = D := by rw [← hD, ← hE, show -(v - u) = u - v by omega]; exact wr_id (by omega) (by omega)
      have n6 : E < 0 := by omega
      have n7 : (E == 0) = false := by simp; omega
      have hDX : 0 < D ∧ D ≤ 4294967296 ∧ -4294967296 ≤ X ∧ X ≤ 4294967296 ∧ -4294967296 ≤ Y ∧ Y ≤ 4294967296 := by omega
      clear hE hD hX hY
      by_cases r1 : D < X
      · have hn := entI_none hI hbi hpi hqi (by rw [hAt, entD, if_pos (.inl r1)])
        rw [entC, entX, hn]
        repeat' (first
          | with_reducible refine WP.seq ?_
          | (with_reducible ((first | refine WP.region (hn := []) ?_ | refine WP.cond' ?_); simp -implicitDefEqProofs (maxSteps := 2000000) [hP, hN, g0, g1, g2, g6, g8, g9, g10, hb12, hb13, hb6, hb8, hb9, hlt, hw, hpl, hql, hbi, hpi, hqi, hbx, hpu, hqv, n0, n1, n2, n3, n4, n5, n6, n7, r1]))
          | (with_reducible ((first | refine WP.draw (hn := []) (by rw [hP]; kernel_rfl) (by kernel_rfl) ?_); simp -implicitDefEqProofs (maxSteps := 2000000) [hP, hN, g0, g1, g2, g6, g8, g9, g10, hb12, hb13, hb6, hb8, hb9, hlt, hw, hpl, hql, hbi, hpi, hqi, hbx, hpu, hqv, n0, n1, n2, n3, n4, n5, n6, n7, r1]; (try refine ⟨by kernel_rfl, ?_⟩)))
          | (with_reducible refine xB_split (by simp [g0, g1, g2, g6, g8, g9, g10, hb12, hb13, hb6, hb8, hb9, hlt, hw, hpl, hql, hbi, hpi, hqi, hbx, hpu, hqv, n0, n1, n2, n3, n4, n5, n6, n7, r1]) (fun hgd => ?_) (fun hgd => ?_) <;> first | (exfalso; simp at hgd; done) | (exfalso; simp at hgd; omega) | simp -implicitDefEqProofs (maxSteps := 2000000) [hP, hN, g0, g1, g2, g6, g8, g9, g10, hb12, hb13, hb6, hb8, hb9, hlt, hw, hpl, hql, hbi, hpi, hqi, hbx, hpu, hqv, n0, n1, n2, n3, n4, n5, n6, n7, r1])
          | (with_reducible refine yB_split (by simp [g0, g1, g2, g6, g8, g9, g10, hb12, hb13, hb6, hb8, hb9, hlt, hw, hpl, hql, hbi, hpi, hqi, hbx, hpu, hqv, n0, n1, n2, n3, n4, n5, n6, n7, r1]) (fun hgd => ?_) (fun hgd => ?_) <;> first | (exfalso; simp at hgd; done) | (exfalso; simp at hgd; omega) | (simp -implicitDefEqProofs (maxSteps := 2000000) [hP, hN, g0, g1, g2, g6, g8, g9, g10, hb12, hb13, hb6, hb8, hb9, hlt, hw, hpl, hql, hbi, hpi, hqi, hbx, hpu, hqv, n0, n1, n2, n3, n4, n5, n6, n7, r1] <;> (try refine ⟨by kernel_rfl, ?_⟩)))
          | with_reducible refine xTwo_intro ?_ ?_
          | (with_reducible refine xCond_split (fun hcd => ?_) (fun hcd => ?_) <;> (try (exfalso; clear hP hN; simp_all; done)) <;> (try (exfalso; simp at *; omega)))
          | with_reducible refine WP.block ?_
          | (with_reducible ((first | refine WP.skip ?_ | refine WP.exit ?_ | refine WP.ret ?_); simp [g0, g1, g2, g6, g8, g9, g10, hb12, hb13, hb6, hb8, hb9, hlt, hw, hpl, hql, hbi, hpi, hqi, hbx, hpu, hqv, n0, n1, n2, n3, n4, n5, n6, n7, r1])))
      by_cases r2 : Y < 0
      · have hn := entI_none hI hbi hpi hqi (by rw [hAt, entD, if_pos (.inr r2)])
        rw [entC, entX, hn]
        repeat' (first
          | with_reducible refine WP.seq ?_
          | (with_reducible ((first | refine WP.region (hn := []) ?_ | refine WP.cond' ?_); simp -implicitDefEqProofs (maxSteps := 2000000) [hP, hN, g0, g1, g2, g6, g8, g9, g10, hb12, hb13, hb6, hb8, hb9, hlt, hw, hpl, hql, hbi, hpi, hqi, hbx, hpu, hqv, n0, n1, n2, n3, n4, n5, n6, n7, r1, r2]))
          | (with_reducible ((first | refine WP.draw (hn := []) (by rw [hP]; kernel_rfl) (by kernel_rfl) ?_); simp -implicitDefEqProofs (maxSteps := 2000000) [hP, hN, g0, g1, g2, g6, g8, g9, g10, hb12, hb13, hb6, hb8, hb9, hlt, hw, hpl, hql, hbi, hpi, hqi, hbx, hpu, hqv, n0, n1, n2, n3, n4, n5, n6, n7, r1, r2]; (try refine ⟨by kernel_rfl, ?_⟩)))
          | (with_reducible refine xB_split (by simp [g0, g1, g2, g6, g8, g9, g10, hb12, hb13, hb6, hb8, hb9, hlt, hw, hpl, hql, hbi, hpi, hqi, hbx, hpu, hqv, n0, n1, n2, n3, n4, n5, n6, n7, r1, r2]) (fun hgd => ?_) (fun hgd => ?_) <;> first | (exfalso; simp at hgd; done) | (exfalso; simp at hgd; omega) | simp -implicitDefEqProofs (maxSteps := 2000000) [hP, hN, g0, g1, g2, g6, g8, g9, g10, hb12, hb13, hb6, hb8, hb9, hlt, hw, hpl, hql, hbi, hpi, hqi, hbx, hpu, hqv, n0, n1, n2, n3, n4, n5, n6, n7, r1, r2])
          | (with_reducible refine yB_split (by simp [g0, g1, g2, g6, g8, g9, g10, hb12, hb13, hb6, hb8, hb9, hlt, hw, hpl, hql, hbi, hpi, hqi, hbx, hpu, hqv, n0, n1, n2, n3, n4, n5, n6, n7, r1, r2]) (fun hgd => ?_) (fun hgd => ?_) <;> first | (exfalso; simp at hgd; done) | (exfalso; simp at hgd; omega) | (simp -implicitDefEqProofs (maxSteps := 2000000) [hP, hN, g0, g1, g2, g6, g8, g9, g10, hb12, hb13, hb6, hb8, hb9, hlt, hw, hpl, hql, hbi, hpi, hqi, hbx, hpu, hqv, n0, n1, n2, n3, n4, n5, n6, n7, r1, r2] <;> (try refine ⟨by kernel_rfl, ?_⟩)))
          | with_reducible refine xTwo_intro ?_ ?_
          | (with_reducible refine xCond_split (fun hcd => ?_) (fun hcd => ?_) <;> (try (exfalso; clear hP hN; simp_all; done)) <;> (try (exfalso; simp at *; omega)))
          | with_reducible refine WP.block ?_
          | (with_reducible ((first | refine WP.skip ?_ | refine WP.exit ?_ | refine WP.ret ?_); simp [g0, g1, g2, g6, g8, g9, g10, hb12, hb13, hb6, hb8, hb9, hlt, hw, hpl, hql, hbi, hpi, hqi, hbx, hpu, hqv, n0, n1, n2, n3, n4, n5, n6, n7, r1, r2])))
      have hst : entD s X Y D = some (if 0 < X ∧ ltF s.1 (X, D) = true then (X, D) else s.1, if Y < D ∧ ltF (Y, D) s.2 = true then (Y, D) else s.2) := if_neg (by omega)
      have hnx := entI_next hS hI hbi hpi hqi (by rw [hAt]; exact hst)
      clear hst
      have c1 : 0 < X → DetH Try.prog 170 [.pv (encI s.1), .pv (encI (X, D))] [] [] (.pv (B (ltF s.1 (X, D)))) := fun h => d170 s.1 (X, D) hF1 ⟨by simp only; omega, by simp only; omega, by simp only; omega, by simp only; omega⟩
      have c2 : Y < D → DetH Try.prog 170 [.pv (encI (Y, D)), .pv (encI s.2)] [] [] (.pv (B (ltF (Y, D) s.2))) := fun h => d170 (Y, D) s.2 ⟨by simp only; omega, by simp only; omega, by simp only; omega, by simp only; omega⟩ hF2
      generalize ltF s.1 (X, D) = t1 at *
      generalize ltF (Y, D) s.2 = t2 at *
      try simp only at c1 c2
      by_cases u1 : 0 < X
      · have c1 := c1 u1
        by_cases u2 : Y < D
        · have c2 := c2 u2
          cases t1 <;> cases t2 <;> simp only [u1, u2, true_and, if_true, Bool.false_eq_true, if_false] at hnx
          · skip
            repeat' (first
              | with_reducible refine WP.seq ?_
              | (with_reducible ((first | refine WP.region (hn := []) ?_ | refine xC_intro (c1) ?_ | refine xC_intro (c2) ?_ | refine WP.cond' ?_); simp -implicitDefEqProofs (maxSteps := 2000000) [hP, hN, g0, g1, g2, g6, g8, g9, g10, hb12, hb13, hb6, hb8, hb9, hlt, hw, hpl, hql, hbi, hpi, hqi, hbx, hpu, hqv, n0, n1, n2, n3, n4, n5, n6, n7, r1, r2, u1, u2]))
              | (with_reducible ((first | refine WP.draw (hn := []) (by rw [hP]; kernel_rfl) (by kernel_rfl) ?_ | refine yC_intro (c1) ?_ | refine yC_intro (c2) ?_); simp -implicitDefEqProofs (maxSteps := 2000000) [hP, hN, g0, g1, g2, g6, g8, g9, g10, hb12, hb13, hb6, hb8, hb9, hlt, hw, hpl, hql, hbi, hpi, hqi, hbx, hpu, hqv, n0, n1, n2, n3, n4, n5, n6, n7, r1, r2, u1, u2]; (try refine ⟨by kernel_rfl, ?_⟩)))
              | (with_reducible refine xB_split (by simp [g0, g1, g2, g6, g8, g9, g10, hb12, hb13, hb6, hb8, hb9, hlt, hw, hpl, hql, hbi, hpi, hqi, hbx, hpu, hqv, n0, n1, n2, n3, n4, n5, n6, n7, r1, r2, u1, u2]) (fun hgd => ?_) (fun hgd => ?_) <;> first | (exfalso; simp at hgd; done) | (exfalso; simp at hgd; omega) | simp -implicitDefEqProofs (maxSteps := 2000000) [hP, hN, g0, g1, g2, g6, g8, g9, g10, hb12, hb13, hb6, hb8, hb9, hlt, hw, hpl, hql, hbi, hpi, hqi, hbx, hpu, hqv, n0, n1, n2, n3, n4, n5, n6, n7, r1, r2, u1, u2])
              | (with_reducible refine yB_split (by simp [g0, g1, g2, g6, g8, g9, g10, hb12, hb13, hb6, hb8, hb9, hlt, hw, hpl, hql, hbi, hpi, hqi, hbx, hpu, hqv, n0, n1, n2, n3, n4, n5, n6, n7, r1, r2, u1, u2]) (fun hgd => ?_) (fun hgd => ?_) <;> first | (exfalso; simp at hgd; done) | (exfalso; simp at hgd; omega) | (simp -implicitDefEqProofs (maxSteps := 2000000) [hP, hN, g0, g1, g2, g6, g8, g9, g10, hb12, hb13, hb6, hb8, hb9, hlt, hw, hpl, hql, hbi, hpi, hqi, hbx, hpu, hqv, n0, n1, n2, n3, n4, n5, n6, n7, r1, r2, u1, u2] <;> (try refine ⟨by kernel_rfl, ?_⟩)))
              | with_reducible refine xTwo_intro ?_ ?_
              | (with_reducible refine xCond_split (fun hcd => ?_) (fun hcd => ?_) <;> (try (exfalso; clear hP hN; simp_all; done)) <;> (try (exfalso; simp at *; omega)))
              | with_reducible refine WP.block ?_
              | (with_reducible ((first | refine WP.skip ?_ | refine WP.exit ?_ | refine WP.ret ?_); simp [g0, g1, g2, g6, g8, g9, g10, hb12, hb13, hb6, hb8, hb9, hlt, hw, hpl, hql, hbi, hpi, hqi, hbx, hpu, hqv, n0, n1, n2, n3, n4, n5, n6, n7, r1, r2, u1, u2])))
            all_goals exact ⟨_, _, _, _, hnx, ⟨rfl, rfl⟩, rfl, rfl⟩
          · skip
            repeat' (first
              | with_reducible refine WP.seq ?_
              | (with_reducible ((first | refine WP.region (hn := []) ?_ | refine xC_intro (c1) ?_ | refine xC_intro (c2) ?_ | refine WP.cond' ?_); simp -implicitDefEqProofs (maxSteps := 2000000) [hP, hN, g0, g1, g2, g6, g8, g9, g10, hb12, hb13, hb6, hb8, hb9, hlt, hw, hpl, hql, hbi, hpi, hqi, hbx, hpu, hqv, n0, n1, n2, n3, n4, n5, n6, n7, r1, r2, u1, u2]))
              | (with_reducible ((first | refine WP.draw (hn := []) (by rw [hP]; kernel_rfl) (by kernel_rfl) ?_ | refine yC_intro (c1) ?_ | refine yC_intro (c2) ?_); simp -implicitDefEqProofs (maxSteps := 2000000) [hP, hN, g0, g1, g2, g6, g8, g9, g10, hb12, hb13, hb6, hb8, hb9, hlt, hw, hpl, hql, hbi, hpi, hqi, hbx, hpu, hqv, n0, n1, n2, n3, n4, n5, n6, n7, r1, r2, u1, u2]; (try refine ⟨by kernel_rfl, ?_⟩)))
              | (with_reducible refine xB_split (by simp [g0, g1, g2, g6, g8, g9, g10, hb12, hb13, hb6, hb8, hb9, hlt, hw, hpl, hql, hbi, hpi, hqi, hbx, hpu, hqv, n0, n1, n2, n3, n4, n5, n6, n7, r1, r2, u1, u2]) (fun hgd => ?_) (fun hgd => ?_) <;> first | (exfalso; simp at hgd; done) | (exfalso; simp at hgd; omega) | simp -implicitDefEqProofs (maxSteps := 2000000) [hP, hN, g0, g1, g2, g6, g8, g9, g10, hb12, hb13, hb6, hb8, hb9, hlt, hw, hpl, hql, hbi, hpi, hqi, hbx, hpu, hqv, n0, n1, n2, n3, n4, n5, n6, n7, r1, r2, u1, u2])
              | (with_reducible refine yB_split (by simp [g0, g1, g2, g6, g8, g9, g10, hb12, hb13, hb6, hb8, hb9, hlt, hw, hpl, hql, hbi, hpi, hqi, hbx, hpu, hqv, n0, n1, n2, n3, n4, n5, n6, n7, r1, r2, u1, u2]) (fun hgd => ?_) (fun hgd => ?_) <;> first | (exfalso; simp at hgd; done) | (exfalso; simp at hgd; omega) | (simp -implicitDefEqProofs (maxSteps := 2000000) [hP, hN, g0, g1, g2, g6, g8, g9, g10, hb12, hb13, hb6, hb8, hb9, hlt, hw, hpl, hql, hbi, hpi, hqi, hbx, hpu, hqv, n0, n1, n2, n3, n4, n5, n6, n7, r1, r2, u1, u2] <;> (try refine ⟨by kernel_rfl, ?_⟩)))
              | with_reducible refine xTwo_intro ?_ ?_
              | (with_reducible refine xCond_split (fun hcd => ?_) (fun hcd => ?_) <;> (try (exfalso; clear hP hN; simp_all; done)) <;> (try (exfalso; simp at *; omega)))
              | with_reducible refine WP.block ?_
              | (with_reducible ((first | refine WP.skip ?_ | refine WP.exit ?_ | refine WP.ret ?_); simp [g0, g1, g2, g6, g8, g9, g10, hb12, hb13, hb6, hb8, hb9, hlt, hw, hpl, hql, hbi, hpi, hqi, hbx, hpu, hqv, n0, n1, n2, n3, n4, n5, n6, n7, r1, r2, u1, u2])))
            all_goals exact ⟨_, _, _, _, hnx, ⟨rfl, rfl⟩, rfl, rfl⟩
          · skip
            repeat' (first
              | with_reducible refine WP.seq ?_
              | (with_reducible ((first | refine WP.region (hn := []) ?_ | refine xC_intro (c1) ?_ | refine xC_intro (c2) ?_ | refine WP.cond' ?_); simp -implicitDefEqProofs (maxSteps := 2000000) [hP, hN, g0, g1, g2, g6, g8, g9, g10, hb12, hb13, hb6, hb8, hb9, hlt, hw, hpl, hql, hbi, hpi, hqi, hbx, hpu, hqv, n0, n1, n2, n3, n4, n5, n6, n7, r1, r2, u1, u2]))
              | (with_reducible ((first | refine WP.draw (hn := []) (by rw [hP]; kernel_rfl) (by kernel_rfl) ?_ | refine yC_intro (c1) ?_ | refine yC_intro (c2) ?_); simp -implicitDefEqProofs (maxSteps := 2000000) [hP, hN, g0, g1, g2, g6, g8, g9, g10, hb12, hb13, hb6, hb8, hb9, hlt, hw, hpl, hql, hbi, hpi, hqi, hbx, hpu, hqv, n0, n1, n2, n3, n4, n5, n6, n7, r1, r2, u1, u2]; (try refine ⟨by kernel_rfl, ?_⟩)))
              | (with_reducible refine xB_split (by simp [g0, g1, g2, g6, g8, g9, g10, hb12, hb13, hb6, hb8, hb9, hlt, hw, hpl, hql, hbi, hpi, hqi, hbx, hpu, hqv, n0, n1, n2, n3, n4, n5, n6, n7, r1, r2, u1, u2]) (fun hgd => ?_) (fun hgd => ?_) <;> first | (exfalso; simp at hgd; done) | (exfalso; simp at hgd; omega) | simp -implicitDefEqProofs (maxSteps := 2000000) [hP, hN, g0, g1, g2, g6, g8, g9, g10, hb12, hb13, hb6, hb8, hb9, hlt, hw, hpl, hql, hbi, hpi, hqi, hbx, hpu, hqv, n0, n1, n2, n3, n4, n5, n6, n7, r1, r2, u1, u2])
              | (with_reducible refine yB_split (by simp [g0, g1, g2, g6, g8, g9, g10, hb12, hb13, hb6, hb8, hb9, hlt, hw, hpl, hql, hbi, hpi, hqi, hbx, hpu, hqv, n0, n1, n2, n3, n4, n5, n6, n7, r1, r2, u1, u2]) (fun hgd => ?_) (fun hgd => ?_) <;> first | (exfalso; simp at hgd; done) | (exfalso; simp at hgd; omega) | (simp -implicitDefEqProofs (maxSteps := 2000000) [hP, hN, g0, g1, g2, g6, g8, g9, g10, hb12, hb13, hb6, hb8, hb9, hlt, hw, hpl, hql, hbi, hpi, hqi, hbx, hpu, hqv, n0, n1, n2, n3, n4, n5, n6, n7, r1, r2, u1, u2] <;> (try refine ⟨by kernel_rfl, ?_⟩)))
              | with_reducible refine xTwo_intro ?_ ?_
              | (with_reducible refine xCond_split (fun hcd => ?_) (fun hcd => ?_) <;> (try (exfalso; clear hP hN; simp_all; done)) <;> (try (exfalso; simp at *; omega)))
              | with_reducible refine WP.block ?_
              | (with_reducible ((first | refine WP.skip ?_ | refine WP.exit ?_ | refine WP.ret ?_); simp [g0, g1, g2, g6, g8, g9, g10, hb12, hb13, hb6, hb8, hb9, hlt, hw, hpl, hql, hbi, hpi, hqi, hbx, hpu, hqv, n0, n1, n2, n3, n4, n5, n6, n7, r1, r2, u1, u2])))
            all_goals exact ⟨_, _, _, _, hnx, ⟨rfl, rfl⟩, rfl, rfl⟩
          · skip
            repeat' (first
              | with_reducible refine WP.seq ?_
              | (with_reducible ((first | refine WP.region (hn := []) ?_ | refine xC_intro (c1) ?_ | refine xC_intro (c2) ?_ | refine WP.cond' ?_); simp -implicitDefEqProofs (maxSteps := 2000000) [hP, hN, g0, g1, g2, g6, g8, g9, g10, hb12, hb13, hb6, hb8, hb9, hlt, hw, hpl, hql, hbi, hpi, hqi, hbx, hpu, hqv, n0, n1, n2, n3, n4, n5, n6, n7, r1, r2, u1, u2]))
              | (with_reducible ((first | refine WP.draw (hn := []) (by rw [hP]; kernel_rfl) (by kernel_rfl) ?_ | refine yC_intro (c1) ?_ | refine yC_intro (c2) ?_); simp -implicitDefEqProofs (maxSteps := 2000000) [hP, hN, g0, g1, g2, g6, g8, g9, g10, hb12, hb13, hb6, hb8, hb9, hlt, hw, hpl, hql, hbi, hpi, hqi, hbx, hpu, hqv, n0, n1, n2, n3, n4, n5, n6, n7, r1, r2, u1, u2]; (try refine ⟨by kernel_rfl, ?_⟩)))
              | (with_reducible refine xB_split (by simp [g0, g1, g2, g6, g8, g9, g10, hb12, hb13, hb6, hb8, hb9, hlt, hw, hpl, hql, hbi, hpi, hqi, hbx, hpu, hqv, n0, n1, n2, n3, n4, n5, n6, n7, r1, r2, u1, u2]) (fun hgd => ?_) (fun hgd => ?_) <;> first | (exfalso; simp at hgd; done) | (exfalso; simp at hgd; omega) | simp -implicitDefEqProofs (maxSteps := 2000000) [hP, hN, g0, g1, g2, g6, g8, g9, g10, hb12, hb13, hb6, hb8, hb9, hlt, hw, hpl, hql, hbi, hpi, hqi, hbx, hpu, hqv, n0, n1, n2, n3, n4, n5, n6, n7, r1, r2, u1, u2])
              | (with_reducible refine yB_split (by simp [g0, g1, g2, g6, g8, g9, g10, hb12, hb13, hb6, hb8, hb9, hlt, hw, hpl, hql, hbi, hpi, hqi, hbx, hpu, hqv, n0, n1, n2, n3, n4, n5, n6, n7, r1, r2, u1, u2]) (fun hgd => ?_) (fun hgd => ?_) <;> first | (exfalso; simp at hgd; done) | (exfalso; simp at hgd; omega) | (simp -implicitDefEqProofs (maxSteps := 2000000) [hP, hN, g0, g1, g2, g6, g8, g9, g10, hb12, hb13, hb6, hb8, hb9, hlt, hw, hpl, hql, hbi, hpi, hqi, hbx, hpu, hqv, n0, n1, n2, n3, n4, n5, n6, n7, r1, r2, u1, u2] <;> (try refine ⟨by kernel_rfl, ?_⟩)))
              | with_reducible refine xTwo_intro ?_ ?_
              | (with_reducible refine xCond_split (fun hcd => ?_) (fun hcd => ?_) <;> (try (exfalso; clear hP hN; simp_all; done)) <;> (try (exfalso; simp at *; omega)))
              | with_reducible refine WP.block ?_
              | (with_reducible ((first | refine WP.skip ?_ | refine WP.exit ?_ | refine WP.ret ?_); simp [g0, g1, g2, g6, g8, g9, g10, hb12, hb13, hb6, hb8, hb9, hlt, hw, hpl, hql, hbi, hpi, hqi, hbx, hpu, hqv, n0, n1, n2, n3, n4, n5, n6, n7, r1, r2, u1, u2])))
            all_goals exact ⟨_, _, _, _, hnx, ⟨rfl, rfl⟩, rfl, rfl⟩
        · cases t1 <;> simp only [u1, u2, true_and, false_and, if_true, Bool.false_eq_true, if_false] at hnx
          · skip
            repeat' (first
              | with_reducible refine WP.seq ?_
              | (with_reducible ((first | refine WP.region (hn := []) ?_ | refine xC_intro (c1) ?_ | refine WP.cond' ?_); simp -implicitDefEqProofs (maxSteps := 2000000) [hP, hN, g0, g1, g2, g6, g8, g9, g10, hb12, hb13, hb6, hb8, hb9, hlt, hw, hpl, hql, hbi, hpi, hqi, hbx, hpu, hqv, n0, n1, n2, n3, n4, n5, n6, n7, r1, r2, u1, u2]))
              | (with_reducible ((first | refine WP.draw (hn := []) (by rw [hP]; kernel_rfl) (by kernel_rfl) ?_ | refine yC_intro (c1) ?_); simp -implicitDefEqProofs (maxSteps := 2000000) [hP, hN, g0, g1, g2, g6, g8, g9, g10, hb12, hb13, hb6, hb8, hb9, hlt, hw, hpl, hql, hbi, hpi, hqi, hbx, hpu, hqv, n0, n1, n2, n3, n4, n5, n6, n7, r1, r2, u1, u2]; (try refine ⟨by kernel_rfl, ?_⟩)))
              | (with_reducible refine xB_split (by simp [g0, g1, g2, g6, g8, g9, g10, hb12, hb13, hb6, hb8, hb9, hlt, hw, hpl, hql, hbi, hpi, hqi, hbx, hpu, hqv, n0, n1, n2, n3, n4, n5, n6, n7, r1, r2, u1, u2]) (fun hgd => ?_) (fun hgd => ?_) <;> first | (exfalso; simp at hgd; done) | (exfalso; simp at hgd; omega) | simp -implicitDefEqProofs (maxSteps := 2000000) [hP, hN, g0, g1, g2, g6, g8, g9, g10, hb12, hb13, hb6, hb8, hb9, hlt, hw, hpl, hql, hbi, hpi, hqi, hbx, hpu, hqv, n0, n1, n2, n3, n4, n5, n6, n7, r1, r2, u1, u2])
              | (with_reducible refine yB_split (by simp [g0, g1, g2, g6, g8, g9, g10, hb12, hb13, hb6, hb8, hb9, hlt, hw, hpl, hql, hbi, hpi, hqi, hbx, hpu, hqv, n0, n1, n2, n3, n4, n5, n6, n7, r1, r2, u1, u2]) (fun hgd => ?_) (fun hgd => ?_) <;> first | (exfalso; simp at hgd; done) | (exfalso; simp at hgd; omega) | (simp -implicitDefEqProofs (maxSteps := 2000000) [hP, hN, g0, g1, g2, g6, g8, g9, g10, hb12, hb13, hb6, hb8, hb9, hlt, hw, hpl, hql, hbi, hpi, hqi, hbx, hpu, hqv, n0, n1, n2, n3, n4, n5, n6, n7, r1, r2, u1, u2] <;> (try refine ⟨by kernel_rfl, ?_⟩)))
              | with_reducible refine xTwo_intro ?_ ?_
              | (with_reducible refine xCond_split (fun hcd => ?_) (fun hcd => ?_) <;> (try (exfalso; clear hP hN; simp_all; done)) <;> (try (exfalso; simp at *; omega)))
              | with_reducible refine WP.block ?_
              | (with_reducible ((first | refine WP.skip ?_ | refine WP.exit ?_ | refine WP.ret ?_); simp [g0, g1, g2, g6, g8, g9, g10, hb12, hb13, hb6, hb8, hb9, hlt, hw, hpl, hql, hbi, hpi, hqi, hbx, hpu, hqv, n0, n1, n2, n3, n4, n5, n6, n7, r1, r2, u1, u2])))
            all_goals exact ⟨_, _, _, _, hnx, ⟨rfl, rfl⟩, rfl, rfl⟩
          · skip
            repeat' (first
              | with_reducible refine WP.seq ?_
              | (with_reducible ((first | refine WP.region (hn := []) ?_ | refine xC_intro (c1) ?_ | refine WP.cond' ?_); simp -implicitDefEqProofs (maxSteps := 2000000) [hP, hN, g0, g1, g2, g6, g8, g9, g10, hb12, hb13, hb6, hb8, hb9, hlt, hw, hpl, hql, hbi, hpi, hqi, hbx, hpu, hqv, n0, n1, n2, n3, n4, n5, n6, n7, r1, r2, u1, u2]))
              | (with_reducible ((first | refine WP.draw (hn := []) (by rw [hP]; kernel_rfl) (by kernel_rfl) ?_ | refine yC_intro (c1) ?_); simp -implicitDefEqProofs (maxSteps := 2000000) [hP, hN, g0, g1, g2, g6, g8, g9, g10, hb12, hb13, hb6, hb8, hb9, hlt, hw, hpl, hql, hbi, hpi, hqi, hbx, hpu, hqv, n0, n1, n2, n3, n4, n5, n6, n7, r1, r2, u1, u2]; (try refine ⟨by kernel_rfl, ?_⟩)))
              | (with_reducible refine xB_split (by simp [g0, g1, g2, g6, g8, g9, g10, hb12, hb13, hb6, hb8, hb9, hlt, hw, hpl, hql, hbi, hpi, hqi, hbx, hpu, hqv, n0, n1, n2, n3, n4, n5, n6, n7, r1, r2, u1, u2]) (fun hgd => ?_) (fun hgd => ?_) <;> first | (exfalso; simp at hgd; done) | (exfalso; simp at hgd; omega) | simp -implicitDefEqProofs (maxSteps := 2000000) [hP, hN, g0, g1, g2, g6, g8, g9, g10, hb12, hb13, hb6, hb8, hb9, hlt, hw, hpl, hql, hbi, hpi, hqi, hbx, hpu, hqv, n0, n1, n2, n3, n4, n5, n6, n7, r1, r2, u1, u2])
              | (with_reducible refine yB_split (by simp [g0, g1, g2, g6, g8, g9, g10, hb12, hb13, hb6, hb8, hb9, hlt, hw, hpl, hql, hbi, hpi, hqi, hbx, hpu, hqv, n0, n1, n2, n3, n4, n5, n6, n7, r1, r2, u1, u2]) (fun hgd => ?_) (fun hgd => ?_) <;> first | (exfalso; simp at hgd; done) | (exfalso; simp at hgd; omega) | (simp -implicitDefEqProofs (maxSteps := 2000000) [hP, hN, g0, g1, g2, g6, g8, g9, g10, hb12, hb13, hb6, hb8, hb9, hlt, hw, hpl, hql, hbi, hpi, hqi, hbx, hpu, hqv, n0, n1, n2, n3, n4, n5, n6, n7, r1, r2, u1, u2] <;> (try refine ⟨by kernel_rfl, ?_⟩)))
              | with_reducible refine xTwo_intro ?_ ?_
              | (with_reducible refine xCond_split (fun hcd => ?_) (fun hcd => ?_) <;> (try (exfalso; clear hP hN; simp_all; done)) <;> (try (exfalso; simp at *; omega)))
              | with_reducible refine WP.block ?_
              | (with_reducible ((first | refine WP.skip ?_ | refine WP.exit ?_ | refine WP.ret ?_); simp [g0, g1, g2, g6, g8, g9, g10, hb12, hb13, hb6, hb8, hb9, hlt, hw, hpl, hql, hbi, hpi, hqi, hbx, hpu, hqv, n0, n1, n2, n3, n4, n5, n6, n7, r1, r2, u1, u2])))
            all_goals exact ⟨_, _, _, _, hnx, ⟨rfl, rfl⟩, rfl, rfl⟩
      · by_cases u2 : Y < D
        · have c2 := c2 u2
          cases t2 <;> simp only [u1, u2, true_and, false_and, if_true, Bool.false_eq_true, if_false] at hnx
          · skip
            repeat' (first
              | with_reducible refine WP.seq ?_
              | (with_reducible ((first | refine WP.region (hn := []) ?_ | refine xC_intro (c2) ?_ | refine WP.cond' ?_); simp -implicitDefEqProofs (maxSteps := 2000000) [hP, hN, g0, g1, g2, g6, g8, g9, g10, hb12, hb13, hb6, hb8, hb9, hlt, hw, hpl, hql, hbi, hpi, hqi, hbx, hpu, hqv, n0, n1, n2, n3, n4, n5, n6, n7, r1, r2, u1, u2]))
              | (with_reducible ((first | refine WP.draw (hn := []) (by rw [hP]; kernel_rfl) (by kernel_rfl) ?_ | refine yC_intro (c2) ?_); simp -implicitDefEqProofs (maxSteps := 2000000) [hP, hN, g0, g1, g2, g6, g8, g9, g10, hb12, hb13, hb6, hb8, hb9, hlt, hw, hpl, hql, hbi, hpi, hqi, hbx, hpu, hqv, n0, n1, n2, n3, n4, n5, n6, n7, r1, r2, u1, u2]; (try refine ⟨by kernel_rfl, ?_⟩)))
              | (with_reducible refine xB_split (by simp [g0, g1, g2, g6, g8, g9, g10, hb12, hb13, hb6, hb8, hb9, hlt, hw, hpl, hql, hbi, hpi, hqi, hbx, hpu, hqv, n0, n1, n2, n3, n4, n5, n6, n7, r1, r2, u1, u2]) (fun hgd => ?_) (fun hgd => ?_) <;> first | (exfalso; simp at hgd; done) | (exfalso; simp at hgd; omega) | simp -implicitDefEqProofs (maxSteps := 2000000) [hP, hN, g0, g1, g2, g6, g8, g9, g10, hb12, hb13, hb6, hb8, hb9, hlt, hw, hpl, hql, hbi, hpi, hqi, hbx, hpu, hqv, n0, n1, n2, n3, n4, n5, n6, n7, r1, r2, u1, u2])
              | (with_reducible refine yB_split (by simp [g0, g1, g2, g6, g8, g9, g10, hb12, hb13, hb6, hb8, hb9, hlt, hw, hpl, hql, hbi, hpi, hqi, hbx, hpu, hqv, n0, n1, n2, n3, n4, n5, n6, n7, r1, r2, u1, u2]) (fun hgd => ?_) (fun hgd => ?_) <;> first | (exfalso; simp at hgd; done) | (exfalso; simp at hgd; omega) | (simp -implicitDefEqProofs (maxSteps := 2000000) [hP, hN, g0, g1, g2, g6, g8, g9, g10, hb12, hb13, hb6, hb8, hb9, hlt, hw, hpl, hql, hbi, hpi, hqi, hbx, hpu, hqv, n0, n1, n2, n3, n4, n5, n6, n7, r1, r2, u1, u2] <;> (try refine ⟨by kernel_rfl, ?_⟩)))
              | with_reducible refine xTwo_intro ?_ ?_
              | (with_reducible refine xCond_split (fun hcd => ?_) (fun hcd => ?_) <;> (try (exfalso; clear hP hN; simp_all; done)) <;> (try (exfalso; simp at *; omega)))
              | with_reducible refine WP.block ?_
              | (with_reducible ((first | refine WP.skip ?_ | refine WP.exit ?_ | refine WP.ret ?_); simp [g0, g1, g2, g6, g8, g9, g10, hb12, hb13, hb6, hb8, hb9, hlt, hw, hpl, hql, hbi, hpi, hqi, hbx, hpu, hqv, n0, n1, n2, n3, n4, n5, n6, n7, r1, r2, u1, u2])))
            all_goals exact ⟨_, _, _, _, hnx, ⟨rfl, rfl⟩, rfl, rfl⟩
          · skip
            repeat' (first
              | with_reducible refine WP.seq ?_
              | (with_reducible ((first | refine WP.region (hn := []) ?_ | refine xC_intro (c2) ?_ | refine WP.cond' ?_); simp -implicitDefEqProofs (maxSteps := 2000000) [hP, hN, g0, g1, g2, g6, g8, g9, g10, hb12, hb13, hb6, hb8, hb9, hlt, hw, hpl, hql, hbi, hpi, hqi, hbx, hpu, hqv, n0, n1, n2, n3, n4, n5, n6, n7, r1, r2, u1, u2]))
              | (with_reducible ((first | refine WP.draw (hn := []) (by rw [hP]; kernel_rfl) (by kernel_rfl) ?_ | refine yC_intro (c2) ?_); simp -implicitDefEqProofs (maxSteps := 2000000) [hP, hN, g0, g1, g2, g6, g8, g9, g10, hb12, hb13, hb6, hb8, hb9, hlt, hw, hpl, hql, hbi, hpi, hqi, hbx, hpu, hqv, n0, n1, n2, n3, n4, n5, n6, n7, r1, r2, u1, u2]; (try refine ⟨by kernel_rfl, ?_⟩)))
              | (with_reducible refine xB_split (by simp [g0, g1, g2, g6, g8, g9, g10, hb12, hb13, hb6, hb8, hb9, hlt, hw, hpl, hql, hbi, hpi, hqi, hbx, hpu, hqv, n0, n1, n2, n3, n4, n5, n6, n7, r1, r2, u1, u2]) (fun hgd => ?_) (fun hgd => ?_) <;> first | (exfalso; simp at hgd; done) | (exfalso; simp at hgd; omega) | simp -implicitDefEqProofs (maxSteps := 2000000) [hP, hN, g0, g1, g2, g6, g8, g9, g10, hb12, hb13, hb6, hb8, hb9, hlt, hw, hpl, hql, hbi, hpi, hqi, hbx, hpu, hqv, n0, n1, n2, n3, n4, n5, n6, n7, r1, r2, u1, u2])
              | (with_reducible refine yB_split (by simp [g0, g1, g2, g6, g8, g9, g10, hb12, hb13, hb6, hb8, hb9, hlt, hw, hpl, hql, hbi, hpi, hqi, hbx, hpu, hqv, n0, n1, n2, n3, n4, n5, n6, n7, r1, r2, u1, u2]) (fun hgd => ?_) (fun hgd => ?_) <;> first | (exfalso; simp at hgd; done) | (exfalso; simp at hgd; omega) | (simp -implicitDefEqProofs (maxSteps := 2000000) [hP, hN, g0, g1, g2, g6, g8, g9, g10, hb12, hb13, hb6, hb8, hb9, hlt, hw, hpl, hql, hbi, hpi, hqi, hbx, hpu, hqv, n0, n1, n2, n3, n4, n5, n6, n7, r1, r2, u1, u2] <;> (try refine ⟨by kernel_rfl, ?_⟩)))
              | with_reducible refine xTwo_intro ?_ ?_
              | (with_reducible refine xCond_split (fun hcd => ?_) (fun hcd => ?_) <;> (try (exfalso; clear hP hN; simp_all; done)) <;> (try (exfalso; simp at *; omega)))
              | with_reducible refine WP.block ?_
              | (with_reducible ((first | refine WP.skip ?_ | refine WP.exit ?_ | refine WP.ret ?_); simp [g0, g1, g2, g6, g8, g9, g10, hb12, hb13, hb6, hb8, hb9, hlt, hw, hpl, hql, hbi, hpi, hqi, hbx, hpu, hqv, n0, n1, n2, n3, n4, n5, n6, n7, r1, r2, u1, u2])))
            all_goals exact ⟨_, _, _, _, hnx, ⟨rfl, rfl⟩, rfl, rfl⟩
        · simp only [u1, u2, false_and, if_false] at hnx
          repeat' (first
            | with_reducible refine WP.seq ?_
            | (with_reducible ((first | refine WP.region (hn := []) ?_ | refine WP.cond' ?_); simp -implicitDefEqProofs (maxSteps := 2000000) [hP, hN, g0, g1, g2, g6, g8, g9, g10, hb12, hb13, hb6, hb8, hb9, hlt, hw, hpl, hql, hbi, hpi, hqi, hbx, hpu, hqv, n0, n1, n2, n3, n4, n5, n6, n7, r1, r2, u1, u2]))
            | (with_reducible ((first | refine WP.draw (hn := []) (by rw [hP]; kernel_rfl) (by kernel_rfl) ?_); simp -implicitDefEqProofs (maxSteps := 2000000) [hP, hN, g0, g1, g2, g6, g8, g9, g10, hb12, hb13, hb6, hb8, hb9, hlt, hw, hpl, hql, hbi, hpi, hqi, hbx, hpu, hqv, n0, n1, n2, n3, n4, n5, n6, n7, r1, r2, u1, u2]; (try refine ⟨by kernel_rfl, ?_⟩)))
            | (with_reducible refine xB_split (by simp [g0, g1, g2, g6, g8, g9, g10, hb12, hb13, hb6, hb8, hb9, hlt, hw, hpl, hql, hbi, hpi, hqi, hbx, hpu, hqv, n0, n1, n2, n3, n4, n5, n6, n7, r1, r2, u1, u2]) (fun hgd => ?_) (fun hgd => ?_) <;> first | (exfalso; simp at hgd; done) | (exfalso; simp at hgd; omega) | simp -implicitDefEqProofs (maxSteps := 2000000) [hP, hN, g0, g1, g2, g6, g8, g9, g10, hb12, hb13, hb6, hb8, hb9, hlt, hw, hpl, hql, hbi, hpi, hqi, hbx, hpu, hqv, n0, n1, n2, n3, n4, n5, n6, n7, r1, r2, u1, u2])
            | (with_reducible refine yB_split (by simp [g0, g1, g2, g6, g8, g9, g10, hb12, hb13, hb6, hb8, hb9, hlt, hw, hpl, hql, hbi, hpi, hqi, hbx, hpu, hqv, n0, n1, n2, n3, n4, n5, n6, n7, r1, r2, u1, u2]) (fun hgd => ?_) (fun hgd => ?_) <;> first | (exfalso; simp at hgd; done) | (exfalso; simp at hgd; omega) | (simp -implicitDefEqProofs (maxSteps := 2000000) [hP, hN, g0, g1, g2, g6, g8, g9, g10, hb12, hb13, hb6, hb8, hb9, hlt, hw, hpl, hql, hbi, hpi, hqi, hbx, hpu, hqv, n0, n1, n2, n3, n4, n5, n6, n7, r1, r2, u1, u2] <;> (try refine ⟨by kernel_rfl, ?_⟩)))
            | with_reducible refine xTwo_intro ?_ ?_
            | (with_reducible refine xCond_split (fun hcd => ?_) (fun hcd => ?_) <;> (try (exfalso; clear hP hN; simp_all; done)) <;> (try (exfalso; simp at *; omega)))
            | with_reducible refine WP.block ?_
            | (with_reducible ((first | refine WP.skip ?_ | refine WP.exit ?_ | refine WP.ret ?_); simp [g0, g1, g2, g6, g8, g9, g10, hb12, hb13, hb6, hb8, hb9, hlt, hw, hpl, hql, hbi, hpi, hqi, hbx, hpu, hqv, n0, n1, n2, n3, n4, n5, n6, n7, r1, r2, u1, u2])))
          all_goals exact ⟨_, _, _, _, hnx, ⟨rfl, rfl⟩, rfl, rfl⟩
    by_cases huv : u = v
    · subst huv
      have hAt := entAt_pos (s := s) (x := (xl, xh)) hqp
      simp only at hAt
      have e0 : u - u = 0 := by omega
      by_cases r1 : u < xl
      · have hn := entI_none hI hbi hpi hqi (by rw [hAt, entD, if_pos (.inl (by omega))])
        rw [entC, entX, hn]
        repeat' (first
          | with_reducible refine WP.seq ?_
          | (with_reducible ((first | refine WP.region (hn := []) ?_ | refine WP.cond' ?_); simp -implicitDefEqProofs (maxSteps := 2000000) [hP, hN, g0, g1, g2, g6, g8, g9, g10, hb12, hb13, hb6, hb8, hb9, hlt, hw, hpl, hql, hbi, hpi, hqi, hbx, hpu, hqv, e0, r1]))
          | (with_reducible ((first | refine WP.draw (hn := []) (by rw [hP]; kernel_rfl) (by kernel_rfl) ?_); simp -implicitDefEqProofs (maxSteps := 2000000) [hP, hN, g0, g1, g2, g6, g8, g9, g10, hb12, hb13, hb6, hb8, hb9, hlt, hw, hpl, hql, hbi, hpi, hqi, hbx, hpu, hqv, e0, r1]; (try refine ⟨by kernel_rfl, ?_⟩)))
          | (with_reducible refine xB_split (by simp [g0, g1, g2, g6, g8, g9, g10, hb12, hb13, hb6, hb8, hb9, hlt, hw, hpl, hql, hbi, hpi, hqi, hbx, hpu, hqv, e0, r1]) (fun hgd => ?_) (fun hgd => ?_) <;> first | (exfalso; simp at hgd; done) | (exfalso; simp at hgd; omega) | simp -implicitDefEqProofs (maxSteps := 2000000) [hP, hN, g0, g1, g2, g6, g8, g9, g10, hb12, hb13, hb6, hb8, hb9, hlt, hw, hpl, hql, hbi, hpi, hqi, hbx, hpu, hqv, e0, r1])
          | (with_reducible refine yB_split (by simp [g0, g1, g2, g6, g8, g9, g10, hb12, hb13, hb6, hb8, hb9, hlt, hw, hpl, hql, hbi, hpi, hqi, hbx, hpu, hqv, e0, r1]) (fun hgd => ?_) (fun hgd => ?_) <;> first | (exfalso; simp at hgd; done) | (exfalso; simp at hgd; omega) | (simp -implicitDefEqProofs (maxSteps := 2000000) [hP, hN, g0, g1, g2, g6, g8, g9, g10, hb12, hb13, hb6, hb8, hb9, hlt, hw, hpl, hql, hbi, hpi, hqi, hbx, hpu, hqv, e0, r1] <;> (try refine ⟨by kernel_rfl, ?_⟩)))
          | with_reducible refine xTwo_intro ?_ ?_
          | (with_reducible refine xCond_split (fun hcd => ?_) (fun hcd => ?_) <;> (try (exfalso; clear hP hN; simp_all; done)) <;> (try (exfalso; simp at *; omega)))
          | with_reducible refine WP.block ?_
          | (with_reducible ((first | refine WP.skip ?_ | refine WP.exit ?_ | refine WP.ret ?_); simp [g0, g1, g2, g6, g8, g9, g10, hb12, hb13, hb6, hb8, hb9, hlt, hw, hpl, hql, hbi, hpi, hqi, hbx, hpu, hqv, e0, r1])))
      by_cases r2 : xh < u
      · have hn := entI_none hI hbi hpi hqi (by rw [hAt, entD, if_pos (.inr (by omega))])
        rw [entC, entX, hn]
        repeat' (first
          | with_reducible refine WP.seq ?_
          | (with_reducible ((first | refine WP.region (hn := []) ?_ | refine WP.cond' ?_); simp -implicitDefEqProofs (maxSteps := 2000000) [hP, hN, g0, g1, g2, g6, g8, g9, g10, hb12, hb13, hb6, hb8, hb9, hlt, hw, hpl, hql, hbi, hpi, hqi, hbx, hpu, hqv, e0, r1, r2]))
          | (with_reducible ((first | refine WP.draw (hn := []) (by rw [hP]; kernel_rfl) (by kernel_rfl) ?_); simp -implicitDefEqProofs (maxSteps := 2000000) [hP, hN, g0, g1, g2, g6, g8, g9, g10, hb12, hb13, hb6, hb8, hb9, hlt, hw, hpl, hql, hbi, hpi, hqi, hbx, hpu, hqv, e0, r1, r2]; (try refine ⟨by kernel_rfl, ?_⟩)))
          | (with_reducible refine xB_split (by simp [g0, g1, g2, g6, g8, g9, g10, hb12, hb13, hb6, hb8, hb9, hlt, hw, hpl, hql, hbi, hpi, hqi, hbx, hpu, hqv, e0, r1, r2]) (fun hgd => ?_) (fun hgd => ?_) <;> first | (exfalso; simp at hgd; done) | (exfalso; simp at hgd; omega) | simp -implicitDefEqProofs (maxSteps := 2000000) [hP, hN, g0, g1, g2, g6, g8, g9, g10, hb12, hb13, hb6, hb8, hb9, hlt, hw, hpl, hql, hbi, hpi, hqi, hbx, hpu, hqv, e0, r1, r2])
          | (with_reducible refine yB_split (by simp [g0, g1, g2, g6, g8, g9, g10, hb12, hb13, hb6, hb8, hb9, hlt, hw, hpl, hql, hbi, hpi, hqi, hbx, hpu, hqv, e0, r1, r2]) (fun hgd => ?_) (fun hgd => ?_) <;> first | (exfalso; simp at hgd; done) | (exfalso; simp at hgd; omega) | (simp -implicitDefEqProofs (maxSteps := 2000000) [hP, hN, g0, g1, g2, g6, g8, g9, g10, hb12, hb13, hb6, hb8, hb9, hlt, hw, hpl, hql, hbi, hpi, hqi, hbx, hpu, hqv, e0, r1, r2] <;> (try refine ⟨by kernel_rfl, ?_⟩)))
          | with_reducible refine xTwo_intro ?_ ?_
          | (with_reducible refine xCond_split (fun hcd => ?_) (fun hcd => ?_) <;> (try (exfalso; clear hP hN; simp_all; done)) <;> (try (exfalso; simp at *; omega)))
          | with_reducible refine WP.block ?_
          | (with_reducible ((first | refine WP.skip ?_ | refine WP.exit ?_ | refine WP.ret ?_); simp [g0, g1, g2, g6, g8, g9, g10, hb12, hb13, hb6, hb8, hb9, hlt, hw, hpl, hql, hbi, hpi, hqi, hbx, hpu, hqv, e0, r1, r2])))
      have hnx := entI_next (s' := s) hS hI hbi hpi hqi (by rw [hAt, entD, if_neg (by omega), if_neg (by omega), if_neg (by omega)])
      repeat' (first
        | with_reducible refine WP.seq ?_
        | (with_reducible ((first | refine WP.region (hn := []) ?_ | refine WP.cond' ?_); simp -implicitDefEqProofs (maxSteps := 2000000) [hP, hN, g0, g1, g2, g6, g8, g9, g10, hb12, hb13, hb6, hb8, hb9, hlt, hw, hpl, hql, hbi, hpi, hqi, hbx, hpu, hqv, e0, r1, r2]))
        | (with_reducible ((first | refine WP.draw (hn := []) (by rw [hP]; kernel_rfl) (by kernel_rfl) ?_); simp -implicitDefEqProofs (maxSteps := 2000000) [hP, hN, g0, g1, g2, g6, g8, g9, g10, hb12, hb13, hb6, hb8, hb9, hlt, hw, hpl, hql, hbi, hpi, hqi, hbx, hpu, hqv, e0, r1, r2]; (try refine ⟨by kernel_rfl, ?_⟩)))
        | (with_reducible refine xB_split (by simp [g0, g1, g2, g6, g8, g9, g10, hb12, hb13, hb6, hb8, hb9, hlt, hw, hpl, hql, hbi, hpi, hqi, hbx, hpu, hqv, e0, r1, r2]) (fun hgd => ?_) (fun hgd => ?_) <;> first | (exfalso; simp at hgd; done) | (exfalso; simp at hgd; omega) | simp -implicitDefEqProofs (maxSteps := 2000000) [hP, hN, g0, g1, g2, g6, g8, g9, g10, hb12, hb13, hb6, hb8, hb9, hlt, hw, hpl, hql, hbi, hpi, hqi, hbx, hpu, hqv, e0, r1, r2])
        | (with_reducible refine yB_split (by simp [g0, g1, g2, g6, g8, g9, g10, hb12, hb13, hb6, hb8, hb9, hlt, hw, hpl, hql, hbi, hpi, hqi, hbx, hpu, hqv, e0, r1, r2]) (fun hgd => ?_) (fun hgd => ?_) <;> first | (exfalso; simp at hgd; done) | (exfalso; simp at hgd; omega) | (simp -implicitDefEqProofs (maxSteps := 2000000) [hP, hN, g0, g1, g2, g6, g8, g9, g10, hb12, hb13, hb6, hb8, hb9, hlt, hw, hpl, hql, hbi, hpi, hqi, hbx, hpu, hqv, e0, r1, r2] <;> (try refine ⟨by kernel_rfl, ?_⟩)))
        | with_reducible refine xTwo_intro ?_ ?_
        | (with_reducible refine xCond_split (fun hcd => ?_) (fun hcd => ?_) <;> (try (exfalso; clear hP hN; simp_all; done)) <;> (try (exfalso; simp at *; omega)))
        | with_reducible refine WP.block ?_
        | (with_reducible ((first | refine WP.skip ?_ | refine WP.exit ?_ | refine WP.ret ?_); simp [g0, g1, g2, g6, g8, g9, g10, hb12, hb13, hb6, hb8, hb9, hlt, hw, hpl, hql, hbi, hpi, hqi, hbx, hpu, hqv, e0, r1, r2])))
      all_goals exact ⟨_, _, _, _, hnx, ⟨rfl, rfl⟩, rfl, rfl⟩
    · have hAt := entAt_pos (s := s) (x := (xl, xh)) hqp
      simp only at hAt
      have n3 : IntKind.i64.wrap (xl - u) = xl - u := wr_id (by omega) (by omega)
      have n4 : IntKind.i64.wrap (xh - u) = xh - u := wr_id (by omega) (by omega)
      have hDX : 0 < v - u ∧ v - u ≤ 4294967296 ∧ -4294967296 ≤ xl - u ∧ xl - u ≤ 4294967296 ∧ -4294967296 ≤ xh - u ∧ xh - u ≤ 4294967296 := by omega
      obtain ⟨D, hD⟩ : ∃ a, v - u = a := ⟨_, rfl⟩
      obtain ⟨X, hX⟩ : ∃ a, xl - u = a := ⟨_, rfl⟩
      obtain ⟨Y, hY⟩ : ∃ a, xh - u = a := ⟨_, rfl⟩
      rw [hX, hY, hD] at hAt
      rw [hX, hY, hD] at hDX
      have n0 : IntKind.i64.wrap (v - u) = D := n0.trans hD
      have n3 : IntKind.i64.wrap (xl - u) = X := n3.trans hX
      have n4 : IntKind.i64.wrap (xh - u) = Y := n4.trans hY
      clear hD hX hY
      have n6 : ¬ D < 0 := by omega
      have n7 : (D == 0) = false := by simp; omega
      by_cases r1 : D < X
      · have hn := entI_none hI hbi hpi hqi (by rw [hAt, entD, if_pos (.inl r1)])
        rw [entC, entX, hn]
        repeat' (first
          | with_reducible refine WP.seq ?_
          | (with_reducible ((first | refine WP.region (hn := []) ?_ | refine WP.cond' ?_); simp -implicitDefEqProofs (maxSteps := 2000000) [hP, hN, g0, g1, g2, g6, g8, g9, g10, hb12, hb13, hb6, hb8, hb9, hlt, hw, hpl, hql, hbi, hpi, hqi, hbx, hpu, hqv, n0, n3, n4, n6, n7, r1]))
          | (with_reducible ((first | refine WP.draw (hn := []) (by rw [hP]; kernel_rfl) (by kernel_rfl) ?_); simp -implicitDefEqProofs (maxSteps := 2000000) [hP, hN, g0, g1, g2, g6, g8, g9, g10, hb12, hb13, hb6, hb8, hb9, hlt, hw, hpl, hql, hbi, hpi, hqi, hbx, hpu, hqv, n0, n3, n4, n6, n7, r1]; (try refine ⟨by kernel_rfl, ?_⟩)))
          | (with_reducible refine xB_split (by simp [g0, g1, g2, g6, g8, g9, g10, hb12, hb13, hb6, hb8, hb9, hlt, hw, hpl, hql, hbi, hpi, hqi, hbx, hpu, hqv, n0, n3, n4, n6, n7, r1]) (fun hgd => ?_) (fun hgd => ?_) <;> first | (exfalso; simp at hgd; done) | (exfalso; simp at hgd; omega) | simp -implicitDefEqProofs (maxSteps := 2000000) [hP, hN, g0, g1, g2, g6, g8, g9, g10, hb12, hb13, hb6, hb8, hb9, hlt, hw, hpl, hql, hbi, hpi, hqi, hbx, hpu, hqv, n0, n3, n4, n6, n7, r1])
          | (with_reducible refine yB_split (by simp [g0, g1, g2, g6, g8, g9, g10, hb12, hb13, hb6, hb8, hb9, hlt, hw, hpl, hql, hbi, hpi, hqi, hbx, hpu, hqv, n0, n3, n4, n6, n7, r1]) (fun hgd => ?_) (fun hgd => ?_) <;> first | (exfalso; simp at hgd; done) | (exfalso; simp at hgd; omega) | (simp -implicitDefEqProofs (maxSteps := 2000000) [hP, hN, g0, g1, g2, g6, g8, g9, g10, hb12, hb13, hb6, hb8, hb9, hlt, hw, hpl, hql, hbi, hpi, hqi, hbx, hpu, hqv, n0, n3, n4, n6, n7, r1] <;> (try refine ⟨by kernel_rfl, ?_⟩)))
          | with_reducible refine xTwo_intro ?_ ?_
          | (with_reducible refine xCond_split (fun hcd => ?_) (fun hcd => ?_) <;> (try (exfalso; clear hP hN; simp_all; done)) <;> (try (exfalso; simp at *; omega)))
          | with_reducible refine WP.block ?_
          | (with_reducible ((first | refine WP.skip ?_ | refine WP.exit ?_ | refine WP.ret ?_); simp [g0, g1, g2, g6, g8, g9, g10, hb12, hb13, hb6, hb8, hb9, hlt, hw, hpl, hql, hbi, hpi, hqi, hbx, hpu, hqv, n0, n3, n4, n6, n7, r1])))
      by_cases r2 : Y < 0
      · have hn := entI_none hI hbi hpi hqi (by rw [hAt, entD, if_pos (.inr r2)])
        rw [entC, entX, hn]
        repeat' (first
          | with_reducible refine WP.seq ?_
          | (with_reducible ((first | refine WP.region (hn := []) ?_ | refine WP.cond' ?_); simp -implicitDefEqProofs (maxSteps := 2000000) [hP, hN, g0, g1, g2, g6, g8, g9, g10, hb12, hb13, hb6, hb8, hb9, hlt, hw, hpl, hql, hbi, hpi, hqi, hbx, hpu, hqv, n0, n3, n4, n6, n7, r1, r2]))
          | (with_reducible ((first | refine WP.draw (hn := []) (by rw [hP]; kernel_rfl) (by kernel_rfl) ?_); simp -implicitDefEqProofs (maxSteps := 2000000) [hP, hN, g0, g1, g2, g6, g8, g9, g10, hb12, hb13, hb6, hb8, hb9, hlt, hw, hpl, hql, hbi, hpi, hqi, hbx, hpu, hqv, n0, n3, n4, n6, n7, r1, r2]; (try refine ⟨by kernel_rfl, ?_⟩)))
          | (with_reducible refine xB_split (by simp [g0, g1, g2, g6, g8, g9, g10, hb12, hb13, hb6, hb8, hb9, hlt, hw, hpl, hql, hbi, hpi, hqi, hbx, hpu, hqv, n0, n3, n4, n6, n7, r1, r2]) (fun hgd => ?_) (fun hgd => ?_) <;> first | (exfalso; simp at hgd; done) | (exfalso; simp at hgd; omega) | simp -implicitDefEqProofs (maxSteps := 2000000) [hP, hN, g0, g1, g2, g6, g8, g9, g10, hb12, hb13, hb6, hb8, hb9, hlt, hw, hpl, hql, hbi, hpi, hqi, hbx, hpu, hqv, n0, n3, n4, n6, n7, r1, r2])
          | (with_reducible refine yB_split (by simp [g0, g1, g2, g6, g8, g9, g10, hb12, hb13, hb6, hb8, hb9, hlt, hw, hpl, hql, hbi, hpi, hqi, hbx, hpu, hqv, n0, n3, n4, n6, n7, r1, r2]) (fun hgd => ?_) (fun hgd => ?_) <;> first | (exfalso; simp at hgd; done) | (exfalso; simp at hgd; omega) | (simp -implicitDefEqProofs (maxSteps := 2000000) [hP, hN, g0, g1, g2, g6, g8, g9, g10, hb12, hb13, hb6, hb8, hb9, hlt, hw, hpl, hql, hbi, hpi, hqi, hbx, hpu, hqv, n0, n3, n4, n6, n7, r1, r2] <;> (try refine ⟨by kernel_rfl, ?_⟩)))
          | with_reducible refine xTwo_intro ?_ ?_
          | (with_reducible refine xCond_split (fun hcd => ?_) (fun hcd => ?_) <;> (try (exfalso; clear hP hN; simp_all; done)) <;> (try (exfalso; simp at *; omega)))
          | with_reducible refine WP.block ?_
          | (with_reducible ((first | refine WP.skip ?_ | refine WP.exit ?_ | refine WP.ret ?_); simp [g0, g1, g2, g6, g8, g9, g10, hb12, hb13, hb6, hb8, hb9, hlt, hw, hpl, hql, hbi, hpi, hqi, hbx, hpu, hqv, n0, n3, n4, n6, n7, r1, r2])))
      have hst : entD s X Y D = some (if 0 < X ∧ ltF s.1 (X, D) = true then (X, D) else s.1, if Y < D ∧ ltF (Y, D) s.2 = true then (Y, D) else s.2) := if_neg (by omega)
      have hnx := entI_next hS hI hbi hpi hqi (by rw [hAt]; exact hst)
      clear hst
      have c1 : 0 < X → DetH Try.prog 170 [.pv (encI s.1), .pv (encI (X, D))] [] [] (.pv (B (ltF s.1 (X, D)))) := fun h => d170 s.1 (X, D) hF1 ⟨by simp only; omega, by simp only; omega, by simp only; omega, by simp only; omega⟩
      have c2 : Y < D → DetH Try.prog 170 [.pv (encI (Y, D)), .pv (encI s.2)] [] [] (.pv (B (ltF (Y, D) s.2))) := fun h => d170 (Y, D) s.2 ⟨by simp only; omega, by simp only; omega, by simp only; omega, by simp only; omega⟩ hF2
      generalize ltF s.1 (X, D) = t1 at *
      generalize ltF (Y, D) s.2 = t2 at *
      try simp only at c1 c2
      by_cases u1 : 0 < X
      · have c1 := c1 u1
        by_cases u2 : Y < D
        · have c2 := c2 u2
          cases t1 <;> cases t2 <;> simp only [u1, u2, true_and, if_true, Bool.false_eq_true, if_false] at hnx
          · skip
            repeat' (first
              | with_reducible refine WP.seq ?_
              | (with_reducible ((first | refine WP.region (hn := []) ?_ | refine xC_intro (c1) ?_ | refine xC_intro (c2) ?_ | refine WP.cond' ?_); simp -implicitDefEqProofs (maxSteps := 2000000) [hP, hN, g0, g1, g2, g6, g8, g9, g10, hb12, hb13, hb6, hb8, hb9, hlt, hw, hpl, hql, hbi, hpi, hqi, hbx, hpu, hqv, n0, n3, n4, n6, n7, r1, r2, u1, u2]))
              | (with_reducible ((first | refine WP.draw (hn := []) (by rw [hP]; kernel_rfl) (by kernel_rfl) ?_ | refine yC_intro (c1) ?_ | refine yC_intro (c2) ?_); simp -implicitDefEqProofs (maxSteps := 2000000) [hP, hN, g0, g1, g2, g6, g8, g9, g10, hb12, hb13, hb6, hb8, hb9, hlt, hw, hpl, hql, hbi, hpi, hqi, hbx, hpu, hqv, n0, n3, n4, n6, n7, r1, r2, u1, u2]; (try refine ⟨by kernel_rfl, ?_⟩)))
              | (with_reducible refine xB_split (by simp [g0, g1, g2, g6, g8, g9, g10, hb12, hb13, hb6, hb8, hb9, hlt, hw, hpl, hql, hbi, hpi, hqi, hbx, hpu, hqv, n0, n3, n4, n6, n7, r1, r2, u1, u2]) (fun hgd => ?_) (fun hgd => ?_) <;> first | (exfalso; simp at hgd; done) | (exfalso; simp at hgd; omega) | simp -implicitDefEqProofs (maxSteps := 2000000) [hP, hN, g0, g1, g2, g6, g8, g9, g10, hb12, hb13, hb6, hb8, hb9, hlt, hw, hpl, hql, hbi, hpi, hqi, hbx, hpu, hqv, n0, n3, n4, n6, n7, r1, r2, u1, u2])
              | (with_reducible refine yB_split (by simp [g0, g1, g2, g6, g8, g9, g10, hb12, hb13, hb6, hb8, hb9, hlt, hw, hpl, hql, hbi, hpi, hqi, hbx, hpu, hqv, n0, n3, n4, n6, n7, r1, r2, u1, u2]) (fun hgd => ?_) (fun hgd => ?_) <;> first | (exfalso; simp at hgd; done) | (exfalso; simp at hgd; omega) | (simp -implicitDefEqProofs (maxSteps := 2000000) [hP, hN, g0, g1, g2, g6, g8, g9, g10, hb12, hb13, hb6, hb8, hb9, hlt, hw, hpl, hql, hbi, hpi, hqi, hbx, hpu, hqv, n0, n3, n4, n6, n7, r1, r2, u1, u2] <;> (try refine ⟨by kernel_rfl, ?_⟩)))
              | with_reducible refine xTwo_intro ?_ ?_
              | (with_reducible refine xCond_split (fun hcd => ?_) (fun hcd => ?_) <;> (try (exfalso; clear hP hN; simp_all; done)) <;> (try (exfalso; simp at *; omega)))
              | with_reducible refine WP.block ?_
              | (with_reducible ((first | refine WP.skip ?_ | refine WP.exit ?_ | refine WP.ret ?_); simp [g0, g1, g2, g6, g8, g9, g10, hb12, hb13, hb6, hb8, hb9, hlt, hw, hpl, hql, hbi, hpi, hqi, hbx, hpu, hqv, n0, n3, n4, n6, n7, r1, r2, u1, u2])))
            all_goals exact ⟨_, _, _, _, hnx, ⟨rfl, rfl⟩, rfl, rfl⟩
          · skip
            repeat' (first
              | with_reducible refine WP.seq ?_
              | (with_reducible ((first | refine WP.region (hn := []) ?_ | refine xC_intro (c1) ?_ | refine xC_intro (c2) ?_ | refine WP.cond' ?_); simp -implicitDefEqProofs (maxSteps := 2000000) [hP, hN, g0, g1, g2, g6, g8, g9, g10, hb12, hb13, hb6, hb8, hb9, hlt, hw, hpl, hql, hbi, hpi, hqi, hbx, hpu, hqv, n0, n3, n4, n6, n7, r1, r2, u1, u2]))
              | (with_reducible ((first | refine WP.draw (hn := []) (by rw [hP]; kernel_rfl) (by kernel_rfl) ?_ | refine yC_intro (c1) ?_ | refine yC_intro (c2) ?_); simp -implicitDefEqProofs (maxSteps := 2000000) [hP, hN, g0, g1, g2, g6, g8, g9, g10, hb12, hb13, hb6, hb8, hb9, hlt, hw, hpl, hql, hbi, hpi, hqi, hbx, hpu, hqv, n0, n3, n4, n6, n7, r1, r2, u1, u2]; (try refine ⟨by kernel_rfl, ?_⟩)))
              | (with_reducible refine xB_split (by simp [g0, g1, g2, g6, g8, g9, g10, hb12, hb13, hb6, hb8, hb9, hlt, hw, hpl, hql, hbi, hpi, hqi, hbx, hpu, hqv, n0, n3, n4, n6, n7, r1, r2, u1, u2]) (fun hgd => ?_) (fun hgd => ?_) <;> first | (exfalso; simp at hgd; done) | (exfalso; simp at hgd; omega) | simp -implicitDefEqProofs (maxSteps := 2000000) [hP, hN, g0, g1, g2, g6, g8, g9, g10, hb12, hb13, hb6, hb8, hb9, hlt, hw, hpl, hql, hbi, hpi, hqi, hbx, hpu, hqv, n0, n3, n4, n6, n7, r1, r2, u1, u2])
              | (with_reducible refine yB_split (by simp [g0, g1, g2, g6, g8, g9, g10, hb12, hb13, hb6, hb8, hb9, hlt, hw, hpl, hql, hbi, hpi, hqi, hbx, hpu, hqv, n0, n3, n4, n6, n7, r1, r2, u1, u2]) (fun hgd => ?_) (fun hgd => ?_) <;> first | (exfalso; simp at hgd; done) | (exfalso; simp at hgd; omega) | (simp -implicitDefEqProofs (maxSteps := 2000000) [hP, hN, g0, g1, g2, g6, g8, g9, g10, hb12, hb13, hb6, hb8, hb9, hlt, hw, hpl, hql, hbi, hpi, hqi, hbx, hpu, hqv, n0, n3, n4, n6, n7, r1, r2, u1, u2] <;> (try refine ⟨by kernel_rfl, ?_⟩)))
              | with_reducible refine xTwo_intro ?_ ?_
              | (with_reducible refine xCond_split (fun hcd => ?_) (fun hcd => ?_) <;> (try (exfalso; clear hP hN; simp_all; done)) <;> (try (exfalso; simp at *; omega)))
              | with_reducible refine WP.block ?_
              | (with_reducible ((first | refine WP.skip ?_ | refine WP.exit ?_ | refine WP.ret ?_); simp [g0, g1, g2, g6, g8, g9, g10, hb12, hb13, hb6, hb8, hb9, hlt, hw, hpl, hql, hbi, hpi, hqi, hbx, hpu, hqv, n0, n3, n4, n6, n7, r1, r2, u1, u2])))
            all_goals exact ⟨_, _, _, _, hnx, ⟨rfl, rfl⟩, rfl, rfl⟩
          · skip
            repeat' (first
              | with_reducible refine WP.seq ?_
              | (with_reducible ((first | refine WP.region (hn := []) ?_ | refine xC_intro (c1) ?_ | refine xC_intro (c2) ?_ | refine WP.cond' ?_); simp -implicitDefEqProofs (maxSteps := 2000000) [hP, hN, g0, g1, g2, g6, g8, g9, g10, hb12, hb13, hb6, hb8, hb9, hlt, hw, hpl, hql, hbi, hpi, hqi, hbx, hpu, hqv, n0, n3, n4, n6, n7, r1, r2, u1, u2]))
              | (with_reducible ((first | refine WP.draw (hn := []) (by rw [hP]; kernel_rfl) (by kernel_rfl) ?_ | refine yC_intro (c1) ?_ | refine yC_intro (c2) ?_); simp -implicitDefEqProofs (maxSteps := 2000000) [hP, hN, g0, g1, g2, g6, g8, g9, g10, hb12, hb13, hb6, hb8, hb9, hlt, hw, hpl, hql, hbi, hpi, hqi, hbx, hpu, hqv, n0, n3, n4, n6, n7, r1, r2, u1, u2]; (try refine ⟨by kernel_rfl, ?_⟩)))
              | (with_reducible refine xB_split (by simp [g0, g1, g2, g6, g8, g9, g10, hb12, hb13, hb6, hb8, hb9, hlt, hw, hpl, hql, hbi, hpi, hqi, hbx, hpu, hqv, n0, n3, n4, n6, n7, r1, r2, u1, u2]) (fun hgd => ?_) (fun hgd => ?_) <;> first | (exfalso; simp at hgd; done) | (exfalso; simp at hgd; omega) | simp -implicitDefEqProofs (maxSteps := 2000000) [hP, hN, g0, g1, g2, g6, g8, g9, g10, hb12, hb13, hb6, hb8, hb9, hlt, hw, hpl, hql, hbi, hpi, hqi, hbx, hpu, hqv, n0, n3, n4, n6, n7, r1, r2, u1, u2])
              | (with_reducible refine yB_split (by simp [g0, g1, g2, g6, g8, g9, g10, hb12, hb13, hb6, hb8, hb9, hlt, hw, hpl, hql, hbi, hpi, hqi, hbx, hpu, hqv, n0, n3, n4, n6, n7, r1, r2, u1, u2]) (fun hgd => ?_) (fun hgd => ?_) <;> first | (exfalso; simp at hgd; done) | (exfalso; simp at hgd; omega) | (simp -implicitDefEqProofs (maxSteps := 2000000) [hP, hN, g0, g1, g2, g6, g8, g9, g10, hb12, hb13, hb6, hb8, hb9, hlt, hw, hpl, hql, hbi, hpi, hqi, hbx, hpu, hqv, n0, n3, n4, n6, n7, r1, r2, u1, u2] <;> (try refine ⟨by kernel_rfl, ?_⟩)))
              | with_reducible refine xTwo_intro ?_ ?_
              | (with_reducible refine xCond_split (fun hcd => ?_) (fun hcd => ?_) <;> (try (exfalso; clear hP hN; simp_all; done)) <;> (try (exfalso; simp at *; omega)))
              | with_reducible refine WP.block ?_
              | (with_reducible ((first | refine WP.skip ?_ | refine WP.exit ?_ | refine WP.ret ?_); simp [g0, g1, g2, g6, g8, g9, g10, hb12, hb13, hb6, hb8, hb9, hlt, hw, hpl, hql, hbi, hpi, hqi, hbx, hpu, hqv, n0, n3, n4, n6, n7, r1, r2, u1, u2])))
            all_goals exact ⟨_, _, _, _, hnx, ⟨rfl, rfl⟩, rfl, rfl⟩
          · skip
            repeat' (first
              | with_reducible refine WP.seq ?_
              | (with_reducible ((first | refine WP.region (hn := []) ?_ | refine xC_intro (c1) ?_ | refine xC_intro (c2) ?_ | refine WP.cond' ?_); simp -implicitDefEqProofs (maxSteps := 2000000) [hP, hN, g0, g1, g2, g6, g8, g9, g10, hb12, hb13, hb6, hb8, hb9, hlt, hw, hpl, hql, hbi, hpi, hqi, hbx, hpu, hqv, n0, n3, n4, n6, n7, r1, r2, u1, u2]))
              | (with_reducible ((first | refine WP.draw (hn := []) (by rw [hP]; kernel_rfl) (by kernel_rfl) ?_ | refine yC_intro (c1) ?_ | refine yC_intro (c2) ?_); simp -implicitDefEqProofs (maxSteps := 2000000) [hP, hN, g0, g1, g2, g6, g8, g9, g10, hb12, hb13, hb6, hb8, hb9, hlt, hw, hpl, hql, hbi, hpi, hqi, hbx, hpu, hqv, n0, n3, n4, n6, n7, r1, r2, u1, u2]; (try refine ⟨by kernel_rfl, ?_⟩)))
              | (with_reducible refine xB_split (by simp [g0, g1, g2, g6, g8, g9, g10, hb12, hb13, hb6, hb8, hb9, hlt, hw, hpl, hql, hbi, hpi, hqi, hbx, hpu, hqv, n0, n3, n4, n6, n7, r1, r2, u1, u2]) (fun hgd => ?_) (fun hgd => ?_) <;> first | (exfalso; simp at hgd; done) | (exfalso; simp at hgd; omega) | simp -implicitDefEqProofs (maxSteps := 2000000) [hP, hN, g0, g1, g2, g6, g8, g9, g10, hb12, hb13, hb6, hb8, hb9, hlt, hw, hpl, hql, hbi, hpi, hqi, hbx, hpu, hqv, n0, n3, n4, n6, n7, r1, r2, u1, u2])
              | (with_reducible refine yB_split (by simp [g0, g1, g2, g6, g8, g9, g10, hb12, hb13, hb6, hb8, hb9, hlt, hw, hpl, hql, hbi, hpi, hqi, hbx, hpu, hqv, n0, n3, n4, n6, n7, r1, r2, u1, u2]) (fun hgd => ?_) (fun hgd => ?_) <;> first | (exfalso; simp at hgd; done) | (exfalso; simp at hgd; omega) | (simp -implicitDefEqProofs (maxSteps := 2000000) [hP, hN, g0, g1, g2, g6, g8, g9, g10, hb12, hb13, hb6, hb8, hb9, hlt, hw, hpl, hql, hbi, hpi, hqi, hbx, hpu, hqv, n0, n3, n4, n6, n7, r1, r2, u1, u2] <;> (try refine ⟨by kernel_rfl, ?_⟩)))
              | with_reducible refine xTwo_intro ?_ ?_
              | (with_reducible refine xCond_split (fun hcd => ?_) (fun hcd => ?_) <;> (try (exfalso; clear hP hN; simp_all; done)) <;> (try (exfalso; simp at *; omega)))
              | with_reducible refine WP.block ?_
              | (with_reducible ((first | refine WP.skip ?_ | refine WP.exit ?_ | refine WP.ret ?_); simp [g0, g1, g2, g6, g8, g9, g10, hb12, hb13, hb6, hb8, hb9, hlt, hw, hpl, hql, hbi, hpi, hqi, hbx, hpu, hqv, n0, n3, n4, n6, n7, r1, r2, u1, u2])))
            all_goals exact ⟨_, _, _, _, hnx, ⟨rfl, rfl⟩, rfl, rfl⟩
        · cases t1 <;> simp only [u1, u2, true_and, false_and, if_true, Bool.false_eq_true, if_false] at hnx
          · skip
            repeat' (first
              | with_reducible refine WP.seq ?_
              | (with_reducible ((first | refine WP.region (hn := []) ?_ | refine xC_intro (c1) ?_ | refine WP.cond' ?_); simp -implicitDefEqProofs (maxSteps := 2000000) [hP, hN, g0, g1, g2, g6, g8, g9, g10, hb12, hb13, hb6, hb8, hb9, hlt, hw, hpl, hql, hbi, hpi, hqi, hbx, hpu, hqv, n0, n3, n4, n6, n7, r1, r2, u1, u2]))
              | (with_reducible ((first | refine WP.draw (hn := []) (by rw [hP]; kernel_rfl) (by kernel_rfl) ?_ | refine yC_intro (c1) ?_); simp -implicitDefEqProofs (maxSteps := 2000000) [hP, hN, g0, g1, g2, g6, g8, g9, g10, hb12, hb13, hb6, hb8, hb9, hlt, hw, hpl, hql, hbi, hpi, hqi, hbx, hpu, hqv, n0, n3, n4, n6, n7, r1, r2, u1, u2]; (try refine ⟨by kernel_rfl, ?_⟩)))
              | (with_reducible refine xB_split (by simp [g0, g1, g2, g6, g8, g9, g10, hb12, hb13, hb6, hb8, hb9, hlt, hw, hpl, hql, hbi, hpi, hqi, hbx, hpu, hqv, n0, n3, n4, n6, n7, r1, r2, u1, u2]) (fun hgd => ?_) (fun hgd => ?_) <;> first | (exfalso; simp at hgd; done) | (exfalso; simp at hgd; omega) | simp -implicitDefEqProofs (maxSteps := 2000000) [hP, hN, g0, g1, g2, g6, g8, g9, g10, hb12, hb13, hb6, hb8, hb9, hlt, hw, hpl, hql, hbi, hpi, hqi, hbx, hpu, hqv, n0, n3, n4, n6, n7, r1, r2, u1, u2])
              | (with_reducible refine yB_split (by simp [g0, g1, g2, g6, g8, g9, g10, hb12, hb13, hb6, hb8, hb9, hlt, hw, hpl, hql, hbi, hpi, hqi, hbx, hpu, hqv, n0, n3, n4, n6, n7, r1, r2, u1, u2]) (fun hgd => ?_) (fun hgd => ?_) <;> first | (exfalso; simp at hgd; done) | (exfalso; simp at hgd; omega) | (simp -implicitDefEqProofs (maxSteps := 2000000) [hP, hN, g0, g1, g2, g6, g8, g9, g10, hb12, hb13, hb6, hb8, hb9, hlt, hw, hpl, hql, hbi, hpi, hqi, hbx, hpu, hqv, n0, n3, n4, n6, n7, r1, r2, u1, u2] <;> (try refine ⟨by kernel_rfl, ?_⟩)))
              | with_reducible refine xTwo_intro ?_ ?_
              | (with_reducible refine xCond_split (fun hcd => ?_) (fun hcd => ?_) <;> (try (exfalso; clear hP hN; simp_all; done)) <;> (try (exfalso; simp at *; omega)))
              | with_reducible refine WP.block ?_
              | (with_reducible ((first | refine WP.skip ?_ | refine WP.exit ?_ | refine WP.ret ?_); simp [g0, g1, g2, g6, g8, g9, g10, hb12, hb13, hb6, hb8, hb9, hlt, hw, hpl, hql, hbi, hpi, hqi, hbx, hpu, hqv, n0, n3, n4, n6, n7, r1, r2, u1, u2])))
            all_goals exact ⟨_, _, _, _, hnx, ⟨rfl, rfl⟩, rfl, rfl⟩
          · skip
            repeat' (first
              | with_reducible refine WP.seq ?_
              | (with_reducible ((first | refine WP.region (hn := []) ?_ | refine xC_intro (c1) ?_ | refine WP.cond' ?_); simp -implicitDefEqProofs (maxSteps := 2000000) [hP, hN, g0, g1, g2, g6, g8, g9, g10, hb12, hb13, hb6, hb8, hb9, hlt, hw, hpl, hql, hbi, hpi, hqi, hbx, hpu, hqv, n0, n3, n4, n6, n7, r1, r2, u1, u2]))
              | (with_reducible ((first | refine WP.draw (hn := []) (by rw [hP]; kernel_rfl) (by kernel_rfl) ?_ | refine yC_intro (c1) ?_); simp -implicitDefEqProofs (maxSteps := 2000000) [hP, hN, g0, g1, g2, g6, g8, g9, g10, hb12, hb13, hb6, hb8, hb9, hlt, hw, hpl, hql, hbi, hpi, hqi, hbx, hpu, hqv, n0, n3, n4, n6, n7, r1, r2, u1, u2]; (try refine ⟨by kernel_rfl, ?_⟩)))
              | (with_reducible refine xB_split (by simp [g0, g1, g2, g6, g8, g9, g10, hb12, hb13, hb6, hb8, hb9, hlt, hw, hpl, hql, hbi, hpi, hqi, hbx, hpu, hqv, n0, n3, n4, n6, n7, r1, r2, u1, u2]) (fun hgd => ?_) (fun hgd => ?_) <;> first | (exfalso; simp at hgd; done) | (exfalso; simp at hgd; omega) | simp -implicitDefEqProofs (maxSteps := 2000000) [hP, hN, g0, g1, g2, g6, g8, g9, g10, hb12, hb13, hb6, hb8, hb9, hlt, hw, hpl, hql, hbi, hpi, hqi, hbx, hpu, hqv, n0, n3, n4, n6, n7, r1, r2, u1, u2])
              | (with_reducible refine yB_split (by simp [g0, g1, g2, g6, g8, g9, g10, hb12, hb13, hb6, hb8, hb9, hlt, hw, hpl, hql, hbi, hpi, hqi, hbx, hpu, hqv, n0, n3, n4, n6, n7, r1, r2, u1, u2]) (fun hgd => ?_) (fun hgd => ?_) <;> first | (exfalso; simp at hgd; done) | (exfalso; simp at hgd; omega) | (simp -implicitDefEqProofs (maxSteps := 2000000) [hP, hN, g0, g1, g2, g6, g8, g9, g10, hb12, hb13, hb6, hb8, hb9, hlt, hw, hpl, hql, hbi, hpi, hqi, hbx, hpu, hqv, n0, n3, n4, n6, n7, r1, r2, u1, u2] <;> (try refine ⟨by kernel_rfl, ?_⟩)))
              | with_reducible refine xTwo_intro ?_ ?_
              | (with_reducible refine xCond_split (fun hcd => ?_) (fun hcd => ?_) <;> (try (exfalso; clear hP hN; simp_all; done)) <;> (try (exfalso; simp at *; omega)))
              | with_reducible refine WP.block ?_
              | (with_reducible ((first | refine WP.skip ?_ | refine WP.exit ?_ | refine WP.ret ?_); simp [g0, g1, g2, g6, g8, g9, g10, hb12, hb13, hb6, hb8, hb9, hlt, hw, hpl, hql, hbi, hpi, hqi, hbx, hpu, hqv, n0, n3, n4, n6, n7, r1, r2, u1, u2])))
            all_goals exact ⟨_, _, _, _, hnx, ⟨rfl, rfl⟩, rfl, rfl⟩
      · by_cases u2 : Y < D
        · have c2 := c2 u2
          cases t2 <;> simp only [u1, u2, true_and, false_and, if_true, Bool.false_eq_true, if_false] at hnx
          · skip
            repeat' (first
              | with_reducible refine WP.seq ?_
              | (with_reducible ((first | refine WP.region (hn := []) ?_ | refine xC_intro (c2) ?_ | refine WP.cond' ?_); simp -implicitDefEqProofs (maxSteps := 2000000) [hP, hN, g0, g1, g2, g6, g8, g9, g10, hb12, hb13, hb6, hb8, hb9, hlt, hw, hpl, hql, hbi, hpi, hqi, hbx, hpu, hqv, n0, n3, n4, n6, n7, r1, r2, u1, u2]))
              | (with_reducible ((first | refine WP.draw (hn := []) (by rw [hP]; kernel_rfl) (by kernel_rfl) ?_ | refine yC_intro (c2) ?_); simp -implicitDefEqProofs (maxSteps := 2000000) [hP, hN, g0, g1, g2, g6, g8, g9, g10, hb12, hb13, hb6, hb8, hb9, hlt, hw, hpl, hql, hbi, hpi, hqi, hbx, hpu, hqv, n0, n3, n4, n6, n7, r1, r2, u1, u2]; (try refine ⟨by kernel_rfl, ?_⟩)))
              | (with_reducible refine xB_split (by simp [g0, g1, g2, g6, g8, g9, g10, hb12, hb13, hb6, hb8, hb9, hlt, hw, hpl, hql, hbi, hpi, hqi, hbx, hpu, hqv, n0, n3, n4, n6, n7, r1, r2, u1, u2]) (fun hgd => ?_) (fun hgd => ?_) <;> first | (exfalso; simp at hgd; done) | (exfalso; simp at hgd; omega) | simp -implicitDefEqProofs (maxSteps := 2000000) [hP, hN, g0, g1, g2, g6, g8, g9, g10, hb12, hb13, hb6, hb8, hb9, hlt, hw, hpl, hql, hbi, hpi, hqi, hbx, hpu, hqv, n0, n3, n4, n6, n7, r1, r2, u1, u2])
              | (with_reducible refine yB_split (by simp [g0, g1, g2, g6, g8, g9, g10, hb12, hb13, hb6, hb8, hb9, hlt, hw, hpl, hql, hbi, hpi, hqi, hbx, hpu, hqv, n0, n3, n4, n6, n7, r1, r2, u1, u2]) (fun hgd => ?_) (fun hgd => ?_) <;> first | (exfalso; simp at hgd; done) | (exfalso; simp at hgd; omega) | (simp -implicitDefEqProofs (maxSteps := 2000000) [hP, hN, g0, g1, g2, g6, g8, g9, g10, hb12, hb13, hb6, hb8, hb9, hlt, hw, hpl, hql, hbi, hpi, hqi, hbx, hpu, hqv, n0, n3, n4, n6, n7, r1, r2, u1, u2] <;> (try refine ⟨by kernel_rfl, ?_⟩)))
              | with_reducible refine xTwo_intro ?_ ?_
              | (with_reducible refine xCond_split (fun hcd => ?_) (fun hcd => ?_) <;> (try (exfalso; clear hP hN; simp_all; done)) <;> (try (exfalso; simp at *; omega)))
              | with_reducible refine WP.block ?_
              | (with_reducible ((first | refine WP.skip ?_ | refine WP.exit ?_ | refine WP.ret ?_); simp [g0, g1, g2, g6, g8, g9, g10, hb12, hb13, hb6, hb8, hb9, hlt, hw, hpl, hql, hbi, hpi, hqi, hbx, hpu, hqv, n0, n3, n4, n6, n7, r1, r2, u1, u2])))
            all_goals exact ⟨_, _, _, _, hnx, ⟨rfl, rfl⟩, rfl, rfl⟩
          · skip
            repeat' (first
              | with_reducible refine WP.seq ?_
              | (with_reducible ((first | refine WP.region (hn := []) ?_ | refine xC_intro (c2) ?_ | refine WP.cond' ?_); simp -implicitDefEqProofs (maxSteps := 2000000) [hP, hN, g0, g1, g2, g6, g8, g9, g10, hb12, hb13, hb6, hb8, hb9, hlt, hw, hpl, hql, hbi, hpi, hqi, hbx, hpu, hqv, n0, n3, n4, n6, n7, r1, r2, u1, u2]))
              | (with_reducible ((first | refine WP.draw (hn := []) (by rw [hP]; kernel_rfl) (by kernel_rfl) ?_ | refine yC_intro (c2) ?_); simp -implicitDefEqProofs (maxSteps := 2000000) [hP, hN, g0, g1, g2, g6, g8, g9, g10, hb12, hb13, hb6, hb8, hb9, hlt, hw, hpl, hql, hbi, hpi, hqi, hbx, hpu, hqv, n0, n3, n4, n6, n7, r1, r2, u1, u2]; (try refine ⟨by kernel_rfl, ?_⟩)))
              | (with_reducible refine xB_split (by simp [g0, g1, g2, g6, g8, g9, g10, hb12, hb13, hb6, hb8, hb9, hlt, hw, hpl, hql, hbi, hpi, hqi, hbx, hpu, hqv, n0, n3, n4, n6, n7, r1, r2, u1, u2]) (fun hgd => ?_) (fun hgd => ?_) <;> first | (exfalso; simp at hgd; done) | (exfalso; simp at hgd; omega) | simp -implicitDefEqProofs (maxSteps := 2000000) [hP, hN, g0, g1, g2, g6, g8, g9, g10, hb12, hb13, hb6, hb8, hb9, hlt, hw, hpl, hql, hbi, hpi, hqi, hbx, hpu, hqv, n0, n3, n4, n6, n7, r1, r2, u1, u2])
              | (with_reducible refine yB_split (by simp [g0, g1, g2, g6, g8, g9, g10, hb12, hb13, hb6, hb8, hb9, hlt, hw, hpl, hql, hbi, hpi, hqi, hbx, hpu, hqv, n0, n3, n4, n6, n7, r1, r2, u1, u2]) (fun hgd => ?_) (fun hgd => ?_) <;> first | (exfalso; simp at hgd; done) | (exfalso; simp at hgd; omega) | (simp -implicitDefEqProofs (maxSteps := 2000000) [hP, hN, g0, g1, g2, g6, g8, g9, g10, hb12, hb13, hb6, hb8, hb9, hlt, hw, hpl, hql, hbi, hpi, hqi, hbx, hpu, hqv, n0, n3, n4, n6, n7, r1, r2, u1, u2] <;> (try refine ⟨by kernel_rfl, ?_⟩)))
              | with_reducible refine xTwo_intro ?_ ?_
              | (with_reducible refine xCond_split (fun hcd => ?_) (fun hcd => ?_) <;> (try (exfalso; clear hP hN; simp_all; done)) <;> (try (exfalso; simp at *; omega)))
              | with_reducible refine WP.block ?_
              | (with_reducible ((first | refine WP.skip ?_ | refine WP.exit ?_ | refine WP.ret ?_); simp [g0, g1, g2, g6, g8, g9, g10, hb12, hb13, hb6, hb8, hb9, hlt, hw, hpl, hql, hbi, hpi, hqi, hbx, hpu, hqv, n0, n3, n4, n6, n7, r1, r2, u1, u2])))
            all_goals exact ⟨_, _, _, _, hnx, ⟨rfl, rfl⟩, rfl, rfl⟩
        · simp only [u1, u2, false_and, if_false] at hnx
          repeat' (first
            | with_reducible refine WP.seq ?_
            | (with_reducible ((first | refine WP.region (hn := []) ?_ | refine WP.cond' ?_); simp -implicitDefEqProofs (maxSteps := 2000000) [hP, hN, g0, g1, g2, g6, g8, g9, g10, hb12, hb13, hb6, hb8, hb9, hlt, hw, hpl, hql, hbi, hpi, hqi, hbx, hpu, hqv, n0, n3, n4, n6, n7, r1, r2, u1, u2]))
            | (with_reducible ((first | refine WP.draw (hn := []) (by rw [hP]; kernel_rfl) (by kernel_rfl) ?_); simp -implicitDefEqProofs (maxSteps := 2000000) [hP, hN, g0, g1, g2, g6, g8, g9, g10, hb12, hb13, hb6, hb8, hb9, hlt, hw, hpl, hql, hbi, hpi, hqi, hbx, hpu, hqv, n0, n3, n4, n6, n7, r1, r2, u1, u2]; (try refine ⟨by kernel_rfl, ?_⟩)))
            | (with_reducible refine xB_split (by simp [g0, g1, g2, g6, g8, g9, g10, hb12, hb13, hb6, hb8, hb9, hlt, hw, hpl, hql, hbi, hpi, hqi, hbx, hpu, hqv, n0, n3, n4, n6, n7, r1, r2, u1, u2]) (fun hgd => ?_) (fun hgd => ?_) <;> first | (exfalso; simp at hgd; done) | (exfalso; simp at hgd; omega) | simp -implicitDefEqProofs (maxSteps := 2000000) [hP, hN, g0, g1, g2, g6, g8, g9, g10, hb12, hb13, hb6, hb8, hb9, hlt, hw, hpl, hql, hbi, hpi, hqi, hbx, hpu, hqv, n0, n3, n4, n6, n7, r1, r2, u1, u2])
            | (with_reducible refine yB_split (by simp [g0, g1, g2, g6, g8, g9, g10, hb12, hb13, hb6, hb8, hb9, hlt, hw, hpl, hql, hbi, hpi, hqi, hbx, hpu, hqv, n0, n3, n4, n6, n7, r1, r2, u1, u2]) (fun hgd => ?_) (fun hgd => ?_) <;> first | (exfalso; simp at hgd; done) | (exfalso; simp at hgd; omega) | (simp -implicitDefEqProofs (maxSteps := 2000000) [hP, hN, g0, g1, g2, g6, g8, g9, g10, hb12, hb13, hb6, hb8, hb9, hlt, hw, hpl, hql, hbi, hpi, hqi, hbx, hpu, hqv, n0, n3, n4, n6, n7, r1, r2, u1, u2] <;> (try refine ⟨by kernel_rfl, ?_⟩)))
            | with_reducible refine xTwo_intro ?_ ?_
            | (with_reducible refine xCond_split (fun hcd => ?_) (fun hcd => ?_) <;> (try (exfalso; clear hP hN; simp_all; done)) <;> (try (exfalso; simp at *; omega)))
            | with_reducible refine WP.block ?_
            | (with_reducible ((first | refine WP.skip ?_ | refine WP.exit ?_ | refine WP.ret ?_); simp [g0, g1, g2, g6, g8, g9, g10, hb12, hb13, hb6, hb8, hb9, hlt, hw, hpl, hql, hbi, hpi, hqi, hbx, hpu, hqv, n0, n3, n4, n6, n7, r1, r2, u1, u2])))
          all_goals exact ⟨_, _, _, _, hnx, ⟨rfl, rfl⟩, rfl, rfl⟩
  · have hd := entI_done hI (by omega)
    have cl := d170 s.2 s.1 hF2 hF1
    rw [entC, entX, hd]
    simp only
    cases hl : ltF s.2 s.1 with
    | true =>
      rw [hl] at cl
      repeat' (first
        | with_reducible refine WP.seq ?_
        | (with_reducible ((first | refine WP.region (hn := []) ?_ | refine xC_intro (cl) ?_ | refine WP.cond' ?_); simp -implicitDefEqProofs (maxSteps := 2000000) [hP, hN, g0, g1, g2, g6, g8, g9, g10, hb6, hb8, hb9, hlt]))
        | (with_reducible ((first | refine WP.draw (hn := []) (by rw [hP]; kernel_rfl) (by kernel_rfl) ?_ | refine yC_intro (cl) ?_); simp -implicitDefEqProofs (maxSteps := 2000000) [hP, hN, g0, g1, g2, g6, g8, g9, g10, hb6, hb8, hb9, hlt]; (try refine ⟨by kernel_rfl, ?_⟩)))
        | (with_reducible refine xB_split (by simp [g0, g1, g2, g6, g8, g9, g10, hb6, hb8, hb9, hlt]) (fun hgd => ?_) (fun hgd => ?_) <;> first | (exfalso; simp at hgd; done) | (exfalso; simp at hgd; omega) | simp -implicitDefEqProofs (maxSteps := 2000000) [hP, hN, g0, g1, g2, g6, g8, g9, g10, hb6, hb8, hb9, hlt])
        | (with_reducible refine yB_split (by simp [g0, g1, g2, g6, g8, g9, g10, hb6, hb8, hb9, hlt]) (fun hgd => ?_) (fun hgd => ?_) <;> first | (exfalso; simp at hgd; done) | (exfalso; simp at hgd; omega) | (simp -implicitDefEqProofs (maxSteps := 2000000) [hP, hN, g0, g1, g2, g6, g8, g9, g10, hb6, hb8, hb9, hlt] <;> (try refine ⟨by kernel_rfl, ?_⟩)))
        | with_reducible refine xTwo_intro ?_ ?_
        | (with_reducible refine xCond_split (fun hcd => ?_) (fun hcd => ?_) <;> (try (exfalso; clear hP hN; simp_all; done)) <;> (try (exfalso; simp at *; omega)))
        | with_reducible refine WP.block ?_
        | (with_reducible ((first | refine WP.skip ?_ | refine WP.exit ?_ | refine WP.ret ?_); simp [g0, g1, g2, g6, g8, g9, g10, hb6, hb8, hb9, hlt])))
    | false =>
      rw [hl] at cl
      repeat' (first
        | with_reducible refine WP.seq ?_
        | (with_reducible ((first | refine WP.region (hn := []) ?_ | refine xC_intro (cl) ?_ | refine WP.cond' ?_); simp -implicitDefEqProofs (maxSteps := 2000000) [hP, hN, g0, g1, g2, g6, g8, g9, g10, hb6, hb8, hb9, hlt]))
        | (with_reducible ((first | refine WP.draw (hn := []) (by rw [hP]; kernel_rfl) (by kernel_rfl) ?_ | refine yC_intro (cl) ?_); simp -implicitDefEqProofs (maxSteps := 2000000) [hP, hN, g0, g1, g2, g6, g8, g9, g10, hb6, hb8, hb9, hlt]; (try refine ⟨by kernel_rfl, ?_⟩)))
        | (with_reducible refine xB_split (by simp [g0, g1, g2, g6, g8, g9, g10, hb6, hb8, hb9, hlt]) (fun hgd => ?_) (fun hgd => ?_) <;> first | (exfalso; simp at hgd; done) | (exfalso; simp at hgd; omega) | simp -implicitDefEqProofs (maxSteps := 2000000) [hP, hN, g0, g1, g2, g6, g8, g9, g10, hb6, hb8, hb9, hlt])
        | (with_reducible refine yB_split (by simp [g0, g1, g2, g6, g8, g9, g10, hb6, hb8, hb9, hlt]) (fun hgd => ?_) (fun hgd => ?_) <;> first | (exfalso; simp at hgd; done) | (exfalso; simp at hgd; omega) | (simp -implicitDefEqProofs (maxSteps := 2000000) [hP, hN, g0, g1, g2, g6, g8, g9, g10, hb6, hb8, hb9, hlt] <;> (try refine ⟨by kernel_rfl, ?_⟩)))
        | with_reducible refine xTwo_intro ?_ ?_
        | (with_reducible refine xCond_split (fun hcd => ?_) (fun hcd => ?_) <;> (try (exfalso; clear hP hN; simp_all; done)) <;> (try (exfalso; simp at *; omega)))
        | with_reducible refine WP.block ?_
        | (with_reducible ((first | refine WP.skip ?_ | refine WP.exit ?_ | refine WP.ret ?_); simp [g0, g1, g2, g6, g8, g9, g10, hb6, hb8, hb9, hlt])))
end Go.Ab
