/- Contracts: the entry of a motion into a box, II. -/
import Derived.Test.YtagmnknighofeaaCu8
set_option linter.all false
namespace Go.Ab
open Go.Proofs
def entStep (s : Fr × Fr) (a b lo hi : Int) : Option (Fr × Fr) :=
  if b < lo ∨ hi < a then none
  else some (if a < lo ∧ ltF s.1 (lo - a, b - a) = true then (lo - a, b - a) else s.1, if hi < b ∧ ltF (hi - a, b - a) s.2 = true then (hi - a, b - a) else s.2)
def entAt (s : Fr × Fr) (p q : Int) (x : Int × Int) : Option (Fr × Fr) := if q < p then entStep s (-p) (-q) (-x.2) (-x.1) else entStep s p q x.1 x.2
def entRun : Bx → List Int → List Int → Fr × Fr → Option (Fr × Fr)
  | x :: b, p :: ps, q :: qs, s => match entAt s p q x with
    | none => none
    | some s' => entRun b ps qs s'
  | _, _, _, s => some s
def ent0 : Fr × Fr := ((0, 1), (1, 1))
/-- The least fraction at which a motion is in a box. -/
def entC (b : Bx) (p q : List Int) : Option Fr := match entRun b p q ent0 with
  | none => none
  | some s => if ltF s.2 s.1 then none else some s.1
structure Sm (b : Bx) (p q : List Int) : Prop where
  v : allB vI b = true
  lb : b.length ≤ 16777216
  lp : p.length = b.length
  lq : q.length = b.length
  sp : ∀ y ∈ p, -2147483648 ≤ y ∧ y ≤ 2147483648
  sq : ∀ y ∈ q, -2147483648 ≤ y ∧ y ≤ 2147483648
def okS (s : Fr × Fr) : Prop := 0 ≤ s.1.1 ∧ s.1.1 ≤ 4294967296 ∧ 0 < s.1.2 ∧ s.1.2 ≤ 4294967296 ∧ 0 ≤ s.2.1 ∧ s.2.1 ≤ 4294967296 ∧ 0 < s.2.2 ∧ s.2.2 ≤ 4294967296
theorem okS_F {s : Fr × Fr} (h : okS s) : okF s.1 ∧ okF s.2 := by
  obtain ⟨h1, h2, h3, h4, h5, h6, h7, h8⟩ := h
  exact ⟨⟨h1, by omega, by omega, by omega⟩, ⟨h5, by omega, by omega, by omega⟩⟩
theorem entStep_ok {s s' : Fr × Fr} {a b lo hi : Int} (hs : okS s) (h : entStep s a b lo hi = some s') (ha : -2147483648 ≤ a) (hb : b ≤ 2147483648) (hl : lo ≤ 2147483648) (hh : -2147483648 ≤ hi) (h1 : lo ≤ hi) (hab : a ≤ b) : okS s' := by
  obtain ⟨s1, s2, s3, s4, s5, s6, s7, s8⟩ := hs
  unfold entStep at h
  split at h
  · cases h
  · injection h with h
    subst h
    unfold okS
    dsimp only
    refine ⟨?_, ?_, ?_, ?_, ?_, ?_, ?_, ?_⟩ <;> (split <;> (try dsimp only) <;> omega)
theorem entAt_ok {s s' : Fr × Fr} {p q : Int} {x : Int × Int} (hs : okS s) (h : entAt s p q x = some s') (hx : validB x.1 x.2 = true) (hp : -2147483648 ≤ p ∧ p ≤ 2147483648) (hq : -2147483648 ≤ q ∧ q ≤ 2147483648) : okS s' := by
  have v := validB_iff.1 hx
  unfold entAt at h
  split at h
  · exact entStep_ok hs h (by omega) (by omega) (by omega) (by omega) (by omega) (by omega)
  · exact entStep_ok hs h (by omega) (by omega) (by omega) (by omega) (by omega) (by omega)
theorem entRun_step {b : Bx} {p q : List Int} {i : Nat} {s : Fr × Fr} {x : Int × Int} {u v : Int} (h1 : b[i]? = some x) (h2 : p[i]? = some u) (h3 : q[i]? = some v) :
    entRun (b.drop i) (p.drop i) (q.drop i) s = match entAt s u v x with | none => none | some s' => entRun (b.drop (i + 1)) (p.drop (i + 1)) (q.drop (i + 1)) s' := by
  obtain ⟨l1, e1⟩ := List.getElem?_eq_some_iff.1 h1
  obtain ⟨l2, e2⟩ := List.getElem?_eq_some_iff.1 h2
  obtain ⟨l3, e3⟩ := List.getElem?_eq_some_iff.1 h3
  rw [List.drop_eq_getElem_cons l1, List.drop_eq_getElem_cons l2, List.drop_eq_getElem_cons l3, e1, e2, e3]
  rfl
theorem entRun_done {b : Bx} {p q : List Int} {i : Nat} {s : Fr × Fr} (h : b.length ≤ i) : entRun (b.drop i) (p.drop i) (q.drop i) s = some s := by
  rw [List.drop_eq_nil_of_le h]; rfl
/-- The loop's state. -/
structure EntI (b : Bx) (p q : List Int) (i : Nat) (s : Fr × Fr) : Prop where
  ok : okS s
  run : entRun (b.drop i) (p.drop i) (q.drop i) s = entRun b p q ent0
theorem entI_zero (b : Bx) (p q : List Int) : EntI b p q 0 ent0 := ⟨by simp [okS, ent0], by simp⟩
theorem entI_next {b : Bx} {p q : List Int} {i : Nat} {s s' : Fr × Fr} {x : Int × Int} {u v : Int} (hS : Sm b p q) (hI : EntI b p q i s) (h1 : b[i]? = some x) (h2 : p[i]? = some u) (h3 : q[i]? = some v) (h : entAt s u v x = some s') : EntI b p q (i + 1) s' := by
  refine ⟨entAt_ok hI.ok h (allV_iff.1 hS.v _ (List.mem_of_getElem? h1)) (hS.sp _ (List.mem_of_getElem? h2)) (hS.sq _ (List.mem_of_getElem? h3)), ?_⟩
  rw [← hI.run, entRun_step h1 h2 h3, h]
theorem entI_none {b : Bx} {p q : List Int} {i : Nat} {s : Fr × Fr} {x : Int × Int} {u v : Int} (hI : EntI b p q i s) (h1 : b[i]? = some x) (h2 : p[i]? = some u) (h3 : q[i]? = some v) (h : entAt s u v x = none) : entRun b p q ent0 = none := by
  rw [← hI.run, entRun_step h1 h2 h3, h]
theorem entI_done {b : Bx} {p q : List Int} {i : Nat} {s : Fr × Fr} (hI : EntI b p q i s) (h : b.length ≤ i) : entRun b p q ent0 = some s := by
  rw [← hI.run, entRun_done h]
abbrev Fb (f : Fr) : Blk := .box [.pv (Z f.1), .pv (Z f.2)] true false
set_option maxRecDepth 10000 in
set_option maxHeartbeats 16000000 in
theorem d135 (b : Bx) (p q : List Int) (hS : Sm b p q) : DetH Try.prog 135 [.pv (iv b), .pv (zs p), .pv (zs q)] [] [] (.pv (.tup [encI ((entC b p q).getD (0, 0)), B (entC b p q).isSome])) := by
  have hbl := hS.lb
  refine detP_of Try.func135 rfl (by kernel_rfl) (by simp [Try.f135]) rfl ?_
  intro C hP hN
  simp only [Try.f135] at hN ⊢
  repeat' (first
    | with_reducible refine WP.seq ?_
    | (with_reducible ((first | refine WP.region (hn := []) ?_ | refine WP.cond' ?_); simp -implicitDefEqProofs (maxSteps := 2000000) [hP, hN]))
    | (with_reducible ((first | refine WP.draw (hn := []) (by rw [hP]; kernel_rfl) (by kernel_rfl) ?_); simp -implicitDefEqProofs (maxSteps := 2000000) [hP, hN]; (try refine ⟨by kernel_rfl, ?_⟩)))
    | (with_reducible refine xB_split (by simp) (fun hgd => ?_) (fun hgd => ?_) <;> first | (exfalso; simp at hgd; done) | (exfalso; simp at hgd; omega) | simp -implicitDefEqProofs (maxSteps := 2000000) [hP, hN])
    | (with_reducible refine yB_split (by simp) (fun hgd => ?_) (fun hgd => ?_) <;> first | (exfalso; simp at hgd; done) | (exfalso; simp at hgd; omega) | (simp -implicitDefEqProofs (maxSteps := 2000000) [hP, hN] <;> (try refine ⟨by kernel_rfl, ?_⟩)))
    | with_reducible refine xTwo_intro ?_ ?_
    | (with_reducible refine xCond_split (fun hcd => ?_) (fun hcd => ?_) <;> (try (exfalso; clear hP hN; simp_all; done)) <;> (try (exfalso; simp at *; omega)))
    | with_reducible refine WP.block ?_
    | (with_reducible ((first | refine WP.skip ?_ | refine WP.exit ?_ | refine WP.ret ?_); simp)))
  refine WP.loopN [11, 16, 18] b.length (fun i st => ∃ s, EntI b p q i s ∧ st.t 1 = .pv (zs p) ∧ st.t 2 = .pv (zs q) ∧ st.t 6 = .ptr 6 0 ∧ st.t 8 = .ptr 8 0 ∧ st.t 9 = .ptr 9 0 ∧ st.t 23 = .pv (iv b) ∧ st.t 24 = .pv (Z b.length) ∧ st.t 25 = .pv (Z i) ∧ st.h 11 = none ∧ st.h 16 = none ∧ st.h 18 = none ∧ st.h 6 = some (.box [.pv (Z 0), .pv (Z 0)] true false) ∧ st.h 8 = some (Fb s.1) ∧ st.h 9 = some (Fb s.2)) (by exact ⟨ent0, entI_zero b p q, by simp [ent0]⟩) ?_
  rintro i st hi0 ⟨s, hI, g1, g2, g6, g8, g9, g23, g24, g25, hb11, hb16, hb18, hb6, hb8, hb9⟩
  obtain ⟨hF1, hF2⟩ := okS_F hI.ok
  by_cases hlt : i < b.length
  · have hw := wr_succ hlt (by omega)
    have hpl : i < p.length := by rw [hS.lp]; exact hlt
    have hql : i < q.length := by rw [hS.lq]; exact hlt
    have hbi : b[i]? = some b[i] := List.getElem?_eq_getElem hlt
    have hpi : p[i]? = some p[i] := List.getElem?_eq_getElem hpl
    have hqi : q[i]? = some q[i] := List.getElem?_eq_getElem hql
    have hvx := validB_iff.1 (allV_iff.1 hS.v _ (List.mem_of_getElem? hbi))
    have hpx := hS.sp _ (List.mem_of_getElem? hpi)
    have hqx := hS.sq _ (List.mem_of_getElem? hqi)
    generalize hbx : b[i] = x at *
    generalize hpu : p[i] = u at *
    generalize hqv : q[i] = v at *
    obtain ⟨xl, xh⟩ := x
    simp only at hvx
    by_cases hqp : v < u
    · have hAt : entAt s u v (xl, xh) = entStep s (-u) (-v) (-xh) (-xl) := if_pos hqp
      have n1 : IntKind.i64.wrap (-u) = -u := wr_id (by omega) (by omega)
      have n2 : IntKind.i64.wrap (-v) = -v := wr_id (by omega) (by omega)
      have n3 : IntKind.i64.wrap (-xh) = -xh := wr_id (by omega) (by omega)
      have n4 : IntKind.i64.wrap (-xl) = -xl := wr_id (by omega) (by omega)
      obtain ⟨a, ha⟩ : ∃ a, -u = a := ⟨_, rfl⟩
      obtain ⟨b1, hb1⟩ : ∃ a, -v = a := ⟨_, rfl⟩
      obtain ⟨lo, hlo⟩ : ∃ a, -xh = a := ⟨_, rfl⟩
      obtain ⟨hi, hhi⟩ : ∃ a, -xl = a := ⟨_, rfl⟩
      rw [ha, hb1, hlo, hhi] at hAt
      rw [ha] at n1
      rw [hb1] at n2
      rw [hlo] at n3
      rw [hhi] at n4
      by_cases r1 : b1 < lo
      · have hn := entI_none hI hbi hpi hqi (by rw [hAt, entStep, if_pos (.inl r1)])
        rw [entC, hn]
        repeat' (first
          | with_reducible refine WP.seq ?_
          | (with_reducible ((first | refine WP.region (hn := []) ?_ | refine WP.cond' ?_); simp -implicitDefEqProofs (maxSteps := 2000000) [hP, hN, g1, g2, g6, g8, g9, g23, g24, g25, hb11, hb16, hb18, hb6, hb8, hb9, hlt, hw, hpl, hql, hbi, hpi, hqi, hbx, hpu, hqv, hqp, ha, hb1, hlo, hhi, n1, n2, n3, n4, r1]))
          | (with_reducible ((first | refine WP.draw (hn := []) (by rw [hP]; kernel_rfl) (by kernel_rfl) ?_); simp -implicitDefEqProofs (maxSteps := 2000000) [hP, hN, g1, g2, g6, g8, g9, g23, g24, g25, hb11, hb16, hb18, hb6, hb8, hb9, hlt, hw, hpl, hql, hbi, hpi, hqi, hbx, hpu, hqv, hqp, ha, hb1, hlo, hhi, n1, n2, n3, n4, r1]; (try refine ⟨by kernel_rfl, ?_⟩)))
          | (with_reducible refine xB_split (by simp [g1, g2, g6, g8, g9, g23, g24, g25, hb11, hb16, hb18, hb6, hb8, hb9, hlt, hw, hpl, hql, hbi, hpi, hqi, hbx, hpu, hqv, hqp, ha, hb1, hlo, hhi, n1, n2, n3, n4, r1]) (fun hgd => ?_) (fun hgd => ?_) <;> first | (exfalso; simp at hgd; done) | (exfalso; simp at hgd; omega) | simp -implicitDefEqProofs (maxSteps := 2000000) [hP, hN, g1, g2, g6, g8, g9, g23, g24, g25, hb11, hb16, hb18, hb6, hb8, hb9, hlt, hw, hpl, hql, hbi, hpi, hqi, hbx, hpu, hqv, hqp, ha, hb1, hlo, hhi, n1, n2, n3, n4, r1])
          | (with_reducible refine yB_split (by simp [g1, g2, g6, g8, g9, g23, g24, g25, hb11, hb16, hb18, hb6, hb8, hb9, hlt, hw, hpl, hql, hbi, hpi, hqi, hbx, hpu, hqv, hqp, ha, hb1, hlo, hhi, n1, n2, n3, n4, r1]) (fun hgd => ?_) (fun hgd => ?_) <;> first | (exfalso; simp at hgd; done) | (exfalso; simp at hgd; omega) | (simp -implicitDefEqProofs (maxSteps := 2000000) [hP, hN, g1, g2, g6, g8, g9, g23, g24, g25, hb11, hb16, hb18, hb6, hb8, hb9, hlt, hw, hpl, hql, hbi, hpi, hqi, hbx, hpu, hqv, hqp, ha, hb1, hlo, hhi, n1, n2, n3, n4, r1] <;> (try refine ⟨by kernel_rfl, ?_⟩)))
          | with_reducible refine xTwo_intro ?_ ?_
          | (with_reducible refine xCond_split (fun hcd => ?_) (fun hcd => ?_) <;> (try (exfalso; clear hP hN; simp_all; done)) <;> (try (exfalso; simp at *; omega)))
          | with_reducible refine WP.block ?_
          | (with_reducible ((first | refine WP.skip ?_ | refine WP.exit ?_ | refine WP.ret ?_); simp [g1, g2, g6, g8, g9, g23, g24, g25, hb11, hb16, hb18, hb6, hb8, hb9, hlt, hw, hpl, hql, hbi, hpi, hqi, hbx, hpu, hqv, hqp, ha, hb1, hlo, hhi, n1, n2, n3, n4, r1])))
      by_cases r2 : hi < a
      · have hn := entI_none hI hbi hpi hqi (by rw [hAt, entStep, if_pos (.inr r2)])
        rw [entC, hn]
        repeat' (first
          | with_reducible refine WP.seq ?_
          | (with_reducible ((first | refine WP.region (hn := []) ?_ | refine WP.cond' ?_); simp -implicitDefEqProofs (maxSteps := 2000000) [hP, hN, g1, g2, g6, g8, g9, g23, g24, g25, hb11, hb16, hb18, hb6, hb8, hb9, hlt, hw, hpl, hql, hbi, hpi, hqi, hbx, hpu, hqv, hqp, ha, hb1, hlo, hhi, n1, n2, n3, n4, r1, r2]))
          | (with_reducible ((first | refine WP.draw (hn := []) (by rw [hP]; kernel_rfl) (by kernel_rfl) ?_); simp -implicitDefEqProofs (maxSteps := 2000000) [hP, hN, g1, g2, g6, g8, g9, g23, g24, g25, hb11, hb16, hb18, hb6, hb8, hb9, hlt, hw, hpl, hql, hbi, hpi, hqi, hbx, hpu, hqv, hqp, ha, hb1, hlo, hhi, n1, n2, n3, n4, r1, r2]; (try refine ⟨by kernel_rfl, ?_⟩)))
          | (with_reducible refine xB_split (by simp [g1, g2, g6, g8, g9, g23, g24, g25, hb11, hb16, hb18, hb6, hb8, hb9, hlt, hw, hpl, hql, hbi, hpi, hqi, hbx, hpu, hqv, hqp, ha, hb1, hlo, hhi, n1, n2, n3, n4, r1, r2]) (fun hgd => ?_) (fun hgd => ?_) <;> first | (exfalso; simp at hgd; done) | (exfalso; simp at hgd; omega) | simp -implicitDefEqProofs (maxSteps := 2000000) [hP, hN, g1, g2, g6, g8, g9, g23, g24, g25, hb11, hb16, hb18, hb6, hb8, hb9, hlt, hw, hpl, hql, hbi, hpi, hqi, hbx, hpu, hqv, hqp, ha, hb1, hlo, hhi, n1, n2, n3, n4, r1, r2])
          | (with_reducible refine yB_split (by simp [g1, g2, g6, g8, g9, g23, g24, g25, hb11, hb16, hb18, hb6, hb8, hb9, hlt, hw, hpl, hql, hbi, hpi, hqi, hbx, hpu, hqv, hqp, ha, hb1, hlo, hhi, n1, n2, n3, n4, r1, r2]) (fun hgd => ?_) (fun hgd => ?_) <;> first | (exfalso; simp at hgd; done) | (exfalso; simp at hgd; omega) | (simp -implicitDefEqProofs (maxSteps := 2000000) [hP, hN, g1, g2, g6, g8, g9, g23, g24, g25, hb11, hb16, hb18, hb6, hb8, hb9, hlt, hw, hpl, hql, hbi, hpi, hqi, hbx, hpu, hqv, hqp, ha, hb1, hlo, hhi, n1, n2, n3, n4, r1, r2] <;> (try refine ⟨by kernel_rfl, ?_⟩)))
          | with_reducible refine xTwo_intro ?_ ?_
          | (with_reducible refine xCond_split (fun hcd => ?_) (fun hcd => ?_) <;> (try (exfalso; clear hP hN; simp_all; done)) <;> (try (exfalso; simp at *; omega)))
          | with_reducible refine WP.block ?_
          | (with_reducible ((first | refine WP.skip ?_ | refine WP.exit ?_ | refine WP.ret ?_); simp [g1, g2, g6, g8, g9, g23, g24, g25, hb11, hb16, hb18, hb6, hb8, hb9, hlt, hw, hpl, hql, hbi, hpi, hqi, hbx, hpu, hqv, hqp, ha, hb1, hlo, hhi, n1, n2, n3, n4, r1, r2])))
      have hnx := fun s' (h : entStep s a b1 lo hi = some s') => entI_next hS hI hbi hpi hqi (by rw [hAt]; exact h)
      have hst : entStep s a b1 lo hi = some (if a < lo ∧ ltF s.1 (lo - a, b1 - a) = true then (lo - a, b1 - a) else s.1, if hi < b1 ∧ ltF (hi - a, b1 - a) s.2 = true then (hi - a, b1 - a) else s.2) := if_neg (by omega)
      have hnx := hnx _ hst
      clear hst
      have w1 : IntKind.i64.wrap (lo - a) = lo - a := wr_id (by omega) (by omega)
      have w2 : IntKind.i64.wrap (b1 - a) = b1 - a := wr_id (by omega) (by omega)
      have w3 : IntKind.i64.wrap (hi - a) = hi - a := wr_id (by omega) (by omega)
      have c1 : a < lo → DetH Try.prog 136 [.pv (encI s.1), .pv (encI (lo - a, b1 - a))] [] [] (.pv (B (ltF s.1 (lo - a, b1 - a)))) := fun h => d136 s.1 (lo - a, b1 - a) hF1 ⟨by simp only; omega, by simp only; omega, by simp only; omega, by simp only; omega⟩
      have c2 : hi < b1 → DetH Try.prog 136 [.pv (encI (hi - a, b1 - a)), .pv (encI s.2)] [] [] (.pv (B (ltF (hi - a, b1 - a) s.2))) := fun h => d136 (hi - a, b1 - a) s.2 ⟨by simp only; omega, by simp only; omega, by simp only; omega, by simp only; omega⟩ hF2
      generalize ltF s.1 (lo - a, b1 - a) = t1 at *
      generalize ltF (hi - a, b1 - a) s.2 = t2 at *
      try simp only at c1 c2
      by_cases u1 : a < lo
      · have c1 := c1 u1
        by_cases u2 : hi < b1
        · have c2 := c2 u2
          cases t1 <;> cases t2 <;> simp only [u1, u2, true_and, if_true, Bool.false_eq_true, if_false] at hnx
          · skip
            repeat' (first
              | with_reducible refine WP.seq ?_
              | (with_reducible ((first | refine WP.region (hn := []) ?_ | refine xC_intro (c1) ?_ | refine xC_intro (c2) ?_ | refine WP.cond' ?_); simp -implicitDefEqProofs (maxSteps := 2000000) [hP, hN, g1, g2, g6, g8, g9, g23, g24, g25, hb11, hb16, hb18, hb6, hb8, hb9, hlt, hw, hpl, hql, hbi, hpi, hqi, hbx, hpu, hqv, hqp, ha, hb1, hlo, hhi, n1, n2, n3, n4, r1, r2, u1, u2, w1, w2, w3]))
              | (with_reducible ((first | refine WP.draw (hn := []) (by rw [hP]; kernel_rfl) (by kernel_rfl) ?_ | refine yC_intro (c1) ?_ | refine yC_intro (c2) ?_); simp -implicitDefEqProofs (maxSteps := 2000000) [hP, hN, g1, g2, g6, g8, g9, g23, g24, g25, hb11, hb16, hb18, hb6, hb8, hb9, hlt, hw, hpl, hql, hbi, hpi, hqi, hbx, hpu, hqv, hqp, ha, hb1, hlo, hhi, n1, n2, n3, n4, r1, r2, u1, u2, w1, w2, w3]; (try refine ⟨by kernel_rfl, ?_⟩)))
              | (with_reducible refine xB_split (by simp [g1, g2, g6, g8, g9, g23, g24, g25, hb11, hb16, hb18, hb6, hb8, hb9, hlt, hw, hpl, hql, hbi, hpi, hqi, hbx, hpu, hqv, hqp, ha, hb1, hlo, hhi, n1, n2, n3, n4, r1, r2, u1, u2, w1, w2, w3]) (fun hgd => ?_) (fun hgd => ?_) <;> first | (exfalso; simp at hgd; done) | (exfalso; simp at hgd; omega) | simp -implicitDefEqProofs (maxSteps := 2000000) [hP, hN, g1, g2, g6, g8, g9, g23, g24, g25, hb11, hb16, hb18, hb6, hb8, hb9, hlt, hw, hpl, hql, hbi, hpi, hqi, hbx, hpu, hqv, hqp, ha, hb1, hlo, hhi, n1, n2, n3, n4, r1, r2, u1, u2, w1, w2, w3])
              | (with_reducible refine yB_split (by simp [g1, g2, g6, g8, g9, g23, g24, g25, hb11, hb16, hb18, hb6, hb8, hb9, hlt, hw, hpl, hql, hbi, hpi, hqi, hbx, hpu, hqv, hqp, ha, hb1, hlo, hhi, n1, n2, n3, n4, r1, r2, u1, u2, w1, w2, w3]) (fun hgd => ?_) (fun hgd => ?_) <;> first | (exfalso; simp at hgd; done) | (exfalso; simp at hgd; omega) | (simp -implicitDefEqProofs (maxSteps := 2000000) [hP, hN, g1, g2, g6, g8, g9, g23, g24, g25, hb11, hb16, hb18, hb6, hb8, hb9, hlt, hw, hpl, hql, hbi, hpi, hqi, hbx, hpu, hqv, hqp, ha, hb1, hlo, hhi, n1, n2, n3, n4, r1, r2, u1, u2, w1, w2, w3] <;> (try refine ⟨by kernel_rfl, ?_⟩)))
              | with_reducible refine xTwo_intro ?_ ?_
              | (with_reducible refine xCond_split (fun hcd => ?_) (fun hcd => ?_) <;> (try (exfalso; clear hP hN; simp_all; done)) <;> (try (exfalso; simp at *; omega)))
              | with_reducible refine WP.block ?_
              | (with_reducible ((first | refine WP.skip ?_ | refine WP.exit ?_ | refine WP.ret ?_); simp [g1, g2, g6, g8, g9, g23, g24, g25, hb11, hb16, hb18, hb6, hb8, hb9, hlt, hw, hpl, hql, hbi, hpi, hqi, hbx, hpu, hqv, hqp, ha, hb1, hlo, hhi, n1, n2, n3, n4, r1, r2, u1, u2, w1, w2, w3])))
            all_goals exact ⟨_, _, _, _, hnx, ⟨rfl, rfl⟩, rfl, rfl⟩
          · skip
            repeat' (first
              | with_reducible refine WP.seq ?_
              | (with_reducible ((first | refine WP.region (hn := []) ?_ | refine xC_intro (c1) ?_ | refine xC_intro (c2) ?_ | refine WP.cond' ?_); simp -implicitDefEqProofs (maxSteps := 2000000) [hP, hN, g1, g2, g6, g8, g9, g23, g24, g25, hb11, hb16, hb18, hb6, hb8, hb9, hlt, hw, hpl, hql, hbi, hpi, hqi, hbx, hpu, hqv, hqp, ha, hb1, hlo, hhi, n1, n2, n3, n4, r1, r2, u1, u2, w1, w2, w3]))
              | (with_reducible ((first | refine WP.draw (hn := []) (by rw [hP]; kernel_rfl) (by kernel_rfl) ?_ | refine yC_intro (c1) ?_ | refine yC_intro (c2) ?_); simp -implicitDefEqProofs (maxSteps := 2000000) [hP, hN, g1, g2, g6, g8, g9, g23, g24, g25, hb11, hb16, hb18, hb6, hb8, hb9, hlt, hw, hpl, hql, hbi, hpi, hqi, hbx, hpu, hqv, hqp, ha, hb1, hlo, hhi, n1, n2, n3, n4, r1, r2, u1, u2, w1, w2, w3]; (try refine ⟨by kernel_rfl, ?_⟩)))
              | (with_reducible refine xB_split (by simp [g1, g2, g6, g8, g9, g23, g24, g25, hb11, hb16, hb18, hb6, hb8, hb9, hlt, hw, hpl, hql, hbi, hpi, hqi, hbx, hpu, hqv, hqp, ha, hb1, hlo, hhi, n1, n2, n3, n4, r1, r2, u1, u2, w1, w2, w3]) (fun hgd => ?_) (fun hgd => ?_) <;> first | (exfalso; simp at hgd; done) | (exfalso; simp at hgd; omega) | simp -implicitDefEqProofs (maxSteps := 2000000) [hP, hN, g1, g2, g6, g8, g9, g23, g24, g25, hb11, hb16, hb18, hb6, hb8, hb9, hlt, hw, hpl, hql, hbi, hpi, hqi, hbx, hpu, hqv, hqp, ha, hb1, hlo, hhi, n1, n2, n3, n4, r1, r2, u1, u2, w1, w2, w3])
              | (with_reducible refine yB_split (by simp [g1, g2, g6, g8, g9, g23, g24, g25, hb11, hb16, hb18, hb6, hb8, hb9, hlt, hw, hpl, hql, hbi, hpi, hqi, hbx, hpu, hqv, hqp, ha, hb1, hlo, hhi, n1, n2, n3, n4, r1, r2, u1, u2, w1, w2, w3]) (fun hgd => ?_) (fun hgd => ?_) <;> first | (exfalso; simp at hgd; done) | (exfalso; simp at hgd; omega) | (simp -implicitDefEqProofs (maxSteps := 2000000) [hP, hN, g1, g2, g6, g8, g9, g23, g24, g25, hb11, hb16, hb18, hb6, hb8, hb9, hlt, hw, hpl, hql, hbi, hpi, hqi, hbx, hpu, hqv, hqp, ha, hb1, hlo, hhi, n1, n2, n3, n4, r1, r2, u1, u2, w1, w2, w3] <;> (try refine ⟨by kernel_rfl, ?_⟩)))
              | with_reducible refine xTwo_intro ?_ ?_
              | (with_reducible refine xCond_split (fun hcd => ?_) (fun hcd => ?_) <;> (try (exfalso; clear hP hN; simp_all; done)) <;> (try (exfalso; simp at *; omega)))
              | with_reducible refine WP.block ?_
              | (with_reducible ((first | refine WP.skip ?_ | refine WP.exit ?_ | refine WP.ret ?_); simp [g1, g2, g6, g8, g9, g23, g24, g25, hb11, hb16, hb18, hb6, hb8, hb9, hlt, hw, hpl, hql, hbi, hpi, hqi, hbx, hpu, hqv, hqp, ha, hb1, hlo, hhi, n1, n2, n3, n4, r1, r2, u1, u2, w1, w2, w3])))
            all_goals exact ⟨_, _, _, _, hnx, ⟨rfl, rfl⟩, rfl, rfl⟩
          · skip
            repeat' (first
              | with_reducible refine WP.seq ?_
              | (with_reducible ((first | refine WP.region (hn := []) ?_ | refine xC_intro (c1) ?_ | refine xC_intro (c2) ?_ | refine WP.cond' ?_); simp -implicitDefEqProofs (maxSteps := 2000000) [hP, hN, g1, g2, g6, g8, g9, g23, g24, g25, hb11, hb16, hb18, hb6, hb8, hb9, hlt, hw, hpl, hql, hbi, hpi, hqi, hbx, hpu, hqv, hqp, ha, hb1, hlo, hhi, n1, n2, n3, n4, r1, r2, u1, u2, w1, w2, w3]))
              | (with_reducible ((first | refine WP.draw (hn := []) (by rw [hP]; kernel_rfl) (by kernel_rfl) ?_ | refine yC_intro (c1) ?_ | refine yC_intro (c2) ?_); simp -implicitDefEqProofs (maxSteps := 2000000) [hP, hN, g1, g2, g6, g8, g9, g23, g24, g25, hb11, hb16, hb18, hb6, hb8, hb9, hlt, hw, hpl, hql, hbi, hpi, hqi, hbx, hpu, hqv, hqp, ha, hb1, hlo, hhi, n1, n2, n3, n4, r1, r2, u1, u2, w1, w2, w3]; (try refine ⟨by kernel_rfl, ?_⟩)))
              | (with_reducible refine xB_split (by simp [g1, g2, g6, g8, g9, g23, g24, g25, hb11, hb16, hb18, hb6, hb8, hb9, hlt, hw, hpl, hql, hbi, hpi, hqi, hbx, hpu, hqv, hqp, ha, hb1, hlo, hhi, n1, n2, n3, n4, r1, r2, u1, u2, w1, w2, w3]) (fun hgd => ?_) (fun hgd => ?_) <;> first | (exfalso; simp at hgd; done) | (exfalso; simp at hgd; omega) | simp -implicitDefEqProofs (maxSteps := 2000000) [hP, hN, g1, g2, g6, g8, g9, g23, g24, g25, hb11, hb16, hb18, hb6, hb8, hb9, hlt, hw, hpl, hql, hbi, hpi, hqi, hbx, hpu, hqv, hqp, ha, hb1, hlo, hhi, n1, n2, n3, n4, r1, r2, u1, u2, w1, w2, w3])
              | (with_reducible refine yB_split (by simp [g1, g2, g6, g8, g9, g23, g24, g25, hb11, hb16, hb18, hb6, hb8, hb9, hlt, hw, hpl, hql, hbi, hpi, hqi, hbx, hpu, hqv, hqp, ha, hb1, hlo, hhi, n1, n2, n3, n4, r1, r2, u1, u2, w1, w2, w3]) (fun hgd => ?_) (fun hgd => ?_) <;> first | (exfalso; simp at hgd; done) | (exfalso; simp at hgd; omega) | (simp -implicitDefEqProofs (maxSteps := 2000000) [hP, hN, g1, g2, g6, g8, g9, g23, g24, g25, hb11, hb16, hb18, hb6, hb8, hb9, hlt, hw, hpl, hql, hbi, hpi, hqi, hbx, hpu, hqv, hqp, ha, hb1, hlo, hhi, n1, n2, n3, n4, r1, r2, u1, u2, w1, w2, w3] <;> (try refine ⟨by kernel_rfl, ?_⟩)))
              | with_reducible refine xTwo_intro ?_ ?_
              | (with_reducible refine xCond_split (fun hcd => ?_) (fun hcd => ?_) <;> (try (exfalso; clear hP hN; simp_all; done)) <;> (try (exfalso; simp at *; omega)))
              | with_reducible refine WP.block ?_
              | (with_reducible ((first | refine WP.skip ?_ | refine WP.exit ?_ | refine WP.ret ?_); simp [g1, g2, g6, g8, g9, g23, g24, g25, hb11, hb16, hb18, hb6, hb8, hb9, hlt, hw, hpl, hql, hbi, hpi, hqi, hbx, hpu, hqv, hqp, ha, hb1, hlo, hhi, n1, n2, n3, n4, r1, r2, u1, u2, w1, w2, w3])))
            all_goals exact ⟨_, _, _, _, hnx, ⟨rfl, rfl⟩, rfl, rfl⟩
          · skip
            repeat' (first
              | with_reducible refine WP.seq ?_
              | (with_reducible ((first | refine WP.region (hn := []) ?_ | refine xC_intro (c1) ?_ | refine xC_intro (c2) ?_ | refine WP.cond' ?_); simp -implicitDefEqProofs (maxSteps := 2000000) [hP, hN, g1, g2, g6, g8, g9, g23, g24, g25, hb11, hb16, hb18, hb6, hb8, hb9, hlt, hw, hpl, hql, hbi, hpi, hqi, hbx, hpu, hqv, hqp, ha, hb1, hlo, hhi, n1, n2, n3, n4, r1, r2, u1, u2, w1, w2, w3]))
              | (with_reducible ((first | refine WP.draw (hn := []) (by rw [hP]; kernel_rfl) (by kernel_rfl) ?_ | refine yC_intro (c1) ?_ | refine yC_intro (c2) ?_); simp -implicitDefEqProofs (maxSteps := 2000000) [hP, hN, g1, g2, g6, g8, g9, g23, g24, g25, hb11, hb16, hb18, hb6, hb8, hb9, hlt, hw, hpl, hql, hbi, hpi, hqi, hbx, hpu, hqv, hqp, ha, hb1, hlo, hhi, n1, n2, n3, n4, r1, r2, u1, u2, w1, w2, w3]; (try refine ⟨by kernel_rfl, ?_⟩)))
              | (with_reducible refine xB_split (by simp [g1, g2, g6, g8, g9, g23, g24, g25, hb11, hb16, hb18, hb6, hb8, hb9, hlt, hw, hpl, hql, hbi, hpi, hqi, hbx, hpu, hqv, hqp, ha, hb1, hlo, hhi, n1, n2, n3, n4, r1, r2, u1, u2, w1, w2, w3]) (fun hgd => ?_) (fun hgd => ?_) <;> first | (exfalso; simp at hgd; done) | (exfalso; simp at hgd; omega) | simp -implicitDefEqProofs (maxSteps := 2000000) [hP, hN, g1, g2, g6, g8, g9, g23, g24, g25, hb11, hb16, hb18, hb6, hb8, hb9, hlt, hw, hpl, hql, hbi, hpi, hqi, hbx, hpu, hqv, hqp, ha, hb1, hlo, hhi, n1, n2, n3, n4, r1, r2, u1, u2, w1, w2, w3])
              | (with_reducible refine yB_split (by simp [g1, g2, g6, g8, g9, g23, g24, g25, hb11, hb16, hb18, hb6, hb8, hb9, hlt, hw, hpl, hql, hbi, hpi, hqi, hbx, hpu, hqv, hqp, ha, hb1, hlo, hhi, n1, n2, n3, n4, r1, r2, u1, u2, w1, w2, w3]) (fun hgd => ?_) (fun hgd => ?_) <;> first | (exfalso; simp at hgd; done) | (exfalso; simp at hgd; omega) | (simp -implicitDefEqProofs (maxSteps := 2000000) [hP, hN, g1, g2, g6, g8, g9, g23, g24, g25, hb11, hb16, hb18, hb6, hb8, hb9, hlt, hw, hpl, hql, hbi, hpi, hqi, hbx, hpu, hqv, hqp, ha, hb1, hlo, hhi, n1, n2, n3, n4, r1, r2, u1, u2, w1, w2, w3] <;> (try refine ⟨by kernel_rfl, ?_⟩)))
              | with_reducible refine xTwo_intro ?_ ?_
              | (with_reducible refine xCond_split (fun hcd => ?_) (fun hcd => ?_) <;> (try (exfalso; clear hP hN; simp_all; done)) <;> (try (exfalso; simp at *; omega)))
              | with_reducible refine WP.block ?_
              | (with_reducible ((first | refine WP.skip ?_ | refine WP.exit ?_ | refine WP.ret ?_); simp [g1, g2, g6, g8, g9, g23, g24, g25, hb11, hb16, hb18, hb6, hb8, hb9, hlt, hw, hpl, hql, hbi, hpi, hqi, hbx, hpu, hqv, hqp, ha, hb1, hlo, hhi, n1, n2, n3, n4, r1, r2, u1, u2, w1, w2, w3])))
            all_goals exact ⟨_, _, _, _, hnx, ⟨rfl, rfl⟩, rfl, rfl⟩
        · cases t1 <;> simp only [u1, u2, true_and, false_and, if_true, Bool.false_eq_true, if_false] at hnx
          · skip
            repeat' (first
              | with_reducible refine WP.seq ?_
              | (with_reducible ((first | refine WP.region (hn := []) ?_ | refine xC_intro (c1) ?_ | refine WP.cond' ?_); simp -implicitDefEqProofs (maxSteps := 2000000) [hP, hN, g1, g2, g6, g8, g9, g23, g24, g25, hb11, hb16, hb18, hb6, hb8, hb9, hlt, hw, hpl, hql, hbi, hpi, hqi, hbx, hpu, hqv, hqp, ha, hb1, hlo, hhi, n1, n2, n3, n4, r1, r2, u1, u2, w1, w2, w3]))
              | (with_reducible ((first | refine WP.draw (hn := []) (by rw [hP]; kernel_rfl) (by kernel_rfl) ?_ | refine yC_intro (c1) ?_); simp -implicitDefEqProofs (maxSteps := 2000000) [hP, hN, g1, g2, g6, g8, g9, g23, g24, g25, hb11, hb16, hb18, hb6, hb8, hb9, hlt, hw, hpl, hql, hbi, hpi, hqi, hbx, hpu, hqv, hqp, ha, hb1, hlo, hhi, n1, n2, n3, n4, r1, r2, u1, u2, w1, w2, w3]; (try refine ⟨by kernel_rfl, ?_⟩)))
              | (with_reducible refine xB_split (by simp [g1, g2, g6, g8, g9, g23, g24, g25, hb11, hb16, hb18, hb6, hb8, hb9, hlt, hw, hpl, hql, hbi, hpi, hqi, hbx, hpu, hqv, hqp, ha, hb1, hlo, hhi, n1, n2, n3, n4, r1, r2, u1, u2, w1, w2, w3]) (fun hgd => ?_) (fun hgd => ?_) <;> first | (exfalso; simp at hgd; done) | (exfalso; simp at hgd; omega) | simp -implicitDefEqProofs (maxSteps := 2000000) [hP, hN, g1, g2, g6, g8, g9, g23, g24, g25, hb11, hb16, hb18, hb6, hb8, hb9, hlt, hw, hpl, hql, hbi, hpi, hqi, hbx, hpu, hqv, hqp, ha, hb1, hlo, hhi, n1, n2, n3, n4, r1, r2, u1, u2, w1, w2, w3])
              | (with_reducible refine yB_split (by simp [g1, g2, g6, g8, g9, g23, g24, g25, hb11, hb16, hb18, hb6, hb8, hb9, hlt, hw, hpl, hql, hbi, hpi, hqi, hbx, hpu, hqv, hqp, ha, hb1, hlo, hhi, n1, n2, n3, n4, r1, r2, u1, u2, w1, w2, w3]) (fun hgd => ?_) (fun hgd => ?_) <;> first | (exfalso; simp at hgd; done) | (exfalso; simp at hgd; omega) | (simp -implicitDefEqProofs (maxSteps := 2000000) [hP, hN, g1, g2, g6, g8, g9, g23, g24, g25, hb11, hb16, hb18, hb6, hb8, hb9, hlt, hw, hpl, hql, hbi, hpi, hqi, hbx, hpu, hqv, hqp, ha, hb1, hlo, hhi, n1, n2, n3, n4, r1, r2, u1, u2, w1, w2, w3] <;> (try refine ⟨by kernel_rfl, ?_⟩)))
              | with_reducible refine xTwo_intro ?_ ?_
              | (with_reducible refine xCond_split (fun hcd => ?_) (fun hcd => ?_) <;> (try (exfalso; clear hP hN; simp_all; done)) <;> (try (exfalso; simp at *; omega)))
              | with_reducible refine WP.block ?_
              | (with_reducible ((first | refine WP.skip ?_ | refine WP.exit ?_ | refine WP.ret ?_); simp [g1, g2, g6, g8, g9, g23, g24, g25, hb11, hb16, hb18, hb6, hb8, hb9, hlt, hw, hpl, hql, hbi, hpi, hqi, hbx, hpu, hqv, hqp, ha, hb1, hlo, hhi, n1, n2, n3, n4, r1, r2, u1, u2, w1, w2, w3])))
            all_goals exact ⟨_, _, _, _, hnx, ⟨rfl, rfl⟩, rfl, rfl⟩
          · skip
            repeat' (first
              | with_reducible refine WP.seq ?_
              | (with_reducible ((first | refine WP.region (hn := []) ?_ | refine xC_intro (c1) ?_ | refine WP.cond' ?_); simp -implicitDefEqProofs (maxSteps := 2000000) [hP, hN, g1, g2, g6, g8, g9, g23, g24, g25, hb11, hb16, hb18, hb6, hb8, hb9, hlt, hw, hpl, hql, hbi, hpi, hqi, hbx, hpu, hqv, hqp, ha, hb1, hlo, hhi, n1, n2, n3, n4, r1, r2, u1, u2, w1, w2, w3]))
              | (with_reducible ((first | refine WP.draw (hn := []) (by rw [hP]; kernel_rfl) (by kernel_rfl) ?_ | refine yC_intro (c1) ?_); simp -implicitDefEqProofs (maxSteps := 2000000) [hP, hN, g1, g2, g6, g8, g9, g23, g24, g25, hb11, hb16, hb18, hb6, hb8, hb9, hlt, hw, hpl, hql, hbi, hpi, hqi, hbx, hpu, hqv, hqp, ha, hb1, hlo, hhi, n1, n2, n3, n4, r1, r2, u1, u2, w1, w2, w3]; (try refine ⟨by kernel_rfl, ?_⟩)))
              | (with_reducible refine xB_split (by simp [g1, g2, g6, g8, g9, g23, g24, g25, hb11, hb16, hb18, hb6, hb8, hb9, hlt, hw, hpl, hql, hbi, hpi, hqi, hbx, hpu, hqv, hqp, ha, hb1, hlo, hhi, n1, n2, n3, n4, r1, r2, u1, u2, w1, w2, w3]) (fun hgd => ?_) (fun hgd => ?_) <;> first | (exfalso; simp at hgd; done) | (exfalso; simp at hgd; omega) | simp -implicitDefEqProofs (maxSteps := 2000000) [hP, hN, g1, g2, g6, g8, g9, g23, g24, g25, hb11, hb16, hb18, hb6, hb8, hb9, hlt, hw, hpl, hql, hbi, hpi, hqi, hbx, hpu, hqv, hqp, ha, hb1, hlo, hhi, n1, n2, n3, n4, r1, r2, u1, u2, w1, w2, w3])
              | (with_reducible refine yB_split (by simp [g1, g2, g6, g8, g9, g23, g24, g25, hb11, hb16, hb18, hb6, hb8, hb9, hlt, hw, hpl, hql, hbi, hpi, hqi, hbx, hpu, hqv, hqp, ha, hb1, hlo, hhi, n1, n2, n3, n4, r1, r2, u1, u2, w1, w2, w3]) (fun hgd => ?_) (fun hgd => ?_) <;> first | (exfalso; simp at hgd; done) | (exfalso; simp at hgd; omega) | (simp -implicitDefEqProofs (maxSteps := 2000000) [hP, hN, g1, g2, g6, g8, g9, g23, g24, g25, hb11, hb16, hb18, hb6, hb8, hb9, hlt, hw, hpl, hql, hbi, hpi, hqi, hbx, hpu, hqv, hqp, ha, hb1, hlo, hhi, n1, n2, n3, n4, r1, r2, u1, u2, w1, w2, w3] <;> (try refine ⟨by kernel_rfl, ?_⟩)))
              | with_reducible refine xTwo_intro ?_ ?_
              | (with_reducible refine xCond_split (fun hcd => ?_) (fun hcd => ?_) <;> (try (exfalso; clear hP hN; simp_all; done)) <;> (try (exfalso; simp at *; omega)))
              | with_reducible refine WP.block ?_
              | (with_reducible ((first | refine WP.skip ?_ | refine WP.exit ?_ | refine WP.ret ?_); simp [g1, g2, g6, g8, g9, g23, g24, g25, hb11, hb16, hb18, hb6, hb8, hb9, hlt, hw, hpl, hql, hbi, hpi, hqi, hbx, hpu, hqv, hqp, ha, hb1, hlo, hhi, n1, n2, n3, n4, r1, r2, u1, u2, w1, w2, w3])))
            all_goals exact ⟨_, _, _, _, hnx, ⟨rfl, rfl⟩, rfl, rfl⟩
      · by_cases u2 : hi < b1
        · have c2 := c2 u2
          cases t2 <;> simp only [u1, u2, true_and, false_and, if_true, Bool.false_eq_true, if_false] at hnx
          · skip
            repeat' (first
              | with_reducible refine WP.seq ?_
              | (with_reducible ((first | refine WP.region (hn := []) ?_ | refine xC_intro (c2) ?_ | refine WP.cond' ?_); simp -implicitDefEqProofs (maxSteps := 2000000) [hP, hN, g1, g2, g6, g8, g9, g23, g24, g25, hb11, hb16, hb18, hb6, hb8, hb9, hlt, hw, hpl, hql, hbi, hpi, hqi, hbx, hpu, hqv, hqp, ha, hb1, hlo, hhi, n1, n2, n3, n4, r1, r2, u1, u2, w1, w2, w3]))
              | (with_reducible ((first | refine WP.draw (hn := []) (by rw [hP]; kernel_rfl) (by kernel_rfl) ?_ | refine yC_intro (c2) ?_); simp -implicitDefEqProofs (maxSteps := 2000000) [hP, hN, g1, g2, g6, g8, g9, g23, g24, g25, hb11, hb16, hb18, hb6, hb8, hb9, hlt, hw, hpl, hql, hbi, hpi, hqi, hbx, hpu, hqv, hqp, ha, hb1, hlo, hhi, n1, n2, n3, n4, r1, r2, u1, u2, w1, w2, w3]; (try refine ⟨by kernel_rfl, ?_⟩)))
              | (with_reducible refine xB_split (by simp [g1, g2, g6, g8, g9, g23, g24, g25, hb11, hb16, hb18, hb6, hb8, hb9, hlt, hw, hpl, hql, hbi, hpi, hqi, hbx, hpu, hqv, hqp, ha, hb1, hlo, hhi, n1, n2, n3, n4, r1, r2, u1, u2, w1, w2, w3]) (fun hgd => ?_) (fun hgd => ?_) <;> first | (exfalso; simp at hgd; done) | (exfalso; simp at hgd; omega) | simp -implicitDefEqProofs (maxSteps := 2000000) [hP, hN, g1, g2, g6, g8, g9, g23, g24, g25, hb11, hb16, hb18, hb6, hb8, hb9, hlt, hw, hpl, hql, hbi, hpi, hqi, hbx, hpu, hqv, hqp, ha, hb1, hlo, hhi, n1, n2, n3, n4, r1, r2, u1, u2, w1, w2, w3])
              | (with_reducible refine yB_split (by simp [g1, g2, g6, g8, g9, g23, g24, g25, hb11, hb16, hb18, hb6, hb8, hb9, hlt, hw, hpl, hql, hbi, hpi, hqi, hbx, hpu, hqv, hqp, ha, hb1, hlo, hhi, n1, n2, n3, n4, r1, r2, u1, u2, w1, w2, w3]) (fun hgd => ?_) (fun hgd => ?_) <;> first | (exfalso; simp at hgd; done) | (exfalso; simp at hgd; omega) | (simp -implicitDefEqProofs (maxSteps := 2000000) [hP, hN, g1, g2, g6, g8, g9, g23, g24, g25, hb11, hb16, hb18, hb6, hb8, hb9, hlt, hw, hpl, hql, hbi, hpi, hqi, hbx, hpu, hqv, hqp, ha, hb1, hlo, hhi, n1, n2, n3, n4, r1, r2, u1, u2, w1, w2, w3] <;> (try refine ⟨by kernel_rfl, ?_⟩)))
              | with_reducible refine xTwo_intro ?_ ?_
              | (with_reducible refine xCond_split (fun hcd => ?_) (fun hcd => ?_) <;> (try (exfalso; clear hP hN; simp_all; done)) <;> (try (exfalso; simp at *; omega)))
              | with_reducible refine WP.block ?_
              | (with_reducible ((first | refine WP.skip ?_ | refine WP.exit ?_ | refine WP.ret ?_); simp [g1, g2, g6, g8, g9, g23, g24, g25, hb11, hb16, hb18, hb6, hb8, hb9, hlt, hw, hpl, hql, hbi, hpi, hqi, hbx, hpu, hqv, hqp, ha, hb1, hlo, hhi, n1, n2, n3, n4, r1, r2, u1, u2, w1, w2, w3])))
            all_goals exact ⟨_, _, _, _, hnx, ⟨rfl, rfl⟩, rfl, rfl⟩
          · skip
            repeat' (first
              | with_reducible refine WP.seq ?_
              | (with_reducible ((first | refine WP.region (hn := []) ?_ | refine xC_intro (c2) ?_ | refine WP.cond' ?_); simp -implicitDefEqProofs (maxSteps := 2000000) [hP, hN, g1, g2, g6, g8, g9, g23, g24, g25, hb11, hb16, hb18, hb6, hb8, hb9, hlt, hw, hpl, hql, hbi, hpi, hqi, hbx, hpu, hqv, hqp, ha, hb1, hlo, hhi, n1, n2, n3, n4, r1, r2, u1, u2, w1, w2, w3]))
              | (with_reducible ((first | refine WP.draw (hn := []) (by rw [hP]; kernel_rfl) (by kernel_rfl) ?_ | refine yC_intro (c2) ?_); simp -implicitDefEqProofs (maxSteps := 2000000) [hP, hN, g1, g2, g6, g8, g9, g23, g24, g25, hb11, hb16, hb18, hb6, hb8, hb9, hlt, hw, hpl, hql, hbi, hpi, hqi, hbx, hpu, hqv, hqp, ha, hb1, hlo, hhi, n1, n2, n3, n4, r1, r2, u1, u2, w1, w2, w3]; (try refine ⟨by kernel_rfl, ?_⟩)))
              | (with_reducible refine xB_split (by simp [g1, g2, g6, g8, g9, g23, g24, g25, hb11, hb16, hb18, hb6, hb8, hb9, hlt, hw, hpl, hql, hbi, hpi, hqi, hbx, hpu, hqv, hqp, ha, hb1, hlo, hhi, n1, n2, n3, n4, r1, r2, u1, u2, w1, w2, w3]) (fun hgd => ?_) (fun hgd => ?_) <;> first | (exfalso; simp at hgd; done) | (exfalso; simp at hgd; omega) | simp -implicitDefEqProofs (maxSteps := 2000000) [hP, hN, g1, g2, g6, g8, g9, g23, g24, g25, hb11, hb16, hb18, hb6, hb8, hb9, hlt, hw, hpl, hql, hbi, hpi, hqi, hbx, hpu, hqv, hqp, ha, hb1, hlo, hhi, n1, n2, n3, n4, r1, r2, u1, u2, w1, w2, w3])
              | (with_reducible refine yB_split (by simp [g1, g2, g6, g8, g9, g23, g24, g25, hb11, hb16, hb18, hb6, hb8, hb9, hlt, hw, hpl, hql, hbi, hpi, hqi, hbx, hpu, hqv, hqp, ha, hb1, hlo, hhi, n1, n2, n3, n4, r1, r2, u1, u2, w1, w2, w3]) (fun hgd => ?_) (fun hgd => ?_) <;> first | (exfalso; simp at hgd; done) | (exfalso; simp at hgd; omega) | (simp -implicitDefEqProofs (maxSteps := 2000000) [hP, hN, g1, g2, g6, g8, g9, g23, g24, g25, hb11, hb16, hb18, hb6, hb8, hb9, hlt, hw, hpl, hql, hbi, hpi, hqi, hbx, hpu, hqv, hqp, ha, hb1, hlo, hhi, n1, n2, n3, n4, r1, r2, u1, u2, w1, w2, w3] <;> (try refine ⟨by kernel_rfl, ?_⟩)))
              | with_reducible refine xTwo_intro ?_ ?_
              | (with_reducible refine xCond_split (fun hcd => ?_) (fun hcd => ?_) <;> (try (exfalso; clear hP hN; simp_all; done)) <;> (try (exfalso; simp at *; omega)))
              | with_reducible refine WP.block ?_
              | (with_reducible ((first | refine WP.skip ?_ | refine WP.exit ?_ | refine WP.ret ?_); simp [g1, g2, g6, g8, g9, g23, g24, g25, hb11, hb16, hb18, hb6, hb8, hb9, hlt, hw, hpl, hql, hbi, hpi, hqi, hbx, hpu, hqv, hqp, ha, hb1, hlo, hhi, n1, n2, n3, n4, r1, r2, u1, u2, w1, w2, w3])))
            all_goals exact ⟨_, _, _, _, hnx, ⟨rfl, rfl⟩, rfl, rfl⟩
        · simp only [u1, u2, false_and, if_false] at hnx
          repeat' (first
            | with_reducible refine WP.seq ?_
            | (with_reducible ((first | refine WP.region (hn := []) ?_ | refine WP.cond' ?_); simp -implicitDefEqProofs (maxSteps := 2000000) [hP, hN, g1, g2, g6, g8, g9, g23, g24, g25, hb11, hb16, hb18, hb6, hb8, hb9, hlt, hw, hpl, hql, hbi, hpi, hqi, hbx, hpu, hqv, hqp, ha, hb1, hlo, hhi, n1, n2, n3, n4, r1, r2, u1, u2, w1, w2, w3]))
            | (with_reducible ((first | refine WP.draw (hn := []) (by rw [hP]; kernel_rfl) (by kernel_rfl) ?_); simp -implicitDefEqProofs (maxSteps := 2000000) [hP, hN, g1, g2, g6, g8, g9, g23, g24, g25, hb11, hb16, hb18, hb6, hb8, hb9, hlt, hw, hpl, hql, hbi, hpi, hqi, hbx, hpu, hqv, hqp, ha, hb1, hlo, hhi, n1, n2, n3, n4, r1, r2, u1, u2, w1, w2, w3]; (try refine ⟨by kernel_rfl, ?_⟩)))
            | (with_reducible refine xB_split (by simp [g1, g2, g6, g8, g9, g23, g24, g25, hb11, hb16, hb18, hb6, hb8, hb9, hlt, hw, hpl, hql, hbi, hpi, hqi, hbx, hpu, hqv, hqp, ha, hb1, hlo, hhi, n1, n2, n3, n4, r1, r2, u1, u2, w1, w2, w3]) (fun hgd => ?_) (fun hgd => ?_) <;> first | (exfalso; simp at hgd; done) | (exfalso; simp at hgd; omega) | simp -implicitDefEqProofs (maxSteps := 2000000) [hP, hN, g1, g2, g6, g8, g9, g23, g24, g25, hb11, hb16, hb18, hb6, hb8, hb9, hlt, hw, hpl, hql, hbi, hpi, hqi, hbx, hpu, hqv, hqp, ha, hb1, hlo, hhi, n1, n2, n3, n4, r1, r2, u1, u2, w1, w2, w3])
            | (with_reducible refine yB_split (by simp [g1, g2, g6, g8, g9, g23, g24, g25, hb11, hb16, hb18, hb6, hb8, hb9, hlt, hw, hpl, hql, hbi, hpi, hqi, hbx, hpu, hqv, hqp, ha, hb1, hlo, hhi, n1, n2, n3, n4, r1, r2, u1, u2, w1, w2, w3]) (fun hgd => ?_) (fun hgd => ?_) <;> first | (exfalso; simp at hgd; done) | (exfalso; simp at hgd; omega) | (simp -implicitDefEqProofs (maxSteps := 2000000) [hP, hN, g1, g2, g6, g8, g9, g23, g24, g25, hb11, hb16, hb18, hb6, hb8, hb9, hlt, hw, hpl, hql, hbi, hpi, hqi, hbx, hpu, hqv, hqp, ha, hb1, hlo, hhi, n1, n2, n3, n4, r1, r2, u1, u2, w1, w2, w3] <;> (try refine ⟨by kernel_rfl, ?_⟩)))
            | with_reducible refine xTwo_intro ?_ ?_
            | (with_reducible refine xCond_split (fun hcd => ?_) (fun hcd => ?_) <;> (try (exfalso; clear hP hN; simp_all; done)) <;> (try (exfalso; simp at *; omega)))
            | with_reducible refine WP.block ?_
            | (with_reducible ((first | refine WP.skip ?_ | refine WP.exit ?_ | refine WP.ret ?_); simp [g1, g2, g6, g8, g9, g23, g24, g25, hb11, hb16, hb18, hb6, hb8, hb9, hlt, hw, hpl, hql, hbi, hpi, hqi, hbx, hpu, hqv, hqp, ha, hb1, hlo, hhi, n1, n2, n3, n4, r1, r2, u1, u2, w1, w2, w3])))
          all_goals exact ⟨_, _, _, _, hnx, ⟨rfl, rfl⟩, rfl, rfl⟩
    · have hAt : entAt s u v (xl, xh) = entStep s u v xl xh := if_neg hqp
      by_cases r1 : v < xl
      · have hn := entI_none hI hbi hpi hqi (by rw [hAt, entStep, if_pos (.inl r1)])
        rw [entC, hn]
        repeat' (first
          | with_reducible refine WP.seq ?_
          | (with_reducible ((first | refine WP.region (hn := []) ?_ | refine WP.cond' ?_); simp -implicitDefEqProofs (maxSteps := 2000000) [hP, hN, g1, g2, g6, g8, g9, g23, g24, g25, hb11, hb16, hb18, hb6, hb8, hb9, hlt, hw, hpl, hql, hbi, hpi, hqi, hbx, hpu, hqv, hqp, r1]))
          | (with_reducible ((first | refine WP.draw (hn := []) (by rw [hP]; kernel_rfl) (by kernel_rfl) ?_); simp -implicitDefEqProofs (maxSteps := 2000000) [hP, hN, g1, g2, g6, g8, g9, g23, g24, g25, hb11, hb16, hb18, hb6, hb8, hb9, hlt, hw, hpl, hql, hbi, hpi, hqi, hbx, hpu, hqv, hqp, r1]; (try refine ⟨by kernel_rfl, ?_⟩)))
          | (with_reducible refine xB_split (by simp [g1, g2, g6, g8, g9, g23, g24, g25, hb11, hb16, hb18, hb6, hb8, hb9, hlt, hw, hpl, hql, hbi, hpi, hqi, hbx, hpu, hqv, hqp, r1]) (fun hgd => ?_) (fun hgd => ?_) <;> first | (exfalso; simp at hgd; done) | (exfalso; simp at hgd; omega) | simp -implicitDefEqProofs (maxSteps := 2000000) [hP, hN, g1, g2, g6, g8, g9, g23, g24, g25, hb11, hb16, hb18, hb6, hb8, hb9, hlt, hw, hpl, hql, hbi, hpi, hqi, hbx, hpu, hqv, hqp, r1])
          | (with_reducible refine yB_split (by simp [g1, g2, g6, g8, g9, g23, g24, g25, hb11, hb16, hb18, hb6, hb8, hb9, hlt, hw, hpl, hql, hbi, hpi, hqi, hbx, hpu, hqv, hqp, r1]) (fun hgd => ?_) (fun hgd => ?_) <;> first | (exfalso; simp at hgd; done) | (exfalso; simp at hgd; omega) | (simp -implicitDefEqProofs (maxSteps := 2000000) [hP, hN, g1, g2, g6, g8, g9, g23, g24, g25, hb11, hb16, hb18, hb6, hb8, hb9, hlt, hw, hpl, hql, hbi, hpi, hqi, hbx, hpu, hqv, hqp, r1] <;> (try refine ⟨by kernel_rfl, ?_⟩)))
          | with_reducible refine xTwo_intro ?_ ?_
          | (with_reducible refine xCond_split (fun hcd => ?_) (fun hcd => ?_) <;> (try (exfalso; clear hP hN; simp_all; done)) <;> (try (exfalso; simp at *; omega)))
          | with_reducible refine WP.block ?_
          | (with_reducible ((first | refine WP.skip ?_ | refine WP.exit ?_ | refine WP.ret ?_); simp [g1, g2, g6, g8, g9, g23, g24, g25, hb11, hb16, hb18, hb6, hb8, hb9, hlt, hw, hpl, hql, hbi, hpi, hqi, hbx, hpu, hqv, hqp, r1])))
      by_cases r2 : xh < u
      · have hn := entI_none hI hbi hpi hqi (by rw [hAt, entStep, if_pos (.inr r2)])
        rw [entC, hn]
        repeat' (first
          | with_reducible refine WP.seq ?_
          | (with_reducible ((first | refine WP.region (hn := []) ?_ | refine WP.cond' ?_); simp -implicitDefEqProofs (maxSteps := 2000000) [hP, hN, g1, g2, g6, g8, g9, g23, g24, g25, hb11, hb16, hb18, hb6, hb8, hb9, hlt, hw, hpl, hql, hbi, hpi, hqi, hbx, hpu, hqv, hqp, r1, r2]))
          | (with_reducible ((first | refine WP.draw (hn := []) (by rw [hP]; kernel_rfl) (by kernel_rfl) ?_); simp -implicitDefEqProofs (maxSteps := 2000000) [hP, hN, g1, g2, g6, g8, g9, g23, g24, g25, hb11, hb16, hb18, hb6, hb8, hb9, hlt, hw, hpl, hql, hbi, hpi, hqi, hbx, hpu, hqv, hqp, r1, r2]; (try refine ⟨by kernel_rfl, ?_⟩)))
          | (with_reducible refine xB_split (by simp [g1, g2, g6, g8, g9, g23, g24, g25, hb11, hb16, hb18, hb6, hb8, hb9, hlt, hw, hpl, hql, hbi, hpi, hqi, hbx, hpu, hqv, hqp, r1, r2]) (fun hgd => ?_) (fun hgd => ?_) <;> first | (exfalso; simp at hgd; done) | (exfalso; simp at hgd; omega) | simp -implicitDefEqProofs (maxSteps := 2000000) [hP, hN, g1, g2, g6, g8, g9, g23, g24, g25, hb11, hb16, hb18, hb6, hb8, hb9, hlt, hw, hpl, hql, hbi, hpi, hqi, hbx, hpu, hqv, hqp, r1, r2])
          | (with_reducible refine yB_split (by simp [g1, g2, g6, g8, g9, g23, g24, g25, hb11, hb16, hb18, hb6, hb8, hb9, hlt, hw, hpl, hql, hbi, hpi, hqi, hbx, hpu, hqv, hqp, r1, r2]) (fun hgd => ?_) (fun hgd => ?_) <;> first | (exfalso; simp at hgd; done) | (exfalso; simp at hgd; omega) | (simp -implicitDefEqProofs (maxSteps := 2000000) [hP, hN, g1, g2, g6, g8, g9, g23, g24, g25, hb11, hb16, hb18, hb6, hb8, hb9, hlt, hw, hpl, hql, hbi, hpi, hqi, hbx, hpu, hqv, hqp, r1, r2] <;> (try refine ⟨by kernel_rfl, ?_⟩)))
          | with_reducible refine xTwo_intro ?_ ?_
          | (with_reducible refine xCond_split (fun hcd => ?_) (fun hcd => ?_) <;> (try (exfalso; clear hP hN; simp_all; done)) <;> (try (exfalso; simp at *; omega)))
          | with_reducible refine WP.block ?_
          | (with_reducible ((first | refine WP.skip ?_ | refine WP.exit ?_ | refine WP.ret ?_); simp [g1, g2, g6, g8, g9, g23, g24, g25, hb11, hb16, hb18, hb6, hb8, hb9, hlt, hw, hpl, hql, hbi, hpi, hqi, hbx, hpu, hqv, hqp, r1, r2])))
      have hnx := fun s' (h : entStep s u v xl xh = some s') => entI_next hS hI hbi hpi hqi (by rw [hAt]; exact h)
      have hst : entStep s u v xl xh = some (if u < xl ∧ ltF s.1 (xl - u, v - u) = true then (xl - u, v - u) else s.1, if xh < v ∧ ltF (xh - u, v - u) s.2 = true then (xh - u, v - u) else s.2) := if_neg (by omega)
      have hnx := hnx _ hst
      clear hst
      have w1 : IntKind.i64.wrap (xl - u) = xl - u := wr_id (by omega) (by omega)
      have w2 : IntKind.i64.wrap (v - u) = v - u := wr_id (by omega) (by omega)
      have w3 : IntKind.i64.wrap (xh - u) = xh - u := wr_id (by omega) (by omega)
      have c1 : u < xl → DetH Try.prog 136 [.pv (encI s.1), .pv (encI (xl - u, v - u))] [] [] (.pv (B (ltF s.1 (xl - u, v - u)))) := fun h => d136 s.1 (xl - u, v - u) hF1 ⟨by simp only; omega, by simp only; omega, by simp only; omega, by simp only; omega⟩
      have c2 : xh < v → DetH Try.prog 136 [.pv (encI (xh - u, v - u)), .pv (encI s.2)] [] [] (.pv (B (ltF (xh - u, v - u) s.2))) := fun h => d136 (xh - u, v - u) s.2 ⟨by simp only; omega, by simp only; omega, by simp only; omega, by simp only; omega⟩ hF2
      generalize ltF s.1 (xl - u, v - u) = t1 at *
      generalize ltF (xh - u, v - u) s.2 = t2 at *
      try simp only at c1 c2
      by_cases u1 : u < xl
      · have c1 := c1 u1
        by_cases u2 : xh < v
        · have c2 := c2 u2
          cases t1 <;> cases t2 <;> simp only [u1, u2, true_and, if_true, Bool.false_eq_true, if_false] at hnx
          · skip
            repeat' (first
              | with_reducible refine WP.seq ?_
              | (with_reducible ((first | refine WP.region (hn := []) ?_ | refine xC_intro (c1) ?_ | refine xC_intro (c2) ?_ | refine WP.cond' ?_); simp -implicitDefEqProofs (maxSteps := 2000000) [hP, hN, g1, g2, g6, g8, g9, g23, g24, g25, hb11, hb16, hb18, hb6, hb8, hb9, hlt, hw, hpl, hql, hbi, hpi, hqi, hbx, hpu, hqv, hqp, r1, r2, u1, u2, w1, w2, w3]))
              | (with_reducible ((first | refine WP.draw (hn := []) (by rw [hP]; kernel_rfl) (by kernel_rfl) ?_ | refine yC_intro (c1) ?_ | refine yC_intro (c2) ?_); simp -implicitDefEqProofs (maxSteps := 2000000) [hP, hN, g1, g2, g6, g8, g9, g23, g24, g25, hb11, hb16, hb18, hb6, hb8, hb9, hlt, hw, hpl, hql, hbi, hpi, hqi, hbx, hpu, hqv, hqp, r1, r2, u1, u2, w1, w2, w3]; (try refine ⟨by kernel_rfl, ?_⟩)))
              | (with_reducible refine xB_split (by simp [g1, g2, g6, g8, g9, g23, g24, g25, hb11, hb16, hb18, hb6, hb8, hb9, hlt, hw, hpl, hql, hbi, hpi, hqi, hbx, hpu, hqv, hqp, r1, r2, u1, u2, w1, w2, w3]) (fun hgd => ?_) (fun hgd => ?_) <;> first | (exfalso; simp at hgd; done) | (exfalso; simp at hgd; omega) | simp -implicitDefEqProofs (maxSteps := 2000000) [hP, hN, g1, g2, g6, g8, g9, g23, g24, g25, hb11, hb16, hb18, hb6, hb8, hb9, hlt, hw, hpl, hql, hbi, hpi, hqi, hbx, hpu, hqv, hqp, r1, r2, u1, u2, w1, w2, w3])
              | (with_reducible refine yB_split (by simp [g1, g2, g6, g8, g9, g23, g24, g25, hb11, hb16, hb18, hb6, hb8, hb9, hlt, hw, hpl, hql, hbi, hpi, hqi, hbx, hpu, hqv, hqp, r1, r2, u1, u2, w1, w2, w3]) (fun hgd => ?_) (fun hgd => ?_) <;> first | (exfalso; simp at hgd; done) | (exfalso; simp at hgd; omega) | (simp -implicitDefEqProofs (maxSteps := 2000000) [hP, hN, g1, g2, g6, g8, g9, g23, g24, g25, hb11, hb16, hb18, hb6, hb8, hb9, hlt, hw, hpl, hql, hbi, hpi, hqi, hbx, hpu, hqv, hqp, r1, r2, u1, u2, w1, w2, w3] <;> (try refine ⟨by kernel_rfl, ?_⟩)))
              | with_reducible refine xTwo_intro ?_ ?_
              | (with_reducible refine xCond_split (fun hcd => ?_) (fun hcd => ?_) <;> (try (exfalso; clear hP hN; simp_all; done)) <;> (try (exfalso; simp at *; omega)))
              | with_reducible refine WP.block ?_
              | (with_reducible ((first | refine WP.skip ?_ | refine WP.exit ?_ | refine WP.ret ?_); simp [g1, g2, g6, g8, g9, g23, g24, g25, hb11, hb16, hb18, hb6, hb8, hb9, hlt, hw, hpl, hql, hbi, hpi, hqi, hbx, hpu, hqv, hqp, r1, r2, u1, u2, w1, w2, w3])))
            all_goals exact ⟨_, _, _, _, hnx, ⟨rfl, rfl⟩, rfl, rfl⟩
          · skip
            repeat' (first
              | with_reducible refine WP.seq ?_
              | (with_reducible ((first | refine WP.region (hn := []) ?_ | refine xC_intro (c1) ?_ | refine xC_intro (c2) ?_ | refine WP.cond' ?_); simp -implicitDefEqProofs (maxSteps := 2000000) [hP, hN, g1, g2, g6, g8, g9, g23, g24, g25, hb11, hb16, hb18, hb6, hb8, hb9, hlt, hw, hpl, hql, hbi, hpi, hqi, hbx, hpu, hqv, hqp, r1, r2, u1, u2, w1, w2, w3]))
              | (with_reducible ((first | refine WP.draw (hn := []) (by rw [hP]; kernel_rfl) (by kernel_rfl) ?_ | refine yC_intro (c1) ?_ | refine yC_intro (c2) ?_); simp -implicitDefEqProofs (maxSteps := 2000000) [hP, hN, g1, g2, g6, g8, g9, g23, g24, g25, hb11, hb16, hb18, hb6, hb8, hb9, hlt, hw, hpl, hql, hbi, hpi, hqi, hbx, hpu, hqv, hqp, r1, r2, u1, u2, w1, w2, w3]; (try refine ⟨by kernel_rfl, ?_⟩)))
              | (with_reducible refine xB_split (by simp [g1, g2, g6, g8, g9, g23, g24, g25, hb11, hb16, hb18, hb6, hb8, hb9, hlt, hw, hpl, hql, hbi, hpi, hqi, hbx, hpu, hqv, hqp, r1, r2, u1, u2, w1, w2, w3]) (fun hgd => ?_) (fun hgd => ?_) <;> first | (exfalso; simp at hgd; done) | (exfalso; simp at hgd; omega) | simp -implicitDefEqProofs (maxSteps := 2000000) [hP, hN, g1, g2, g6, g8, g9, g23, g24, g25, hb11, hb16, hb18, hb6, hb8, hb9, hlt, hw, hpl, hql, hbi, hpi, hqi, hbx, hpu, hqv, hqp, r1, r2, u1, u2, w1, w2, w3])
              | (with_reducible refine yB_split (by simp [g1, g2, g6, g8, g9, g23, g24, g25, hb11, hb16, hb18, hb6, hb8, hb9, hlt, hw, hpl, hql, hbi, hpi, hqi, hbx, hpu, hqv, hqp, r1, r2, u1, u2, w1, w2, w3]) (fun hgd => ?_) (fun hgd => ?_) <;> first | (exfalso; simp at hgd; done) | (exfalso; simp at hgd; omega) | (simp -implicitDefEqProofs (maxSteps := 2000000) [hP, hN, g1, g2, g6, g8, g9, g23, g24, g25, hb11, hb16, hb18, hb6, hb8, hb9, hlt, hw, hpl, hql, hbi, hpi, hqi, hbx, hpu, hqv, hqp, r1, r2, u1, u2, w1, w2, w3] <;> (try refine ⟨by kernel_rfl, ?_⟩)))
              | with_reducible refine xTwo_intro ?_ ?_
              | (with_reducible refine xCond_split (fun hcd => ?_) (fun hcd => ?_) <;> (try (exfalso; clear hP hN; simp_all; done)) <;> (try (exfalso; simp at *; omega)))
              | with_reducible refine WP.block ?_
              | (with_reducible ((first | refine WP.skip ?_ | refine WP.exit ?_ | refine WP.ret ?_); simp [g1, g2, g6, g8, g9, g23, g24, g25, hb11, hb16, hb18, hb6, hb8, hb9, hlt, hw, hpl, hql, hbi, hpi, hqi, hbx, hpu, hqv, hqp, r1, r2, u1, u2, w1, w2, w3])))
            all_goals exact ⟨_, _, _, _, hnx, ⟨rfl, rfl⟩, rfl, rfl⟩
          · skip
            repeat' (first
              | with_reducible refine WP.seq ?_
              | (with_reducible ((first | refine WP.region (hn := []) ?_ | refine xC_intro (c1) ?_ | refine xC_intro (c2) ?_ | refine WP.cond' ?_); simp -implicitDefEqProofs (maxSteps := 2000000) [hP, hN, g1, g2, g6, g8, g9, g23, g24, g25, hb11, hb16, hb18, hb6, hb8, hb9, hlt, hw, hpl, hql, hbi, hpi, hqi, hbx, hpu, hqv, hqp, r1, r2, u1, u2, w1, w2, w3]))
              | (with_reducible ((first | refine WP.draw (hn := []) (by rw [hP]; kernel_rfl) (by kernel_rfl) ?_ | refine yC_intro (c1) ?_ | refine yC_intro (c2) ?_); simp -implicitDefEqProofs (maxSteps := 2000000) [hP, hN, g1, g2, g6, g8, g9, g23, g24, g25, hb11, hb16, hb18, hb6, hb8, hb9, hlt, hw, hpl, hql, hbi, hpi, hqi, hbx, hpu, hqv, hqp, r1, r2, u1, u2, w1, w2, w3]; (try refine ⟨by kernel_rfl, ?_⟩)))
              | (with_reducible refine xB_split (by simp [g1, g2, g6, g8, g9, g23, g24, g25, hb11, hb16, hb18, hb6, hb8, hb9, hlt, hw, hpl, hql, hbi, hpi, hqi, hbx, hpu, hqv, hqp, r1, r2, u1, u2, w1, w2, w3]) (fun hgd => ?_) (fun hgd => ?_) <;> first | (exfalso; simp at hgd; done) | (exfalso; simp at hgd; omega) | simp -implicitDefEqProofs (maxSteps := 2000000) [hP, hN, g1, g2, g6, g8, g9, g23, g24, g25, hb11, hb16, hb18, hb6, hb8, hb9, hlt, hw, hpl, hql, hbi, hpi, hqi, hbx, hpu, hqv, hqp, r1, r2, u1, u2, w1, w2, w3])
              | (with_reducible refine yB_split (by simp [g1, g2, g6, g8, g9, g23, g24, g25, hb11, hb16, hb18, hb6, hb8, hb9, hlt, hw, hpl, hql, hbi, hpi, hqi, hbx, hpu, hqv, hqp, r1, r2, u1, u2, w1, w2, w3]) (fun hgd => ?_) (fun hgd => ?_) <;> first | (exfalso; simp at hgd; done) | (exfalso; simp at hgd; omega) | (simp -implicitDefEqProofs (maxSteps := 2000000) [hP, hN, g1, g2, g6, g8, g9, g23, g24, g25, hb11, hb16, hb18, hb6, hb8, hb9, hlt, hw, hpl, hql, hbi, hpi, hqi, hbx, hpu, hqv, hqp, r1, r2, u1, u2, w1, w2, w3] <;> (try refine ⟨by kernel_rfl, ?_⟩)))
              | with_reducible refine xTwo_intro ?_ ?_
              | (with_reducible refine xCond_split (fun hcd => ?_) (fun hcd => ?_) <;> (try (exfalso; clear hP hN; simp_all; done)) <;> (try (exfalso; simp at *; omega)))
              | with_reducible refine WP.block ?_
              | (with_reducible ((first | refine WP.skip ?_ | refine WP.exit ?_ | refine WP.ret ?_); simp [g1, g2, g6, g8, g9, g23, g24, g25, hb11, hb16, hb18, hb6, hb8, hb9, hlt, hw, hpl, hql, hbi, hpi, hqi, hbx, hpu, hqv, hqp, r1, r2, u1, u2, w1, w2, w3])))
            all_goals exact ⟨_, _, _, _, hnx, ⟨rfl, rfl⟩, rfl, rfl⟩
          · skip
            repeat' (first
              | with_reducible refine WP.seq ?_
              | (with_reducible ((first | refine WP.region (hn := []) ?_ | refine xC_intro (c1) ?_ | refine xC_intro (c2) ?_ | refine WP.cond' ?_); simp -implicitDefEqProofs (maxSteps := 2000000) [hP, hN, g1, g2, g6, g8, g9, g23, g24, g25, hb11, hb16, hb18, hb6, hb8, hb9, hlt, hw, hpl, hql, hbi, hpi, hqi, hbx, hpu, hqv, hqp, r1, r2, u1, u2, w1, w2, w3]))
              | (with_reducible ((first | refine WP.draw (hn := []) (by rw [hP]; kernel_rfl) (by kernel_rfl) ?_ | refine yC_intro (c1) ?_ | refine yC_intro (c2) ?_); simp -implicitDefEqProofs (maxSteps := 2000000) [hP, hN, g1, g2, g6, g8, g9, g23, g24, g25, hb11, hb16, hb18, hb6, hb8, hb9, hlt, hw, hpl, hql, hbi, hpi, hqi, hbx, hpu, hqv, hqp, r1, r2, u1, u2, w1, w2, w3]; (try refine ⟨by kernel_rfl, ?_⟩)))
              | (with_reducible refine xB_split (by simp [g1, g2, g6, g8, g9, g23, g24, g25, hb11, hb16, hb18, hb6, hb8, hb9, hlt, hw, hpl, hql, hbi, hpi, hqi, hbx, hpu, hqv, hqp, r1, r2, u1, u2, w1, w2, w3]) (fun hgd => ?_) (fun hgd => ?_) <;> first | (exfalso; simp at hgd; done) | (exfalso; simp at hgd; omega) | simp -implicitDefEqProofs (maxSteps := 2000000) [hP, hN, g1, g2, g6, g8, g9, g23, g24, g25, hb11, hb16, hb18, hb6, hb8, hb9, hlt, hw, hpl, hql, hbi, hpi, hqi, hbx, hpu, hqv, hqp, r1, r2, u1, u2, w1, w2, w3])
              | (with_reducible refine yB_split (by simp [g1, g2, g6, g8, g9, g23, g24, g25, hb11, hb16, hb18, hb6, hb8, hb9, hlt, hw, hpl, hql, hbi, hpi, hqi, hbx, hpu, hqv, hqp, r1, r2, u1, u2, w1, w2, w3]) (fun hgd => ?_) (fun hgd => ?_) <;> first | (exfalso; simp at hgd; done) | (exfalso; simp at hgd; omega) | (simp -implicitDefEqProofs (maxSteps := 2000000) [hP, hN, g1, g2, g6, g8, g9, g23, g24, g25, hb11, hb16, hb18, hb6, hb8, hb9, hlt, hw, hpl, hql, hbi, hpi, hqi, hbx, hpu, hqv, hqp, r1, r2, u1, u2, w1, w2, w3] <;> (try refine ⟨by kernel_rfl, ?_⟩)))
              | with_reducible refine xTwo_intro ?_ ?_
              | (with_reducible refine xCond_split (fun hcd => ?_) (fun hcd => ?_) <;> (try (exfalso; clear hP hN; simp_all; done)) <;> (try (exfalso; simp at *; omega)))
              | with_reducible refine WP.block ?_
              | (with_reducible ((first | refine WP.skip ?_ | refine WP.exit ?_ | refine WP.ret ?_); simp [g1, g2, g6, g8, g9, g23, g24, g25, hb11, hb16, hb18, hb6, hb8, hb9, hlt, hw, hpl, hql, hbi, hpi, hqi, hbx, hpu, hqv, hqp, r1, r2, u1, u2, w1, w2, w3])))
            all_goals exact ⟨_, _, _, _, hnx, ⟨rfl, rfl⟩, rfl, rfl⟩
        · cases t1 <;> simp only [u1, u2, true_and, false_and, if_true, Bool.false_eq_true, if_false] at hnx
          · skip
            repeat' (first
              | with_reducible refine WP.seq ?_
              | (with_reducible ((first | refine WP.region (hn := []) ?_ | refine xC_intro (c1) ?_ | refine WP.cond' ?_); simp -implicitDefEqProofs (maxSteps := 2000000) [hP, hN, g1, g2, g6, g8, g9, g23, g24, g25, hb11, hb16, hb18, hb6, hb8, hb9, hlt, hw, hpl, hql, hbi, hpi, hqi, hbx, hpu, hqv, hqp, r1, r2, u1, u2, w1, w2, w3]))
              | (with_reducible ((first | refine WP.draw (hn := []) (by rw [hP]; kernel_rfl) (by kernel_rfl) ?_ | refine yC_intro (c1) ?_); simp -implicitDefEqProofs (maxSteps := 2000000) [hP, hN, g1, g2, g6, g8, g9, g23, g24, g25, hb11, hb16, hb18, hb6, hb8, hb9, hlt, hw, hpl, hql, hbi, hpi, hqi, hbx, hpu, hqv, hqp, r1, r2, u1, u2, w1, w2, w3]; (try refine ⟨by kernel_rfl, ?_⟩)))
              | (with_reducible refine xB_split (by simp [g1, g2, g6, g8, g9, g23, g24, g25, hb11, hb16, hb18, hb6, hb8, hb9, hlt, hw, hpl, hql, hbi, hpi, hqi, hbx, hpu, hqv, hqp, r1, r2, u1, u2, w1, w2, w3]) (fun hgd => ?_) (fun hgd => ?_) <;> first | (exfalso; simp at hgd; done) | (exfalso; simp at hgd; omega) | simp -implicitDefEqProofs (maxSteps := 2000000) [hP, hN, g1, g2, g6, g8, g9, g23, g24, g25, hb11, hb16, hb18, hb6, hb8, hb9, hlt, hw, hpl, hql, hbi, hpi, hqi, hbx, hpu, hqv, hqp, r1, r2, u1, u2, w1, w2, w3])
              | (with_reducible refine yB_split (by simp [g1, g2, g6, g8, g9, g23, g24, g25, hb11, hb16, hb18, hb6, hb8, hb9, hlt, hw, hpl, hql, hbi, hpi, hqi, hbx, hpu, hqv, hqp, r1, r2, u1, u2, w1, w2, w3]) (fun hgd => ?_) (fun hgd => ?_) <;> first | (exfalso; simp at hgd; done) | (exfalso; simp at hgd; omega) | (simp -implicitDefEqProofs (maxSteps := 2000000) [hP, hN, g1, g2, g6, g8, g9, g23, g24, g25, hb11, hb16, hb18, hb6, hb8, hb9, hlt, hw, hpl, hql, hbi, hpi, hqi, hbx, hpu, hqv, hqp, r1, r2, u1, u2, w1, w2, w3] <;> (try refine ⟨by kernel_rfl, ?_⟩)))
              | with_reducible refine xTwo_intro ?_ ?_
              | (with_reducible refine xCond_split (fun hcd => ?_) (fun hcd => ?_) <;> (try (exfalso; clear hP hN; simp_all; done)) <;> (try (exfalso; simp at *; omega)))
              | with_reducible refine WP.block ?_
              | (with_reducible ((first | refine WP.skip ?_ | refine WP.exit ?_ | refine WP.ret ?_); simp [g1, g2, g6, g8, g9, g23, g24, g25, hb11, hb16, hb18, hb6, hb8, hb9, hlt, hw, hpl, hql, hbi, hpi, hqi, hbx, hpu, hqv, hqp, r1, r2, u1, u2, w1, w2, w3])))
            all_goals exact ⟨_, _, _, _, hnx, ⟨rfl, rfl⟩, rfl, rfl⟩
          · skip
            repeat' (first
              | with_reducible refine WP.seq ?_
              | (with_reducible ((first | refine WP.region (hn := []) ?_ | refine xC_intro (c1) ?_ | refine WP.cond' ?_); simp -implicitDefEqProofs (maxSteps := 2000000) [hP, hN, g1, g2, g6, g8, g9, g23, g24, g25, hb11, hb16, hb18, hb6, hb8, hb9, hlt, hw, hpl, hql, hbi, hpi, hqi, hbx, hpu, hqv, hqp, r1, r2, u1, u2, w1, w2, w3]))
              | (with_reducible ((first | refine WP.draw (hn := []) (by rw [hP]; kernel_rfl) (by kernel_rfl) ?_ | refine yC_intro (c1) ?_); simp -implicitDefEqProofs (maxSteps := 2000000) [hP, hN, g1, g2, g6, g8, g9, g23, g24, g25, hb11, hb16, hb18, hb6, hb8, hb9, hlt, hw, hpl, hql, hbi, hpi, hqi, hbx, hpu, hqv, hqp, r1, r2, u1, u2, w1, w2, w3]; (try refine ⟨by kernel_rfl, ?_⟩)))
              | (with_reducible refine xB_split (by simp [g1, g2, g6, g8, g9, g23, g24, g25, hb11, hb16, hb18, hb6, hb8, hb9, hlt, hw, hpl, hql, hbi, hpi, hqi, hbx, hpu, hqv, hqp, r1, r2, u1, u2, w1, w2, w3]) (fun hgd => ?_) (fun hgd => ?_) <;> first | (exfalso; simp at hgd; done) | (exfalso; simp at hgd; omega) | simp -implicitDefEqProofs (maxSteps := 2000000) [hP, hN, g1, g2, g6, g8, g9, g23, g24, g25, hb11, hb16, hb18, hb6, hb8, hb9, hlt, hw, hpl, hql, hbi, hpi, hqi, hbx, hpu, hqv, hqp, r1, r2, u1, u2, w1, w2, w3])
              | (with_reducible refine yB_split (by simp [g1, g2, g6, g8, g9, g23, g24, g25, hb11, hb16, hb18, hb6, hb8, hb9, hlt, hw, hpl, hql, hbi, hpi, hqi, hbx, hpu, hqv, hqp, r1, r2, u1, u2, w1, w2, w3]) (fun hgd => ?_) (fun hgd => ?_) <;> first | (exfalso; simp at hgd; done) | (exfalso; simp at hgd; omega) | (simp -implicitDefEqProofs (maxSteps := 2000000) [hP, hN, g1, g2, g6, g8, g9, g23, g24, g25, hb11, hb16, hb18, hb6, hb8, hb9, hlt, hw, hpl, hql, hbi, hpi, hqi, hbx, hpu, hqv, hqp, r1, r2, u1, u2, w1, w2, w3] <;> (try refine ⟨by kernel_rfl, ?_⟩)))
              | with_reducible refine xTwo_intro ?_ ?_
              | (with_reducible refine xCond_split (fun hcd => ?_) (fun hcd => ?_) <;> (try (exfalso; clear hP hN; simp_all; done)) <;> (try (exfalso; simp at *; omega)))
              | with_reducible refine WP.block ?_
              | (with_reducible ((first | refine WP.skip ?_ | refine WP.exit ?_ | refine WP.ret ?_); simp [g1, g2, g6, g8, g9, g23, g24, g25, hb11, hb16, hb18, hb6, hb8, hb9, hlt, hw, hpl, hql, hbi, hpi, hqi, hbx, hpu, hqv, hqp, r1, r2, u1, u2, w1, w2, w3])))
            all_goals exact ⟨_, _, _, _, hnx, ⟨rfl, rfl⟩, rfl, rfl⟩
      · by_cases u2 : xh < v
        · have c2 := c2 u2
          cases t2 <;> simp only [u1, u2, true_and, false_and, if_true, Bool.false_eq_true, if_false] at hnx
          · skip
            repeat' (first
              | with_reducible refine WP.seq ?_
              | (with_reducible ((first | refine WP.region (hn := []) ?_ | refine xC_intro (c2) ?_ | refine WP.cond' ?_); simp -implicitDefEqProofs (maxSteps := 2000000) [hP, hN, g1, g2, g6, g8, g9, g23, g24, g25, hb11, hb16, hb18, hb6, hb8, hb9, hlt, hw, hpl, hql, hbi, hpi, hqi, hbx, hpu, hqv, hqp, r1, r2, u1, u2, w1, w2, w3]))
              | (with_reducible ((first | refine WP.draw (hn := []) (by rw [hP]; kernel_rfl) (by kernel_rfl) ?_ | refine yC_intro (c2) ?_); simp -implicitDefEqProofs (maxSteps := 2000000) [hP, hN, g1, g2, g6, g8, g9, g23, g24, g25, hb11, hb16, hb18, hb6, hb8, hb9, hlt, hw, hpl, hql, hbi, hpi, hqi, hbx, hpu, hqv, hqp, r1, r2, u1, u2, w1, w2, w3]; (try refine ⟨by kernel_rfl, ?_⟩)))
              | (with_reducible refine xB_split (by simp [g1, g2, g6, g8, g9, g23, g24, g25, hb11, hb16, hb18, hb6, hb8, hb9, hlt, hw, hpl, hql, hbi, hpi, hqi, hbx, hpu, hqv, hqp, r1, r2, u1, u2, w1, w2, w3]) (fun hgd => ?_) (fun hgd => ?_) <;> first | (exfalso; simp at hgd; done) | (exfalso; simp at hgd; omega) | simp -implicitDefEqProofs (maxSteps := 2000000) [hP, hN, g1, g2, g6, g8, g9, g23, g24, g25, hb11, hb16, hb18, hb6, hb8, hb9, hlt, hw, hpl, hql, hbi, hpi, hqi, hbx, hpu, hqv, hqp, r1, r2, u1, u2, w1, w2, w3])
              | (with_reducible refine yB_split (by simp [g1, g2, g6, g8, g9, g23, g24, g25, hb11, hb16, hb18, hb6, hb8, hb9, hlt, hw, hpl, hql, hbi, hpi, hqi, hbx, hpu, hqv, hqp, r1, r2, u1, u2, w1, w2, w3]) (fun hgd => ?_) (fun hgd => ?_) <;> first | (exfalso; simp at hgd; done) | (exfalso; simp at hgd; omega) | (simp -implicitDefEqProofs (maxSteps := 2000000) [hP, hN, g1, g2, g6, g8, g9, g23, g24, g25, hb11, hb16, hb18, hb6, hb8, hb9, hlt, hw, hpl, hql, hbi, hpi, hqi, hbx, hpu, hqv, hqp, r1, r2, u1, u2, w1, w2, w3] <;> (try refine ⟨by kernel_rfl, ?_⟩)))
              | with_reducible refine xTwo_intro ?_ ?_
              | (with_reducible refine xCond_split (fun hcd => ?_) (fun hcd => ?_) <;> (try (exfalso; clear hP hN; simp_all; done)) <;> (try (exfalso; simp at *; omega)))
              | with_reducible refine WP.block ?_
              | (with_reducible ((first | refine WP.skip ?_ | refine WP.exit ?_ | refine WP.ret ?_); simp [g1, g2, g6, g8, g9, g23, g24, g25, hb11, hb16, hb18, hb6, hb8, hb9, hlt, hw, hpl, hql, hbi, hpi, hqi, hbx, hpu, hqv, hqp, r1, r2, u1, u2, w1, w2, w3])))
            all_goals exact ⟨_, _, _, _, hnx, ⟨rfl, rfl⟩, rfl, rfl⟩
          · skip
            repeat' (first
              | with_reducible refine WP.seq ?_
              | (with_reducible ((first | refine WP.region (hn := []) ?_ | refine xC_intro (c2) ?_ | refine WP.cond' ?_); simp -implicitDefEqProofs (maxSteps := 2000000) [hP, hN, g1, g2, g6, g8, g9, g23, g24, g25, hb11, hb16, hb18, hb6, hb8, hb9, hlt, hw, hpl, hql, hbi, hpi, hqi, hbx, hpu, hqv, hqp, r1, r2, u1, u2, w1, w2, w3]))
              | (with_reducible ((first | refine WP.draw (hn := []) (by rw [hP]; kernel_rfl) (by kernel_rfl) ?_ | refine yC_intro (c2) ?_); simp -implicitDefEqProofs (maxSteps := 2000000) [hP, hN, g1, g2, g6, g8, g9, g23, g24, g25, hb11, hb16, hb18, hb6, hb8, hb9, hlt, hw, hpl, hql, hbi, hpi, hqi, hbx, hpu, hqv, hqp, r1, r2, u1, u2, w1, w2, w3]; (try refine ⟨by kernel_rfl, ?_⟩)))
              | (with_reducible refine xB_split (by simp [g1, g2, g6, g8, g9, g23, g24, g25, hb11, hb16, hb18, hb6, hb8, hb9, hlt, hw, hpl, hql, hbi, hpi, hqi, hbx, hpu, hqv, hqp, r1, r2, u1, u2, w1, w2, w3]) (fun hgd => ?_) (fun hgd => ?_) <;> first | (exfalso; simp at hgd; done) | (exfalso; simp at hgd; omega) | simp -implicitDefEqProofs (maxSteps := 2000000) [hP, hN, g1, g2, g6, g8, g9, g23, g24, g25, hb11, hb16, hb18, hb6, hb8, hb9, hlt, hw, hpl, hql, hbi, hpi, hqi, hbx, hpu, hqv, hqp, r1, r2, u1, u2, w1, w2, w3])
              | (with_reducible refine yB_split (by simp [g1, g2, g6, g8, g9, g23, g24, g25, hb11, hb16, hb18, hb6, hb8, hb9, hlt, hw, hpl, hql, hbi, hpi, hqi, hbx, hpu, hqv, hqp, r1, r2, u1, u2, w1, w2, w3]) (fun hgd => ?_) (fun hgd => ?_) <;> first | (exfalso; simp at hgd; done) | (exfalso; simp at hgd; omega) | (simp -implicitDefEqProofs (maxSteps := 2000000) [hP, hN, g1, g2, g6, g8, g9, g23, g24, g25, hb11, hb16, hb18, hb6, hb8, hb9, hlt, hw, hpl, hql, hbi, hpi, hqi, hbx, hpu, hqv, hqp, r1, r2, u1, u2, w1, w2, w3] <;> (try refine ⟨by kernel_rfl, ?_⟩)))
              | with_reducible refine xTwo_intro ?_ ?_
              | (with_reducible refine xCond_split (fun hcd => ?_) (fun hcd => ?_) <;> (try (exfalso; clear hP hN; simp_all; done)) <;> (try (exfalso; simp at *; omega)))
              | with_reducible refine WP.block ?_
              | (with_reducible ((first | refine WP.skip ?_ | refine WP.exit ?_ | refine WP.ret ?_); simp [g1, g2, g6, g8, g9, g23, g24, g25, hb11, hb16, hb18, hb6, hb8, hb9, hlt, hw, hpl, hql, hbi, hpi, hqi, hbx, hpu, hqv, hqp, r1, r2, u1, u2, w1, w2, w3])))
            all_goals exact ⟨_, _, _, _, hnx, ⟨rfl, rfl⟩, rfl, rfl⟩
        · simp only [u1, u2, false_and, if_false] at hnx
          repeat' (first
            | with_reducible refine WP.seq ?_
            | (with_reducible ((first | refine WP.region (hn := []) ?_ | refine WP.cond' ?_); simp -implicitDefEqProofs (maxSteps := 2000000) [hP, hN, g1, g2, g6, g8, g9, g23, g24, g25, hb11, hb16, hb18, hb6, hb8, hb9, hlt, hw, hpl, hql, hbi, hpi, hqi, hbx, hpu, hqv, hqp, r1, r2, u1, u2, w1, w2, w3]))
            | (with_reducible ((first | refine WP.draw (hn := []) (by rw [hP]; kernel_rfl) (by kernel_rfl) ?_); simp -implicitDefEqProofs (maxSteps := 2000000) [hP, hN, g1, g2, g6, g8, g9, g23, g24, g25, hb11, hb16, hb18, hb6, hb8, hb9, hlt, hw, hpl, hql, hbi, hpi, hqi, hbx, hpu, hqv, hqp, r1, r2, u1, u2, w1, w2, w3]; (try refine ⟨by kernel_rfl, ?_⟩)))
            | (with_reducible refine xB_split (by simp [g1, g2, g6, g8, g9, g23, g24, g25, hb11, hb16, hb18, hb6, hb8, hb9, hlt, hw, hpl, hql, hbi, hpi, hqi, hbx, hpu, hqv, hqp, r1, r2, u1, u2, w1, w2, w3]) (fun hgd => ?_) (fun hgd => ?_) <;> first | (exfalso; simp at hgd; done) | (exfalso; simp at hgd; omega) | simp -implicitDefEqProofs (maxSteps := 2000000) [hP, hN, g1, g2, g6, g8, g9, g23, g24, g25, hb11, hb16, hb18, hb6, hb8, hb9, hlt, hw, hpl, hql, hbi, hpi, hqi, hbx, hpu, hqv, hqp, r1, r2, u1, u2, w1, w2, w3])
            | (with_reducible refine yB_split (by simp [g1, g2, g6, g8, g9, g23, g24, g25, hb11, hb16, hb18, hb6, hb8, hb9, hlt, hw, hpl, hql, hbi, hpi, hqi, hbx, hpu, hqv, hqp, r1, r2, u1, u2, w1, w2, w3]) (fun hgd => ?_) (fun hgd => ?_) <;> first | (exfalso; simp at hgd; done) | (exfalso; simp at hgd; omega) | (simp -implicitDefEqProofs (maxSteps := 2000000) [hP, hN, g1, g2, g6, g8, g9, g23, g24, g25, hb11, hb16, hb18, hb6, hb8, hb9, hlt, hw, hpl, hql, hbi, hpi, hqi, hbx, hpu, hqv, hqp, r1, r2, u1, u2, w1, w2, w3] <;> (try refine ⟨by kernel_rfl, ?_⟩)))
            | with_reducible refine xTwo_intro ?_ ?_
            | (with_reducible refine xCond_split (fun hcd => ?_) (fun hcd => ?_) <;> (try (exfalso; clear hP hN; simp_all; done)) <;> (try (exfalso; simp at *; omega)))
            | with_reducible refine WP.block ?_
            | (with_reducible ((first | refine WP.skip ?_ | refine WP.exit ?_ | refine WP.ret ?_); simp [g1, g2, g6, g8, g9, g23, g24, g25, hb11, hb16, hb18, hb6, hb8, hb9, hlt, hw, hpl, hql, hbi, hpi, hqi, hbx, hpu, hqv, hqp, r1, r2, u1, u2, w1, w2, w3])))
          all_goals exact ⟨_, _, _, _, hnx, ⟨rfl, rfl⟩, rfl, rfl⟩
  · have hd := entI_done hI (by omega)
    have cl := d136 s.2 s.1 hF2 hF1
    rw [entC, hd]
    simp only
    cases hl : ltF s.2 s.1 with
    | true =>
      rw [hl] at cl
      repeat' (first
        | with_reducible refine WP.seq ?_
        | (with_reducible ((first | refine WP.region (hn := []) ?_ | refine xC_intro (cl) ?_ | refine WP.cond' ?_); simp -implicitDefEqProofs (maxSteps := 2000000) [hP, hN, g1, g2, g6, g8, g9, g23, g24, g25, hb6, hb8, hb9, hlt]))
        | (with_reducible ((first | refine WP.draw (hn := []) (by rw [hP]; kernel_rfl) (by kernel_rfl) ?_ | refine yC_intro (cl) ?_); simp -implicitDefEqProofs (maxSteps := 2000000) [hP, hN, g1, g2, g6, g8, g9, g23, g24, g25, hb6, hb8, hb9, hlt]; (try refine ⟨by kernel_rfl, ?_⟩)))
        | (with_reducible refine xB_split (by simp [g1, g2, g6, g8, g9, g23, g24, g25, hb6, hb8, hb9, hlt]) (fun hgd => ?_) (fun hgd => ?_) <;> first | (exfalso; simp at hgd; done) | (exfalso; simp at hgd; omega) | simp -implicitDefEqProofs (maxSteps := 2000000) [hP, hN, g1, g2, g6, g8, g9, g23, g24, g25, hb6, hb8, hb9, hlt])
        | (with_reducible refine yB_split (by simp [g1, g2, g6, g8, g9, g23, g24, g25, hb6, hb8, hb9, hlt]) (fun hgd => ?_) (fun hgd => ?_) <;> first | (exfalso; simp at hgd; done) | (exfalso; simp at hgd; omega) | (simp -implicitDefEqProofs (maxSteps := 2000000) [hP, hN, g1, g2, g6, g8, g9, g23, g24, g25, hb6, hb8, hb9, hlt] <;> (try refine ⟨by kernel_rfl, ?_⟩)))
        | with_reducible refine xTwo_intro ?_ ?_
        | (with_reducible refine xCond_split (fun hcd => ?_) (fun hcd => ?_) <;> (try (exfalso; clear hP hN; simp_all; done)) <;> (try (exfalso; simp at *; omega)))
        | with_reducible refine WP.block ?_
        | (with_reducible ((first | refine WP.skip ?_ | refine WP.exit ?_ | refine WP.ret ?_); simp [g1, g2, g6, g8, g9, g23, g24, g25, hb6, hb8, hb9, hlt])))
    | false =>
      rw [hl] at cl
      repeat' (first
        | with_reducible refine WP.seq ?_
        | (with_reducible ((first | refine WP.region (hn := []) ?_ | refine xC_intro (cl) ?_ | refine WP.cond' ?_); simp -implicitDefEqProofs (maxSteps := 2000000) [hP, hN, g1, g2, g6, g8, g9, g23, g24, g25, hb6, hb8, hb9, hlt]))
        | (with_reducible ((first | refine WP.draw (hn := []) (by rw [hP]; kernel_rfl) (by kernel_rfl) ?_ | refine yC_intro (cl) ?_); simp -implicitDefEqProofs (maxSteps := 2000000) [hP, hN, g1, g2, g6, g8, g9, g23, g24, g25, hb6, hb8, hb9, hlt]; (try refine ⟨by kernel_rfl, ?_⟩)))
        | (with_reducible refine xB_split (by simp [g1, g2, g6, g8, g9, g23, g24, g25, hb6, hb8, hb9, hlt]) (fun hgd => ?_) (fun hgd => ?_) <;> first | (exfalso; simp at hgd; done) | (exfalso; simp at hgd; omega) | simp -implicitDefEqProofs (maxSteps := 2000000) [hP, hN, g1, g2, g6, g8, g9, g23, g24, g25, hb6, hb8, hb9, hlt])
        | (with_reducible refine yB_split (by simp [g1, g2, g6, g8, g9, g23, g24, g25, hb6, hb8, hb9, hlt]) (fun hgd => ?_) (fun hgd => ?_) <;> first | (exfalso; simp at hgd; done) | (exfalso; simp at hgd; omega) | (simp -implicitDefEqProofs (maxSteps := 2000000) [hP, hN, g1, g2, g6, g8, g9, g23, g24, g25, hb6, hb8, hb9, hlt] <;> (try refine ⟨by kernel_rfl, ?_⟩)))
        | with_reducible refine xTwo_intro ?_ ?_
        | (with_reducible refine xCond_split (fun hcd => ?_) (fun hcd => ?_) <;> (try (exfalso; clear hP hN; simp_all; done)) <;> (try (exfalso; simp at *; omega)))
        | with_reducible refine WP.block ?_
        | (with_reducible ((first | refine WP.skip ?_ | refine WP.exit ?_ | refine WP.ret ?_); simp [g1, g2, g6, g8, g9, g23, g24, g25, hb6, hb8, hb9, hlt])))
end Go.Ab
