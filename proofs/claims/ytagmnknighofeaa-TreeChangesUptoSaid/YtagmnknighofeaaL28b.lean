/- TreeTiles, TreeNeighbors: the walks. -/
import Derived.Test.YtagmnknighofeaaL28a
set_option linter.all false
namespace Go.Ab
open Go.Proofs
theorem touchC_swap {a b : Bx} (ha : allB vI a = true) (hb : allB vI b = true) : touchC a b = touchC b a := by
  rw [Bool.eq_iff_iff, touchC_vi ha hb, touchC_vi hb ha]
  constructor
  · exact fun ⟨h1, h2⟩ => ⟨h1.symm, fun i x y hx hy => (h2 i y x hy hx).symm⟩
  · exact fun ⟨h1, h2⟩ => ⟨h1.symm, fun i x y hx hy => (h2 i y x hy hx).symm⟩
theorem within_root {t : Tr} (hv : validT t = true) {i : Nat} (hi : i < t.cells.length) : withinL (boxAt t (i : Int)) t.root = true := by
  obtain ⟨_, b2, b3⟩ := boxAt_ok hv (c := (i : Int)) hi
  have hr := (sizeOk_iff.1 (valid_size hv)).2.2.2.2
  rw [withinL_eq]
  simp only [withinC, Bool.and_eq_true, decide_eq_true_eq, allZ_get]
  refine ⟨b2, fun j x y hx hy => ?_⟩
  have := box_within hv hi j x y hx hy
  have v1 : validB x.1 x.2 = true := allV_iff.1 b3 _ (List.mem_of_getElem? hx)
  have v2 : validB y.1 y.2 = true := allV_iff.1 hr _ (List.mem_of_getElem? hy)
  simp only [withinI, v1, v2, Bool.and_eq_true, decide_eq_true_eq, true_and]
  exact this
/-- In the inner part of a box that is apart from another one: not in that one. -/
theorem inside_apart {a b : Bx} {q : List Int} (vb : allB vI b = true) (h : apart a b) (hi : insideL a q = true) : hasC b q = false := by
  obtain ⟨j, x, y, h1, h2, h3⟩ := h
  cases hh : hasC b q with
  | false => rfl
  | true =>
    obtain ⟨l1, m1⟩ := (hasC_vi vb).1 hh
    have hj := (List.getElem?_eq_some_iff.1 h2).1
    have hq : q[j]? = some (q[j]'(by omega)) := List.getElem?_eq_getElem _
    have e1 := m1 j y _ h2 hq
    have e2 := (allZ_get.1 hi) j x _ h1 hq
    simp only [insideI, Bool.and_eq_true, decide_eq_true_eq] at e2
    omega
theorem inside_has {a : Bx} {q : List Int} (va : allB vI a = true) (hl : a.length = q.length) (hi : insideL a q = true) : hasC a q = true := by
  refine (hasC_vi va).2 ⟨hl, fun i x y hx hy => ?_⟩
  have := allZ_get.1 hi i x y hx hy
  simp only [insideI, Bool.and_eq_true, decide_eq_true_eq] at this
  omega
def tin (t : Tr) (q : List Int) (n : Nat) : List Nat := ((leavesL t).take n).filter (locP t q)
def tany (t : Tr) (q : List Int) (n : Nat) : Bool := ((leavesL t).take n).any fun e => insideL (boxAt t (e : Int)) q
theorem tin_succ {t : Tr} {q : List Int} {n e : Nat} (h : (leavesL t)[n]? = some e) : tin t q (n + 1) = if hasC (boxAt t (e : Int)) q then tin t q n ++ [e] else tin t q n := by
  unfold tin
  rw [take_one h, List.filter_append]
  have : locP t q e = hasC (boxAt t (e : Int)) q := rfl
  cases hh : hasC (boxAt t (e : Int)) q <;> simp [this, hh]
theorem tany_succ {t : Tr} {q : List Int} {n e : Nat} (h : (leavesL t)[n]? = some e) : tany t q (n + 1) = (tany t q n || insideL (boxAt t (e : Int)) q) := by
  unfold tany
  rw [take_one h, List.any_append]
  simp
theorem tin_all (t : Tr) (q : List Int) : tin t q (leavesL t).length = locL t q := by simp [tin, locL]
/-- A configuration in the inner part of some leaf is in that leaf alone. -/
theorem one_leaf {t : Tr} {q : List Int} (hql : q.length = t.root.length) (h : tany t q (leavesL t).length = true) : (locL t q).length = 1 := by
  simp only [tany, List.take_length, List.any_eq_true] at h
  obtain ⟨e, he, hi⟩ := h
  obtain ⟨i, hie⟩ := List.getElem?_of_mem he
  obtain ⟨hv, hle, hlt⟩ := leaf_at hie
  obtain ⟨_, b2, b3⟩ := boxAt_ok hv (c := (e : Int)) hlt
  have hme : e ∈ locL t q := List.mem_filter.2 ⟨he, inside_has b3 (by omega) hi⟩
  have hun : ∀ f ∈ locL t q, f = e := by
    intro f hf
    obtain ⟨h1, h2⟩ := List.mem_filter.1 hf
    obtain ⟨j, hjf⟩ := List.getElem?_of_mem h1
    obtain ⟨_, hlf, hltf⟩ := leaf_at hjf
    by_cases hne : e = f
    · exact hne.symm
    · have := inside_apart (boxAt_ok hv (c := (f : Int)) hltf).2.2 (leaves_apart hv hle hlf hne) hi
      unfold locP at h2
      rw [this] at h2; cases h2
  have hnd : (locL t q).Nodup := List.Pairwise.filter _ (leavesL_nodup t)
  match hL : locL t q with
  | [] => rw [hL] at hme; cases hme
  | [x] => rfl
  | x :: y :: r =>
    rw [hL] at hun hnd
    have e1 := hun x (by simp)
    have e2 := hun y (by simp)
    subst e1
    simp [e2] at hnd
set_option maxRecDepth 10000 in
set_option maxHeartbeats 16000000 in
theorem d4 (l m : List Int) : DetH Try.prog 4 [.pv (zs l), .pv (zs m)] [] [] (.pv (B true)) := by
  have hT := mkTree_ok l
  have ct := d21 l
  generalize mkTree l = t at *
  have hz := sizeOk_iff.1 (valid_size hT.valid)
  have h27 := hT.cells
  have cl := d27 t (by omega)
  have hle := leavesL_len t
  have ci := d26 t.root m (by omega) hz.2.2.2.2
  have hq := in_has (b := t.root) (l := m) hz.2.2.2.2
  have lq := inL_len t.root m
  generalize inL t.root m = q at *
  have ch := d32 t q (by omega) (by omega)
  have hok : homeOk t q = true := by simp [homeOk, hT.valid, hq]
  obtain ⟨o1, o2, o3⟩ := home_leaf hok
  have hre : homeR t q = ((homeS t q t.cells.length : Nat) : Int) := by simp [homeR, hok]
  rw [hok, hre] at ch
  generalize homeS t q t.cells.length = hm at *
  have hmem : hm ∈ locL t q := by
    obtain ⟨c, hc, hl, _⟩ := leafN_get o1
    exact List.mem_filter.2 ⟨leavesL_mem.2 ⟨hT.valid, c, hc, hl⟩, o2⟩
  have co := d34 t q (by omega)
  have hone := one_leaf (t := t) lq
  have hll : (locL t q).length ≤ 27 := by
    have := List.length_filter_le (locP t q) (leavesL t)
    unfold locL; omega
  have cs := d33 (locL t q) (locL t q) (by omega) (by omega)
  rw [decide_eq_true rfl] at cs
  refine detP_of Try.func4 rfl (by kernel_rfl) (by simp [Try.f4]) rfl ?_
  intro C hP hN
  simp only [Try.f4] at hN ⊢
  repeat' (first
    | with_reducible refine WP.seq ?_
    | (with_reducible ((first | refine WP.region (hn := [8]) ?_ | refine xC_intro (ct) ?_ | refine xC_intro (cl) ?_ | refine xC_intro (ci) ?_ | refine WP.cond' ?_); simp -implicitDefEqProofs (maxSteps := 2000000) [hP, hN]))
    | (with_reducible ((first | refine WP.draw (hn := [8]) (by rw [hP]; kernel_rfl) (by kernel_rfl) ?_ | refine yC_intro (ct) ?_ | refine yC_intro (cl) ?_ | refine yC_intro (ci) ?_); simp -implicitDefEqProofs (maxSteps := 2000000) [hP, hN]; (try refine ⟨by kernel_rfl, ?_⟩)))
    | (with_reducible refine xB_split (by simp) (fun hgd => ?_) (fun hgd => ?_) <;> first | (exfalso; simp at hgd; done) | (exfalso; simp at hgd; omega) | simp -implicitDefEqProofs (maxSteps := 2000000) [hP, hN])
    | (with_reducible refine yB_split (by simp) (fun hgd => ?_) (fun hgd => ?_) <;> first | (exfalso; simp at hgd; done) | (exfalso; simp at hgd; omega) | (simp -implicitDefEqProofs (maxSteps := 2000000) [hP, hN] <;> (try refine ⟨by kernel_rfl, ?_⟩)))
    | with_reducible refine xTwo_intro ?_ ?_
    | (with_reducible refine xCond_split (fun hcd => ?_) (fun hcd => ?_) <;> (try (exfalso; clear hP hN; simp_all; done)) <;> (try (exfalso; simp at *; omega)))
    | with_reducible refine WP.block ?_
    | (with_reducible ((first | refine WP.skip ?_ | refine WP.exit ?_ | refine WP.ret ?_); simp)))
  refine WP.loopN [] (leavesL t).length (fun i st => st.t 5 = .ptr 5 0 ∧ st.t 6 = .pv (zs q) ∧ st.t 7 = .pv (nsS (leavesL t)) ∧ st.t 8 = .arr 8 (tin t q i).length ∧ st.t 9 = .pv (B (tany t q i)) ∧ st.t 10 = .pv (Z i) ∧ st.h 5 = some (.box [.pv (iv t.root), .pv (.sl (t.cells.map encC))] true false) ∧ st.h 8 = some (.row 3 1 ((tin t q i).map zN') 0)) (by simp [tin, tany]) ?_
  rintro i st hi ⟨g5, g6, g7, g8, g9, g10, hb5, hb8⟩
  by_cases hlt : i < (leavesL t).length
  · have hw := wr_succ hlt (by omega)
    have hel := List.getElem?_eq_getElem hlt
    have hs := tin_succ (q := q) hel
    have ha := tany_succ (q := q) hel
    obtain ⟨_, e1, e2⟩ := leaf_at hel
    have htl : (tin t q i).length ≤ 27 := by
      have := List.length_filter_le (locP t q) ((leavesL t).take i)
      rw [List.length_take] at this
      unfold tin; omega
    generalize hee : (leavesL t)[i] = e at *
    have cb := d28 t e (by omega)
    rw [(boxOf_yes hT.valid e2).1, (boxOf_yes hT.valid e2).2] at cb
    have hwr := within_root hT.valid e2
    obtain ⟨_, b2, b3⟩ := boxAt_ok hT.valid (c := (e : Int)) e2
    generalize boxAt t (e : Int) = b at *
    have c1 := d29 b t.root (by omega) (by omega)
    rw [hwr] at c1
    have c2 := d30 b q (by omega) (by omega)
    rw [hasL_eq] at c2
    have c3 := d31 b q (by omega) (by omega)
    generalize tany t q i = fl at *
    rw [ha]
    generalize insideL b q = fi at *
    cases hh : hasC b q with
    | false =>
      rw [hh] at c2 hs
      rw [if_neg (by simp)] at hs
      cases fl
      · skip
        repeat' (first
          | with_reducible refine WP.seq ?_
          | (with_reducible ((first | refine WP.region (hn := []) ?_ | refine xC_intro (cb) ?_ | refine xC_intro (c1) ?_ | refine xC_intro (c2) ?_ | refine xC_intro (c3) ?_ | refine WP.cond' ?_); simp -implicitDefEqProofs (maxSteps := 2000000) [hP, hN, g5, g6, g7, g8, g9, g10, hb5, hb8, hlt, hel, hee, hw]))
          | (with_reducible ((first | refine WP.draw (hn := []) (by rw [hP]; kernel_rfl) (by kernel_rfl) ?_ | refine yC_intro (cb) ?_ | refine yC_intro (c1) ?_ | refine yC_intro (c2) ?_ | refine yC_intro (c3) ?_); simp -implicitDefEqProofs (maxSteps := 2000000) [hP, hN, g5, g6, g7, g8, g9, g10, hb5, hb8, hlt, hel, hee, hw]; (try refine ⟨by kernel_rfl, ?_⟩)))
          | (with_reducible refine xB_split (by simp [g5, g6, g7, g8, g9, g10, hb5, hb8, hlt, hel, hee, hw]) (fun hgd => ?_) (fun hgd => ?_) <;> first | (exfalso; simp at hgd; done) | (exfalso; simp at hgd; omega) | simp -implicitDefEqProofs (maxSteps := 2000000) [hP, hN, g5, g6, g7, g8, g9, g10, hb5, hb8, hlt, hel, hee, hw])
          | (with_reducible refine yB_split (by simp [g5, g6, g7, g8, g9, g10, hb5, hb8, hlt, hel, hee, hw]) (fun hgd => ?_) (fun hgd => ?_) <;> first | (exfalso; simp at hgd; done) | (exfalso; simp at hgd; omega) | (simp -implicitDefEqProofs (maxSteps := 2000000) [hP, hN, g5, g6, g7, g8, g9, g10, hb5, hb8, hlt, hel, hee, hw] <;> (try refine ⟨by kernel_rfl, ?_⟩)))
          | with_reducible refine xTwo_intro ?_ ?_
          | (with_reducible refine xCond_split (fun hcd => ?_) (fun hcd => ?_) <;> (try (exfalso; clear hP hN; simp_all; done)) <;> (try (exfalso; simp at *; omega)))
          | with_reducible refine WP.block ?_
          | (with_reducible ((first | refine WP.skip ?_ | refine WP.exit ?_ | refine WP.ret ?_); simp [g5, g6, g7, g8, g9, g10, hb5, hb8, hlt, hel, hee, hw])))
        all_goals simp [hs]
      · skip
        repeat' (first
          | with_reducible refine WP.seq ?_
          | (with_reducible ((first | refine WP.region (hn := []) ?_ | refine xC_intro (cb) ?_ | refine xC_intro (c1) ?_ | refine xC_intro (c2) ?_ | refine xC_intro (c3) ?_ | refine WP.cond' ?_); simp -implicitDefEqProofs (maxSteps := 2000000) [hP, hN, g5, g6, g7, g8, g9, g10, hb5, hb8, hlt, hel, hee, hw]))
          | (with_reducible ((first | refine WP.draw (hn := []) (by rw [hP]; kernel_rfl) (by kernel_rfl) ?_ | refine yC_intro (cb) ?_ | refine yC_intro (c1) ?_ | refine yC_intro (c2) ?_ | refine yC_intro (c3) ?_); simp -implicitDefEqProofs (maxSteps := 2000000) [hP, hN, g5, g6, g7, g8, g9, g10, hb5, hb8, hlt, hel, hee, hw]; (try refine ⟨by kernel_rfl, ?_⟩)))
          | (with_reducible refine xB_split (by simp [g5, g6, g7, g8, g9, g10, hb5, hb8, hlt, hel, hee, hw]) (fun hgd => ?_) (fun hgd => ?_) <;> first | (exfalso; simp at hgd; done) | (exfalso; simp at hgd; omega) | simp -implicitDefEqProofs (maxSteps := 2000000) [hP, hN, g5, g6, g7, g8, g9, g10, hb5, hb8, hlt, hel, hee, hw])
          | (with_reducible refine yB_split (by simp [g5, g6, g7, g8, g9, g10, hb5, hb8, hlt, hel, hee, hw]) (fun hgd => ?_) (fun hgd => ?_) <;> first | (exfalso; simp at hgd; done) | (exfalso; simp at hgd; omega) | (simp -implicitDefEqProofs (maxSteps := 2000000) [hP, hN, g5, g6, g7, g8, g9, g10, hb5, hb8, hlt, hel, hee, hw] <;> (try refine ⟨by kernel_rfl, ?_⟩)))
          | with_reducible refine xTwo_intro ?_ ?_
          | (with_reducible refine xCond_split (fun hcd => ?_) (fun hcd => ?_) <;> (try (exfalso; clear hP hN; simp_all; done)) <;> (try (exfalso; simp at *; omega)))
          | with_reducible refine WP.block ?_
          | (with_reducible ((first | refine WP.skip ?_ | refine WP.exit ?_ | refine WP.ret ?_); simp [g5, g6, g7, g8, g9, g10, hb5, hb8, hlt, hel, hee, hw])))
        all_goals simp [hs]
    | true =>
      rw [hh] at c2 hs
      rw [if_pos rfl] at hs
      cases fl
      · skip
        repeat' (first
          | with_reducible refine WP.seq ?_
          | (with_reducible ((first | refine WP.region (hn := []) ?_ | refine xC_intro (cb) ?_ | refine xC_intro (c1) ?_ | refine xC_intro (c2) ?_ | refine xC_intro (c3) ?_ | refine WP.cond' ?_); simp -implicitDefEqProofs (maxSteps := 2000000) [hP, hN, g5, g6, g7, g8, g9, g10, hb5, hb8, hlt, hel, hee, hw, show ((tin t q i).length + 1) * 8 ≤ 140737488355328 by omega, show (tin t q i).length + 1 ≤ 9223372036854775807 by omega]))
          | (with_reducible ((first | refine WP.draw (hn := []) (by rw [hP]; kernel_rfl) (by kernel_rfl) ?_ | refine yC_intro (cb) ?_ | refine yC_intro (c1) ?_ | refine yC_intro (c2) ?_ | refine yC_intro (c3) ?_); simp -implicitDefEqProofs (maxSteps := 2000000) [hP, hN, g5, g6, g7, g8, g9, g10, hb5, hb8, hlt, hel, hee, hw, show ((tin t q i).length + 1) * 8 ≤ 140737488355328 by omega, show (tin t q i).length + 1 ≤ 9223372036854775807 by omega]; (try refine ⟨by kernel_rfl, ?_⟩)))
          | (with_reducible refine xB_split (by simp [g5, g6, g7, g8, g9, g10, hb5, hb8, hlt, hel, hee, hw, show ((tin t q i).length + 1) * 8 ≤ 140737488355328 by omega, show (tin t q i).length + 1 ≤ 9223372036854775807 by omega]) (fun hgd => ?_) (fun hgd => ?_) <;> first | (exfalso; simp at hgd; done) | (exfalso; simp at hgd; omega) | simp -implicitDefEqProofs (maxSteps := 2000000) [hP, hN, g5, g6, g7, g8, g9, g10, hb5, hb8, hlt, hel, hee, hw, show ((tin t q i).length + 1) * 8 ≤ 140737488355328 by omega, show (tin t q i).length + 1 ≤ 9223372036854775807 by omega])
          | (with_reducible refine yB_split (by simp [g5, g6, g7, g8, g9, g10, hb5, hb8, hlt, hel, hee, hw, show ((tin t q i).length + 1) * 8 ≤ 140737488355328 by omega, show (tin t q i).length + 1 ≤ 9223372036854775807 by omega]) (fun hgd => ?_) (fun hgd => ?_) <;> first | (exfalso; simp at hgd; done) | (exfalso; simp at hgd; omega) | (simp -implicitDefEqProofs (maxSteps := 2000000) [hP, hN, g5, g6, g7, g8, g9, g10, hb5, hb8, hlt, hel, hee, hw, show ((tin t q i).length + 1) * 8 ≤ 140737488355328 by omega, show (tin t q i).length + 1 ≤ 9223372036854775807 by omega] <;> (try refine ⟨by kernel_rfl, ?_⟩)))
          | with_reducible refine xTwo_intro ?_ ?_
          | (with_reducible refine xCond_split (fun hcd => ?_) (fun hcd => ?_) <;> (try (exfalso; clear hP hN; simp_all; done)) <;> (try (exfalso; simp at *; omega)))
          | with_reducible refine WP.block ?_
          | (with_reducible ((first | refine WP.skip ?_ | refine WP.exit ?_ | refine WP.ret ?_); simp [g5, g6, g7, g8, g9, g10, hb5, hb8, hlt, hel, hee, hw, show ((tin t q i).length + 1) * 8 ≤ 140737488355328 by omega, show (tin t q i).length + 1 ≤ 9223372036854775807 by omega])))
        all_goals simp [hs]
      · skip
        repeat' (first
          | with_reducible refine WP.seq ?_
          | (with_reducible ((first | refine WP.region (hn := []) ?_ | refine xC_intro (cb) ?_ | refine xC_intro (c1) ?_ | refine xC_intro (c2) ?_ | refine xC_intro (c3) ?_ | refine WP.cond' ?_); simp -implicitDefEqProofs (maxSteps := 2000000) [hP, hN, g5, g6, g7, g8, g9, g10, hb5, hb8, hlt, hel, hee, hw, show ((tin t q i).length + 1) * 8 ≤ 140737488355328 by omega, show (tin t q i).length + 1 ≤ 9223372036854775807 by omega]))
          | (with_reducible ((first | refine WP.draw (hn := []) (by rw [hP]; kernel_rfl) (by kernel_rfl) ?_ | refine yC_intro (cb) ?_ | refine yC_intro (c1) ?_ | refine yC_intro (c2) ?_ | refine yC_intro (c3) ?_); simp -implicitDefEqProofs (maxSteps := 2000000) [hP, hN, g5, g6, g7, g8, g9, g10, hb5, hb8, hlt, hel, hee, hw, show ((tin t q i).length + 1) * 8 ≤ 140737488355328 by omega, show (tin t q i).length + 1 ≤ 9223372036854775807 by omega]; (try refine ⟨by kernel_rfl, ?_⟩)))
          | (with_reducible refine xB_split (by simp [g5, g6, g7, g8, g9, g10, hb5, hb8, hlt, hel, hee, hw, show ((tin t q i).length + 1) * 8 ≤ 140737488355328 by omega, show (tin t q i).length + 1 ≤ 9223372036854775807 by omega]) (fun hgd => ?_) (fun hgd => ?_) <;> first | (exfalso; simp at hgd; done) | (exfalso; simp at hgd; omega) | simp -implicitDefEqProofs (maxSteps := 2000000) [hP, hN, g5, g6, g7, g8, g9, g10, hb5, hb8, hlt, hel, hee, hw, show ((tin t q i).length + 1) * 8 ≤ 140737488355328 by omega, show (tin t q i).length + 1 ≤ 9223372036854775807 by omega])
          | (with_reducible refine yB_split (by simp [g5, g6, g7, g8, g9, g10, hb5, hb8, hlt, hel, hee, hw, show ((tin t q i).length + 1) * 8 ≤ 140737488355328 by omega, show (tin t q i).length + 1 ≤ 9223372036854775807 by omega]) (fun hgd => ?_) (fun hgd => ?_) <;> first | (exfalso; simp at hgd; done) | (exfalso; simp at hgd; omega) | (simp -implicitDefEqProofs (maxSteps := 2000000) [hP, hN, g5, g6, g7, g8, g9, g10, hb5, hb8, hlt, hel, hee, hw, show ((tin t q i).length + 1) * 8 ≤ 140737488355328 by omega, show (tin t q i).length + 1 ≤ 9223372036854775807 by omega] <;> (try refine ⟨by kernel_rfl, ?_⟩)))
          | with_reducible refine xTwo_intro ?_ ?_
          | (with_reducible refine xCond_split (fun hcd => ?_) (fun hcd => ?_) <;> (try (exfalso; clear hP hN; simp_all; done)) <;> (try (exfalso; simp at *; omega)))
          | with_reducible refine WP.block ?_
          | (with_reducible ((first | refine WP.skip ?_ | refine WP.exit ?_ | refine WP.ret ?_); simp [g5, g6, g7, g8, g9, g10, hb5, hb8, hlt, hel, hee, hw, show ((tin t q i).length + 1) * 8 ≤ 140737488355328 by omega, show (tin t q i).length + 1 ≤ 9223372036854775807 by omega])))
        all_goals simp [hs]
  · have hi' : i = (leavesL t).length := by omega
    subst hi'
    rw [tin_all] at g8 hb8
    generalize tany t q (leavesL t).length = fl at *
    generalize locL t q = lo at *
    repeat' (first
      | with_reducible refine WP.seq ?_
      | (with_reducible ((first | refine WP.region (hn := []) ?_ | refine xC_intro (ch) ?_ | refine WP.cond' ?_); simp -implicitDefEqProofs (maxSteps := 2000000) [hP, hN, g5, g6, g7, g8, g9, g10, hb5, hb8, hlt]))
      | (with_reducible ((first | refine WP.draw (hn := []) (by rw [hP]; kernel_rfl) (by kernel_rfl) ?_ | refine yC_intro (ch) ?_); simp -implicitDefEqProofs (maxSteps := 2000000) [hP, hN, g5, g6, g7, g8, g9, g10, hb5, hb8, hlt]; (try refine ⟨by kernel_rfl, ?_⟩)))
      | (with_reducible refine xB_split (by simp [g5, g6, g7, g8, g9, g10, hb5, hb8, hlt]) (fun hgd => ?_) (fun hgd => ?_) <;> first | (exfalso; simp at hgd; done) | (exfalso; simp at hgd; omega) | simp -implicitDefEqProofs (maxSteps := 2000000) [hP, hN, g5, g6, g7, g8, g9, g10, hb5, hb8, hlt])
      | (with_reducible refine yB_split (by simp [g5, g6, g7, g8, g9, g10, hb5, hb8, hlt]) (fun hgd => ?_) (fun hgd => ?_) <;> first | (exfalso; simp at hgd; done) | (exfalso; simp at hgd; omega) | (simp -implicitDefEqProofs (maxSteps := 2000000) [hP, hN, g5, g6, g7, g8, g9, g10, hb5, hb8, hlt] <;> (try refine ⟨by kernel_rfl, ?_⟩)))
      | with_reducible refine xTwo_intro ?_ ?_
      | (with_reducible refine xCond_split (fun hcd => ?_) (fun hcd => ?_) <;> (try (exfalso; clear hP hN; simp_all; done)) <;> (try (exfalso; simp at *; omega)))
      | with_reducible refine WP.block ?_
      | (with_reducible ((first | refine WP.skip ?_ | refine WP.exit ?_ | refine WP.ret ?_); simp [g5, g6, g7, g8, g9, g10, hb5, hb8, hlt])))
    refine WP.loopN [] lo.length (fun j st => st.t 5 = .ptr 5 0 ∧ st.t 6 = .pv (zs q) ∧ st.t 8 = .arr 8 lo.length ∧ st.t 9 = .pv (B fl) ∧ st.t 13 = .pv (Z hm) ∧ st.t 14 = .pv (B true) ∧ st.t 15 = .pv (B (decide (hm ∈ lo.take j))) ∧ st.t 16 = .pv (Z j) ∧ st.h 5 = some (.box [.pv (iv t.root), .pv (.sl (t.cells.map encC))] true false) ∧ st.h 8 = some (.row 3 1 (lo.map zN') 0)) (by simp [g5, g6, g8, g9, hb5, hb8]) ?_
    rintro j st hj ⟨g5, g6, g8, g9, g13, g14, g15, g16, hb5, hb8⟩
    by_cases hlt : j < lo.length
    · have hw := wr_succ hlt (by omega)
      have hst : decide (hm ∈ lo.take (j + 1)) = (decide (hm ∈ lo.take j) || ((lo[j] : Int) == (hm : Int))) := by
        rw [List.take_succ_eq_append_getElem hlt, Bool.eq_iff_iff]
        simp only [List.mem_append, List.mem_singleton, Bool.or_eq_true, decide_eq_true_eq, beq_iff_eq]
        constructor
        · rintro (h | h)
          · exact .inl h
          · exact .inr (by omega)
        · rintro (h | h)
          · exact .inl h
          · exact .inr (by omega)
      rw [hst]
      generalize decide (hm ∈ lo.take j) = f1 at *
      generalize hxe : ((lo[j] : Int) == (hm : Int)) = f2 at *
      cases f1
      · skip
        repeat' (first
          | with_reducible refine WP.seq ?_
          | (with_reducible ((first | refine WP.region (hn := []) ?_ | refine WP.cond' ?_); simp -implicitDefEqProofs (maxSteps := 2000000) [hP, hN, g5, g6, g8, g9, g13, g14, g15, g16, hb5, hb8, hlt, hw, hxe]))
          | (with_reducible ((first | refine WP.draw (hn := []) (by rw [hP]; kernel_rfl) (by kernel_rfl) ?_); simp -implicitDefEqProofs (maxSteps := 2000000) [hP, hN, g5, g6, g8, g9, g13, g14, g15, g16, hb5, hb8, hlt, hw, hxe]; (try refine ⟨by kernel_rfl, ?_⟩)))
          | (with_reducible refine xB_split (by simp [g5, g6, g8, g9, g13, g14, g15, g16, hb5, hb8, hlt, hw, hxe]) (fun hgd => ?_) (fun hgd => ?_) <;> first | (exfalso; simp at hgd; done) | (exfalso; simp at hgd; omega) | simp -implicitDefEqProofs (maxSteps := 2000000) [hP, hN, g5, g6, g8, g9, g13, g14, g15, g16, hb5, hb8, hlt, hw, hxe])
          | (with_reducible refine yB_split (by simp [g5, g6, g8, g9, g13, g14, g15, g16, hb5, hb8, hlt, hw, hxe]) (fun hgd => ?_) (fun hgd => ?_) <;> first | (exfalso; simp at hgd; done) | (exfalso; simp at hgd; omega) | (simp -implicitDefEqProofs (maxSteps := 2000000) [hP, hN, g5, g6, g8, g9, g13, g14, g15, g16, hb5, hb8, hlt, hw, hxe] <;> (try refine ⟨by kernel_rfl, ?_⟩)))
          | with_reducible refine xTwo_intro ?_ ?_
          | (with_reducible refine xCond_split (fun hcd => ?_) (fun hcd => ?_) <;> (try (exfalso; clear hP hN; simp_all; done)) <;> (try (exfalso; simp at *; omega)))
          | with_reducible refine WP.block ?_
          | (with_reducible ((first | refine WP.skip ?_ | refine WP.exit ?_ | refine WP.ret ?_); simp [g5, g6, g8, g9, g13, g14, g15, g16, hb5, hb8, hlt, hw, hxe])))
      · skip
        repeat' (first
          | with_reducible refine WP.seq ?_
          | (with_reducible ((first | refine WP.region (hn := []) ?_ | refine WP.cond' ?_); simp -implicitDefEqProofs (maxSteps := 2000000) [hP, hN, g5, g6, g8, g9, g13, g14, g15, g16, hb5, hb8, hlt, hw, hxe]))
          | (with_reducible ((first | refine WP.draw (hn := []) (by rw [hP]; kernel_rfl) (by kernel_rfl) ?_); simp -implicitDefEqProofs (maxSteps := 2000000) [hP, hN, g5, g6, g8, g9, g13, g14, g15, g16, hb5, hb8, hlt, hw, hxe]; (try refine ⟨by kernel_rfl, ?_⟩)))
          | (with_reducible refine xB_split (by simp [g5, g6, g8, g9, g13, g14, g15, g16, hb5, hb8, hlt, hw, hxe]) (fun hgd => ?_) (fun hgd => ?_) <;> first | (exfalso; simp at hgd; done) | (exfalso; simp at hgd; omega) | simp -implicitDefEqProofs (maxSteps := 2000000) [hP, hN, g5, g6, g8, g9, g13, g14, g15, g16, hb5, hb8, hlt, hw, hxe])
          | (with_reducible refine yB_split (by simp [g5, g6, g8, g9, g13, g14, g15, g16, hb5, hb8, hlt, hw, hxe]) (fun hgd => ?_) (fun hgd => ?_) <;> first | (exfalso; simp at hgd; done) | (exfalso; simp at hgd; omega) | (simp -implicitDefEqProofs (maxSteps := 2000000) [hP, hN, g5, g6, g8, g9, g13, g14, g15, g16, hb5, hb8, hlt, hw, hxe] <;> (try refine ⟨by kernel_rfl, ?_⟩)))
          | with_reducible refine xTwo_intro ?_ ?_
          | (with_reducible refine xCond_split (fun hcd => ?_) (fun hcd => ?_) <;> (try (exfalso; clear hP hN; simp_all; done)) <;> (try (exfalso; simp at *; omega)))
          | with_reducible refine WP.block ?_
          | (with_reducible ((first | refine WP.skip ?_ | refine WP.exit ?_ | refine WP.ret ?_); simp [g5, g6, g8, g9, g13, g14, g15, g16, hb5, hb8, hlt, hw, hxe])))
    · have hj' : j = lo.length := by omega
      subst hj'
      rw [List.take_length, decide_eq_true hmem] at g15
      cases fl
      · skip
        repeat' (first
          | with_reducible refine WP.seq ?_
          | (with_reducible ((first | refine WP.region (hn := []) ?_ | refine xC_intro (d20) ?_ | refine xC_intro (co) ?_ | refine xC_intro (cs) ?_ | refine WP.cond' ?_); simp -implicitDefEqProofs (maxSteps := 2000000) [hP, hN, g5, g6, g8, g9, g13, g14, g15, g16, hb5, hb8, hlt]))
          | (with_reducible ((first | refine WP.draw (hn := []) (by rw [hP]; kernel_rfl) (by kernel_rfl) ?_ | refine yC_intro (d20) ?_ | refine yC_intro (co) ?_ | refine yC_intro (cs) ?_); simp -implicitDefEqProofs (maxSteps := 2000000) [hP, hN, g5, g6, g8, g9, g13, g14, g15, g16, hb5, hb8, hlt]; (try refine ⟨by kernel_rfl, ?_⟩)))
          | (with_reducible refine xB_split (by simp [g5, g6, g8, g9, g13, g14, g15, g16, hb5, hb8, hlt]) (fun hgd => ?_) (fun hgd => ?_) <;> first | (exfalso; simp at hgd; done) | (exfalso; simp at hgd; omega) | simp -implicitDefEqProofs (maxSteps := 2000000) [hP, hN, g5, g6, g8, g9, g13, g14, g15, g16, hb5, hb8, hlt])
          | (with_reducible refine yB_split (by simp [g5, g6, g8, g9, g13, g14, g15, g16, hb5, hb8, hlt]) (fun hgd => ?_) (fun hgd => ?_) <;> first | (exfalso; simp at hgd; done) | (exfalso; simp at hgd; omega) | (simp -implicitDefEqProofs (maxSteps := 2000000) [hP, hN, g5, g6, g8, g9, g13, g14, g15, g16, hb5, hb8, hlt] <;> (try refine ⟨by kernel_rfl, ?_⟩)))
          | with_reducible refine xTwo_intro ?_ ?_
          | (with_reducible refine xCond_split (fun hcd => ?_) (fun hcd => ?_) <;> (try (exfalso; clear hP hN; simp_all; done)) <;> (try (exfalso; simp at *; omega)))
          | with_reducible refine WP.block ?_
          | (with_reducible ((first | refine WP.skip ?_ | refine WP.exit ?_ | refine WP.ret ?_); simp [g5, g6, g8, g9, g13, g14, g15, g16, hb5, hb8, hlt])))
      · have h1 := hone rfl
        repeat' (first
          | with_reducible refine WP.seq ?_
          | (with_reducible ((first | refine WP.region (hn := []) ?_ | refine xC_intro (d20) ?_ | refine xC_intro (co) ?_ | refine xC_intro (cs) ?_ | refine WP.cond' ?_); simp -implicitDefEqProofs (maxSteps := 2000000) [hP, hN, g5, g6, g8, g9, g13, g14, g15, g16, hb5, hb8, hlt, h1]))
          | (with_reducible ((first | refine WP.draw (hn := []) (by rw [hP]; kernel_rfl) (by kernel_rfl) ?_ | refine yC_intro (d20) ?_ | refine yC_intro (co) ?_ | refine yC_intro (cs) ?_); simp -implicitDefEqProofs (maxSteps := 2000000) [hP, hN, g5, g6, g8, g9, g13, g14, g15, g16, hb5, hb8, hlt, h1]; (try refine ⟨by kernel_rfl, ?_⟩)))
          | (with_reducible refine xB_split (by simp [g5, g6, g8, g9, g13, g14, g15, g16, hb5, hb8, hlt, h1]) (fun hgd => ?_) (fun hgd => ?_) <;> first | (exfalso; simp at hgd; done) | (exfalso; simp at hgd; omega) | simp -implicitDefEqProofs (maxSteps := 2000000) [hP, hN, g5, g6, g8, g9, g13, g14, g15, g16, hb5, hb8, hlt, h1])
          | (with_reducible refine yB_split (by simp [g5, g6, g8, g9, g13, g14, g15, g16, hb5, hb8, hlt, h1]) (fun hgd => ?_) (fun hgd => ?_) <;> first | (exfalso; simp at hgd; done) | (exfalso; simp at hgd; omega) | (simp -implicitDefEqProofs (maxSteps := 2000000) [hP, hN, g5, g6, g8, g9, g13, g14, g15, g16, hb5, hb8, hlt, h1] <;> (try refine ⟨by kernel_rfl, ?_⟩)))
          | with_reducible refine xTwo_intro ?_ ?_
          | (with_reducible refine xCond_split (fun hcd => ?_) (fun hcd => ?_) <;> (try (exfalso; clear hP hN; simp_all; done)) <;> (try (exfalso; simp at *; omega)))
          | with_reducible refine WP.block ?_
          | (with_reducible ((first | refine WP.skip ?_ | refine WP.exit ?_ | refine WP.ret ?_); simp [g5, g6, g8, g9, g13, g14, g15, g16, hb5, hb8, hlt, h1])))
end Go.Ab
