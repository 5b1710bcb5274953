/- Contracts: chains and their points. -/
import Derived.Test.YtagmnknighofeaaTr8
set_option linter.all false
namespace Go.Ab
open Go.Proofs
theorem d107 (t : Tr) (chain p q : List Int) (hl : t.cells.length ≤ 9223372036854775807) (hr : t.root.length ≤ 9223372036854775807) (hk : chain.length ≤ 16777216) : DetH Try.prog 107 [.pv (encT t), .pv (zs chain), .pv (zs p), .pv (zs q)] [] [] (.pv (B (chainOk t chain p q))) := by
  have cb := d113 t chain p q hl hr hk
  refine detP_of Try.func107 rfl (by kernel_rfl) (by simp [Try.f107]) rfl ?_
  intro C hP hN
  simp only [Try.f107] at hN ⊢
  repeat' (first
    | with_reducible refine WP.seq ?_
    | (with_reducible ((first | refine WP.region (hn := []) ?_ | refine xC_intro (cb) ?_ | refine WP.cond' ?_); simp -implicitDefEqProofs (maxSteps := 2000000) [hP, hN]))
    | (with_reducible ((first | refine WP.draw (hn := []) (by rw [hP]; kernel_rfl) (by kernel_rfl) ?_ | refine yC_intro (cb) ?_); simp -implicitDefEqProofs (maxSteps := 2000000) [hP, hN]; (try refine ⟨by kernel_rfl, ?_⟩)))
    | (with_reducible refine xB_split (by simp) (fun hgd => ?_) (fun hgd => ?_) <;> first | (exfalso; simp at hgd; done) | (exfalso; simp at hgd; omega) | simp -implicitDefEqProofs (maxSteps := 2000000) [hP, hN])
    | (with_reducible refine yB_split (by simp) (fun hgd => ?_) (fun hgd => ?_) <;> first | (exfalso; simp at hgd; done) | (exfalso; simp at hgd; omega) | (simp -implicitDefEqProofs (maxSteps := 2000000) [hP, hN] <;> (try refine ⟨by kernel_rfl, ?_⟩)))
    | with_reducible refine xTwo_intro ?_ ?_
    | (with_reducible refine xCond_split (fun hcd => ?_) (fun hcd => ?_) <;> (try (exfalso; clear hP hN; simp_all; done)) <;> (try (exfalso; simp at *; omega)))
    | with_reducible refine WP.block ?_
    | (with_reducible ((first | refine WP.skip ?_ | refine WP.exit ?_ | refine WP.ret ?_); simp)))
theorem chOk_pre {t : Tr} {chain p q : List Int} (h : chainOk t chain p q = true) : ChOk t chain p q ∧ chEnds t chain p q = true := by
  simp only [chainOk, Bool.and_eq_true] at h
  exact ⟨chPre_iff.1 h.1, h.2⟩
theorem range_step {α : Type} (f : Nat → α) (n : Nat) : (List.range n).map f ++ [f n] = (List.range (n + 1)).map f := by simp [List.range_succ]
abbrev zp (t : Tr) (chain p : List Int) (k : Nat) : PV := zs (ptS t chain p k)
theorem pts_eq {t : Tr} {chain p q : List Int} (h : chainOk t chain p q = true) : (ptsL t chain p q).map zs = (List.range chain.length).map (zp t chain p) ++ [zs q] := by
  simp [ptsL, h]
set_option maxRecDepth 10000 in
set_option maxHeartbeats 8000000 in
theorem d51 (t : Tr) (chain p q : List Int) (hl : t.cells.length ≤ 9223372036854775807) (hr : t.root.length ≤ 9223372036854775807) (hk : chain.length ≤ 1000000) : DetH Try.prog 51 [.pv (encT t), .pv (zs chain), .pv (zs p), .pv (zs q)] [] [] (.pv (.tup [.sl ((ptsL t chain p q).map zs), B (chainOk t chain p q)])) := by
  have cb := d113 t chain p q hl hr (by omega)
  cases hok : chainOk t chain p q with
  | false =>
    rw [hok] at cb
    have e : ptsL t chain p q = [] := by simp [ptsL, hok]
    rw [e]
    refine detP_of Try.func51 rfl (by kernel_rfl) (by simp [Try.f51]) rfl ?_
    intro C hP hN
    simp only [Try.f51] at hN ⊢
    repeat' (first
      | with_reducible refine WP.seq ?_
      | (with_reducible ((first | refine WP.region (hn := []) ?_ | refine xC_intro (cb) ?_ | refine WP.cond' ?_); simp -implicitDefEqProofs (maxSteps := 2000000) [hP, hN]))
      | (with_reducible ((first | refine WP.draw (hn := []) (by rw [hP]; kernel_rfl) (by kernel_rfl) ?_ | refine yC_intro (cb) ?_); simp -implicitDefEqProofs (maxSteps := 2000000) [hP, hN]; (try refine ⟨by kernel_rfl, ?_⟩)))
      | (with_reducible refine xB_split (by simp) (fun hgd => ?_) (fun hgd => ?_) <;> first | (exfalso; simp at hgd; done) | (exfalso; simp at hgd; omega) | simp -implicitDefEqProofs (maxSteps := 2000000) [hP, hN])
      | (with_reducible refine yB_split (by simp) (fun hgd => ?_) (fun hgd => ?_) <;> first | (exfalso; simp at hgd; done) | (exfalso; simp at hgd; omega) | (simp -implicitDefEqProofs (maxSteps := 2000000) [hP, hN] <;> (try refine ⟨by kernel_rfl, ?_⟩)))
      | with_reducible refine xTwo_intro ?_ ?_
      | (with_reducible refine xCond_split (fun hcd => ?_) (fun hcd => ?_) <;> (try (exfalso; clear hP hN; simp_all; done)) <;> (try (exfalso; simp at *; omega)))
      | with_reducible refine WP.block ?_
      | (with_reducible ((first | refine WP.skip ?_ | refine WP.exit ?_ | refine WP.ret ?_); simp)))
  | true =>
    rw [hok] at cb
    obtain ⟨hC, _⟩ := chOk_pre hok
    have hpos := List.length_pos_iff.2 hC.ne
    have hz := sizeOk_iff.1 (valid_size hC.valid)
    have hpl := hC.plen
    have hql : q.length = t.root.length := by
      have := hC.hq
      simp only [hasC, Bool.and_eq_true, decide_eq_true_eq] at this
      exact this.1.symm
    have e1 : (chBoxes t chain p q).map iv = chain.map (ivA t) := by simp [chBoxes, chPre_iff.2 hC]
    rw [e1] at cb
    rw [pts_eq hok]
    have c1 := d114 p (by omega)
    have c2 := d114 q (by omega)
    refine detP_of Try.func51 rfl (by kernel_rfl) (by simp [Try.f51]) rfl ?_
    intro C hP hN
    simp only [Try.f51] at hN ⊢
    repeat' (first
      | with_reducible refine WP.seq ?_
      | (with_reducible ((first | refine WP.region (hn := [27]) ?_ | refine xC_intro (cb) ?_ | refine xC_intro (c1) ?_ | refine WP.cond' ?_); simp -implicitDefEqProofs (maxSteps := 2000000) [hP, hN]))
      | (with_reducible ((first | refine WP.draw (hn := [27]) (by rw [hP]; kernel_rfl) (by kernel_rfl) ?_ | refine yC_intro (cb) ?_ | refine yC_intro (c1) ?_); simp -implicitDefEqProofs (maxSteps := 2000000) [hP, hN]; (try refine ⟨by kernel_rfl, ?_⟩)))
      | (with_reducible refine xB_split (by simp) (fun hgd => ?_) (fun hgd => ?_) <;> first | (exfalso; simp at hgd; done) | (exfalso; simp at hgd; omega) | simp -implicitDefEqProofs (maxSteps := 2000000) [hP, hN])
      | (with_reducible refine yB_split (by simp) (fun hgd => ?_) (fun hgd => ?_) <;> first | (exfalso; simp at hgd; done) | (exfalso; simp at hgd; omega) | (simp -implicitDefEqProofs (maxSteps := 2000000) [hP, hN] <;> (try refine ⟨by kernel_rfl, ?_⟩)))
      | with_reducible refine xTwo_intro ?_ ?_
      | (with_reducible refine xCond_split (fun hcd => ?_) (fun hcd => ?_) <;> (try (exfalso; clear hP hN; simp_all; done)) <;> (try (exfalso; simp at *; omega)))
      | with_reducible refine WP.block ?_
      | (with_reducible ((first | refine WP.skip ?_ | refine WP.exit ?_ | refine WP.ret ?_); simp)))
    refine WP.loopN [] (chain.length - 1) (fun i st => st.t 3 = .pv (zs q) ∧ st.t 8 = .ptr 8 0 ∧ st.t 9 = .ptr 9 0 ∧ st.t 10 = .pv (.sl (chain.map (ivA t))) ∧ st.t 11 = .pv (Z ((i : Int) + 1)) ∧ st.h 8 = some (.box [.arr 27 (i + 1)] true false) ∧ st.h 9 = some (.box [.pv (B true)] true false) ∧ st.h 27 = some (.row 33 1 ((List.range (i + 1)).map (zp t chain p)) 0)) (by simp [ptS]) ?_
    rintro i st hi ⟨g3, g8, g9, g10, g11, hb8, hb9, hb27⟩
    by_cases hlt : i < chain.length - 1
    · have hlt1 : i + 1 < chain.length := by omega
      have hlt0 : i < chain.length := by omega
      have hlti : (i : Int) + 1 < chain.length := by omega
      have hw1 : IntKind.i64.wrap ((i : Int) + 1 - 1) = (i : Int) := by rw [show (i : Int) + 1 - 1 = (i : Int) by omega]; exact wr_id (by omega) (by omega)
      have hw1' : IntKind.i64.wrap (i : Int) = (i : Int) := wr_id (by omega) (by omega)
      have hw2 : IntKind.i64.wrap ((i : Int) + 1 + 1) = (i : Int) + 1 + 1 := wr_id (by omega) (by omega)
      have ht1 : ((i : Int) + 1).toNat = i + 1 := by omega
      have hn1 : (0 : Int) ≤ (i : Int) + 1 := by omega
      have cp := d54 (boxAt t chain[i]) (boxAt t chain[i + 1]) (ptS t chain p i) (by have := (hC.box hlt0).2.1; omega)
      rw [hC.pt_ok hlt1, ← hC.pt_succ hlt1] at cp
      have hst := range_step (zp t chain p) (i + 1)
      repeat' (first
        | with_reducible refine WP.seq ?_
        | (with_reducible ((first | refine WP.region (hn := []) ?_ | refine xC_intro (cp) ?_ | refine WP.cond' ?_); simp -implicitDefEqProofs (maxSteps := 2000000) [hP, hN, g3, g8, g9, g10, g11, hb8, hb9, hb27, hlt1, hlt0, hlti, hw1, hw1', hw2, ht1, hn1, show (i + 1 + 1) * 24 ≤ 140737488355328 by omega, show i + 1 + 1 ≤ 9223372036854775807 by omega]))
        | (with_reducible ((first | refine WP.draw (hn := []) (by rw [hP]; kernel_rfl) (by kernel_rfl) ?_ | refine yC_intro (cp) ?_); simp -implicitDefEqProofs (maxSteps := 2000000) [hP, hN, g3, g8, g9, g10, g11, hb8, hb9, hb27, hlt1, hlt0, hlti, hw1, hw1', hw2, ht1, hn1, show (i + 1 + 1) * 24 ≤ 140737488355328 by omega, show i + 1 + 1 ≤ 9223372036854775807 by omega]; (try refine ⟨by kernel_rfl, ?_⟩)))
        | (with_reducible refine xB_split (by simp [g3, g8, g9, g10, g11, hb8, hb9, hb27, hlt1, hlt0, hlti, hw1, hw1', hw2, ht1, hn1, show (i + 1 + 1) * 24 ≤ 140737488355328 by omega, show i + 1 + 1 ≤ 9223372036854775807 by omega]) (fun hgd => ?_) (fun hgd => ?_) <;> first | (exfalso; simp at hgd; done) | (exfalso; simp at hgd; omega) | simp -implicitDefEqProofs (maxSteps := 2000000) [hP, hN, g3, g8, g9, g10, g11, hb8, hb9, hb27, hlt1, hlt0, hlti, hw1, hw1', hw2, ht1, hn1, show (i + 1 + 1) * 24 ≤ 140737488355328 by omega, show i + 1 + 1 ≤ 9223372036854775807 by omega])
        | (with_reducible refine yB_split (by simp [g3, g8, g9, g10, g11, hb8, hb9, hb27, hlt1, hlt0, hlti, hw1, hw1', hw2, ht1, hn1, show (i + 1 + 1) * 24 ≤ 140737488355328 by omega, show i + 1 + 1 ≤ 9223372036854775807 by omega]) (fun hgd => ?_) (fun hgd => ?_) <;> first | (exfalso; simp at hgd; done) | (exfalso; simp at hgd; omega) | (simp -implicitDefEqProofs (maxSteps := 2000000) [hP, hN, g3, g8, g9, g10, g11, hb8, hb9, hb27, hlt1, hlt0, hlti, hw1, hw1', hw2, ht1, hn1, show (i + 1 + 1) * 24 ≤ 140737488355328 by omega, show i + 1 + 1 ≤ 9223372036854775807 by omega] <;> (try refine ⟨by kernel_rfl, ?_⟩)))
        | with_reducible refine xTwo_intro ?_ ?_
        | (with_reducible refine xCond_split (fun hcd => ?_) (fun hcd => ?_) <;> (try (exfalso; clear hP hN; simp_all; done)) <;> (try (exfalso; simp at *; omega)))
        | with_reducible refine WP.block ?_
        | (with_reducible ((first | refine WP.skip ?_ | refine WP.exit ?_ | refine WP.ret ?_); simp [g3, g8, g9, g10, g11, hb8, hb9, hb27, hlt1, hlt0, hlti, hw1, hw1', hw2, ht1, hn1, show (i + 1 + 1) * 24 ≤ 140737488355328 by omega, show i + 1 + 1 ≤ 9223372036854775807 by omega])))
      all_goals exact ⟨hlt, hst⟩
    · have hi' : i + 1 = chain.length := by omega
      have hlti : ¬ (i : Int) + 1 < chain.length := by omega
      repeat' (first
        | with_reducible refine WP.seq ?_
        | (with_reducible ((first | refine WP.region (hn := []) ?_ | refine xC_intro (c2) ?_ | refine WP.cond' ?_); simp -implicitDefEqProofs (maxSteps := 2000000) [hP, hN, g3, g8, g9, g10, g11, hb8, hb9, hb27, hlti, show (i + 1 + 1) * 24 ≤ 140737488355328 by omega, show i + 1 + 1 ≤ 9223372036854775807 by omega]))
        | (with_reducible ((first | refine WP.draw (hn := []) (by rw [hP]; kernel_rfl) (by kernel_rfl) ?_ | refine yC_intro (c2) ?_); simp -implicitDefEqProofs (maxSteps := 2000000) [hP, hN, g3, g8, g9, g10, g11, hb8, hb9, hb27, hlti, show (i + 1 + 1) * 24 ≤ 140737488355328 by omega, show i + 1 + 1 ≤ 9223372036854775807 by omega]; (try refine ⟨by kernel_rfl, ?_⟩)))
        | (with_reducible refine xB_split (by simp [g3, g8, g9, g10, g11, hb8, hb9, hb27, hlti, show (i + 1 + 1) * 24 ≤ 140737488355328 by omega, show i + 1 + 1 ≤ 9223372036854775807 by omega]) (fun hgd => ?_) (fun hgd => ?_) <;> first | (exfalso; simp at hgd; done) | (exfalso; simp at hgd; omega) | simp -implicitDefEqProofs (maxSteps := 2000000) [hP, hN, g3, g8, g9, g10, g11, hb8, hb9, hb27, hlti, show (i + 1 + 1) * 24 ≤ 140737488355328 by omega, show i + 1 + 1 ≤ 9223372036854775807 by omega])
        | (with_reducible refine yB_split (by simp [g3, g8, g9, g10, g11, hb8, hb9, hb27, hlti, show (i + 1 + 1) * 24 ≤ 140737488355328 by omega, show i + 1 + 1 ≤ 9223372036854775807 by omega]) (fun hgd => ?_) (fun hgd => ?_) <;> first | (exfalso; simp at hgd; done) | (exfalso; simp at hgd; omega) | (simp -implicitDefEqProofs (maxSteps := 2000000) [hP, hN, g3, g8, g9, g10, g11, hb8, hb9, hb27, hlti, show (i + 1 + 1) * 24 ≤ 140737488355328 by omega, show i + 1 + 1 ≤ 9223372036854775807 by omega] <;> (try refine ⟨by kernel_rfl, ?_⟩)))
        | with_reducible refine xTwo_intro ?_ ?_
        | (with_reducible refine xCond_split (fun hcd => ?_) (fun hcd => ?_) <;> (try (exfalso; clear hP hN; simp_all; done)) <;> (try (exfalso; simp at *; omega)))
        | with_reducible refine WP.block ?_
        | (with_reducible ((first | refine WP.skip ?_ | refine WP.exit ?_ | refine WP.ret ?_); simp [g3, g8, g9, g10, g11, hb8, hb9, hb27, hlti, show (i + 1 + 1) * 24 ≤ 140737488355328 by omega, show i + 1 + 1 ≤ 9223372036854775807 by omega])))
      all_goals rw [hi']
set_option maxRecDepth 10000 in
set_option maxHeartbeats 16000000 in
theorem d111 (t : Tr) (chain p q : List Int) (hl : t.cells.length ≤ 9223372036854775807) (hr : t.root.length ≤ 9223372036854775807) (hk : chain.length ≤ 16777216) (hpl : p.length ≤ 9223372036854775807) (hql : q.length ≤ 9223372036854775807) : DetH Try.prog 111 [.pv (encT t), .pv (zs chain), .pv (zs p), .pv (zs q)] [] [] (.pv (B (chainOk t chain p q))) := by
  have cv := d52 t hl
  have cp := d30 t.root p hr hpl
  have cq := d30 t.root q hr hql
  rw [hasL_eq] at cp cq
  cases hv : validT t with
  | false =>
    obtain ⟨e1, e2, _⟩ := ch_no (t := t) (chain := chain) (p := p) (q := q) (by simp [chPre, hv])
    rw [e2]
    rw [hv] at cv
    refine detP_of Try.func111 rfl (by kernel_rfl) (by simp [Try.f111]) rfl ?_
    intro C hP hN
    simp only [Try.f111] at hN ⊢
    repeat' (first
      | with_reducible refine WP.seq ?_
      | (with_reducible ((first | refine WP.region (hn := []) ?_ | refine xC_intro (cv) ?_ | refine WP.cond' ?_); simp -implicitDefEqProofs (maxSteps := 2000000) [hP, hN]))
      | (with_reducible ((first | refine WP.draw (hn := []) (by rw [hP]; kernel_rfl) (by kernel_rfl) ?_ | refine yC_intro (cv) ?_); simp -implicitDefEqProofs (maxSteps := 2000000) [hP, hN]; (try refine ⟨by kernel_rfl, ?_⟩)))
      | (with_reducible refine xB_split (by simp) (fun hgd => ?_) (fun hgd => ?_) <;> first | (exfalso; simp at hgd; done) | (exfalso; simp at hgd; omega) | simp -implicitDefEqProofs (maxSteps := 2000000) [hP, hN])
      | (with_reducible refine yB_split (by simp) (fun hgd => ?_) (fun hgd => ?_) <;> first | (exfalso; simp at hgd; done) | (exfalso; simp at hgd; omega) | (simp -implicitDefEqProofs (maxSteps := 2000000) [hP, hN] <;> (try refine ⟨by kernel_rfl, ?_⟩)))
      | with_reducible refine xTwo_intro ?_ ?_
      | (with_reducible refine xCond_split (fun hcd => ?_) (fun hcd => ?_) <;> (try (exfalso; clear hP hN; simp_all; done)) <;> (try (exfalso; simp at *; omega)))
      | with_reducible refine WP.block ?_
      | (with_reducible ((first | refine WP.skip ?_ | refine WP.exit ?_ | refine WP.ret ?_); simp)))
  | true =>
  rw [hv] at cv
  by_cases hne : chain = []
  · obtain ⟨e1, e2, _⟩ := ch_no (t := t) (chain := chain) (p := p) (q := q) (by simp [chPre, hne])
    rw [e2]
    subst hne
    refine detP_of Try.func111 rfl (by kernel_rfl) (by simp [Try.f111]) rfl ?_
    intro C hP hN
    simp only [Try.f111] at hN ⊢
    repeat' (first
      | with_reducible refine WP.seq ?_
      | (with_reducible ((first | refine WP.region (hn := []) ?_ | refine xC_intro (cv) ?_ | refine WP.cond' ?_); simp -implicitDefEqProofs (maxSteps := 2000000) [hP, hN]))
      | (with_reducible ((first | refine WP.draw (hn := []) (by rw [hP]; kernel_rfl) (by kernel_rfl) ?_ | refine yC_intro (cv) ?_); simp -implicitDefEqProofs (maxSteps := 2000000) [hP, hN]; (try refine ⟨by kernel_rfl, ?_⟩)))
      | (with_reducible refine xB_split (by simp) (fun hgd => ?_) (fun hgd => ?_) <;> first | (exfalso; simp at hgd; done) | (exfalso; simp at hgd; omega) | simp -implicitDefEqProofs (maxSteps := 2000000) [hP, hN])
      | (with_reducible refine yB_split (by simp) (fun hgd => ?_) (fun hgd => ?_) <;> first | (exfalso; simp at hgd; done) | (exfalso; simp at hgd; omega) | (simp -implicitDefEqProofs (maxSteps := 2000000) [hP, hN] <;> (try refine ⟨by kernel_rfl, ?_⟩)))
      | with_reducible refine xTwo_intro ?_ ?_
      | (with_reducible refine xCond_split (fun hcd => ?_) (fun hcd => ?_) <;> (try (exfalso; clear hP hN; simp_all; done)) <;> (try (exfalso; simp at *; omega)))
      | with_reducible refine WP.block ?_
      | (with_reducible ((first | refine WP.skip ?_ | refine WP.exit ?_ | refine WP.ret ?_); simp)))
  have hne' : ((chain.length : Int) == 0) = false := by simp [hne]
  cases hp : hasC t.root p with
  | false =>
    obtain ⟨e1, e2, _⟩ := ch_no (t := t) (chain := chain) (p := p) (q := q) (by simp [chPre, hp])
    rw [e2]
    rw [hp] at cp
    refine detP_of Try.func111 rfl (by kernel_rfl) (by simp [Try.f111]) rfl ?_
    intro C hP hN
    simp only [Try.f111] at hN ⊢
    repeat' (first
      | with_reducible refine WP.seq ?_
      | (with_reducible ((first | refine WP.region (hn := []) ?_ | refine xC_intro (cv) ?_ | refine xC_intro (cp) ?_ | refine WP.cond' ?_); simp -implicitDefEqProofs (maxSteps := 2000000) [hP, hN, hne']))
      | (with_reducible ((first | refine WP.draw (hn := []) (by rw [hP]; kernel_rfl) (by kernel_rfl) ?_ | refine yC_intro (cv) ?_ | refine yC_intro (cp) ?_); simp -implicitDefEqProofs (maxSteps := 2000000) [hP, hN, hne']; (try refine ⟨by kernel_rfl, ?_⟩)))
      | (with_reducible refine xB_split (by simp [hne']) (fun hgd => ?_) (fun hgd => ?_) <;> first | (exfalso; simp at hgd; done) | (exfalso; simp at hgd; omega) | simp -implicitDefEqProofs (maxSteps := 2000000) [hP, hN, hne'])
      | (with_reducible refine yB_split (by simp [hne']) (fun hgd => ?_) (fun hgd => ?_) <;> first | (exfalso; simp at hgd; done) | (exfalso; simp at hgd; omega) | (simp -implicitDefEqProofs (maxSteps := 2000000) [hP, hN, hne'] <;> (try refine ⟨by kernel_rfl, ?_⟩)))
      | with_reducible refine xTwo_intro ?_ ?_
      | (with_reducible refine xCond_split (fun hcd => ?_) (fun hcd => ?_) <;> (try (exfalso; clear hP hN; simp_all; done)) <;> (try (exfalso; simp at *; omega)))
      | with_reducible refine WP.block ?_
      | (with_reducible ((first | refine WP.skip ?_ | refine WP.exit ?_ | refine WP.ret ?_); simp [hne'])))
  | true =>
  rw [hp] at cp
  cases hq : hasC t.root q with
  | false =>
    obtain ⟨e1, e2, _⟩ := ch_no (t := t) (chain := chain) (p := p) (q := q) (by simp [chPre, hq])
    rw [e2]
    rw [hq] at cq
    refine detP_of Try.func111 rfl (by kernel_rfl) (by simp [Try.f111]) rfl ?_
    intro C hP hN
    simp only [Try.f111] at hN ⊢
    repeat' (first
      | with_reducible refine WP.seq ?_
      | (with_reducible ((first | refine WP.region (hn := []) ?_ | refine xC_intro (cv) ?_ | refine xC_intro (cp) ?_ | refine xC_intro (cq) ?_ | refine WP.cond' ?_); simp -implicitDefEqProofs (maxSteps := 2000000) [hP, hN, hne']))
      | (with_reducible ((first | refine WP.draw (hn := []) (by rw [hP]; kernel_rfl) (by kernel_rfl) ?_ | refine yC_intro (cv) ?_ | refine yC_intro (cp) ?_ | refine yC_intro (cq) ?_); simp -implicitDefEqProofs (maxSteps := 2000000) [hP, hN, hne']; (try refine ⟨by kernel_rfl, ?_⟩)))
      | (with_reducible refine xB_split (by simp [hne']) (fun hgd => ?_) (fun hgd => ?_) <;> first | (exfalso; simp at hgd; done) | (exfalso; simp at hgd; omega) | simp -implicitDefEqProofs (maxSteps := 2000000) [hP, hN, hne'])
      | (with_reducible refine yB_split (by simp [hne']) (fun hgd => ?_) (fun hgd => ?_) <;> first | (exfalso; simp at hgd; done) | (exfalso; simp at hgd; omega) | (simp -implicitDefEqProofs (maxSteps := 2000000) [hP, hN, hne'] <;> (try refine ⟨by kernel_rfl, ?_⟩)))
      | with_reducible refine xTwo_intro ?_ ?_
      | (with_reducible refine xCond_split (fun hcd => ?_) (fun hcd => ?_) <;> (try (exfalso; clear hP hN; simp_all; done)) <;> (try (exfalso; simp at *; omega)))
      | with_reducible refine WP.block ?_
      | (with_reducible ((first | refine WP.skip ?_ | refine WP.exit ?_ | refine WP.ret ?_); simp [hne'])))
  | true =>
  rw [hq] at cq
  have hbl := boxesL_len hv
  have hz := sizeOk_iff.1 (valid_size hv)
  have hpos := List.length_pos_iff.2 hne
  refine detP_of Try.func111 rfl (by kernel_rfl) (by simp [Try.f111]) rfl ?_
  intro C hP hN
  simp only [Try.f111] at hN ⊢
  repeat' (first
    | with_reducible refine WP.seq ?_
    | (with_reducible ((first | refine WP.region (hn := []) ?_ | refine xC_intro (cv) ?_ | refine xC_intro (cp) ?_ | refine xC_intro (cq) ?_ | refine WP.cond' ?_); simp -implicitDefEqProofs (maxSteps := 2000000) [hP, hN, hne', hbl]))
    | (with_reducible ((first | refine WP.draw (hn := []) (by rw [hP]; kernel_rfl) (by kernel_rfl) ?_ | refine yC_intro (cv) ?_ | refine yC_intro (cp) ?_ | refine yC_intro (cq) ?_); simp -implicitDefEqProofs (maxSteps := 2000000) [hP, hN, hne', hbl]; (try refine ⟨by kernel_rfl, ?_⟩)))
    | (with_reducible refine xB_split (by simp [hne', hbl]) (fun hgd => ?_) (fun hgd => ?_) <;> first | (exfalso; simp at hgd; done) | (exfalso; simp at hgd; omega) | simp -implicitDefEqProofs (maxSteps := 2000000) [hP, hN, hne', hbl])
    | (with_reducible refine yB_split (by simp [hne', hbl]) (fun hgd => ?_) (fun hgd => ?_) <;> first | (exfalso; simp at hgd; done) | (exfalso; simp at hgd; omega) | (simp -implicitDefEqProofs (maxSteps := 2000000) [hP, hN, hne', hbl] <;> (try refine ⟨by kernel_rfl, ?_⟩)))
    | with_reducible refine xTwo_intro ?_ ?_
    | (with_reducible refine xCond_split (fun hcd => ?_) (fun hcd => ?_) <;> (try (exfalso; clear hP hN; simp_all; done)) <;> (try (exfalso; simp at *; omega)))
    | with_reducible refine WP.block ?_
    | (with_reducible ((first | refine WP.skip ?_ | refine WP.exit ?_ | refine WP.ret ?_); simp [hne', hbl])))
  refine WP.loopN [] chain.length (fun k st => st.t 1 = .pv (zs chain) ∧ st.t 2 = .pv (zs p) ∧ st.t 3 = .pv (zs q) ∧ st.t 4 = .ptr 4 0 ∧ st.h 4 = some (.box [.pv (iv t.root), .pv (.sl (t.cells.map encC))] true false) ∧ st.t 9 = .pv (.sl ((boxesL t).map iv)) ∧ st.t 11 = .pv (Z k) ∧ chB t chain k = true) (by
      refine ⟨by simp, by simp, by simp, by simp, by simp, by simp, by simp, chB_zero _ _⟩) ?_
  rintro k st hi ⟨g1, g2, g3, g4, hb4, g9, g11, hch⟩
  by_cases hlt : k < chain.length
  · have hw := wr_succ hlt (big hk)
    generalize hc : chain[k] = c at *
    have hci : chain[k]? = some c := by rw [List.getElem?_eq_getElem hlt, hc]
    have bad : chStep t chain k = false → chainOk t chain p q = false := fun h => by
      have := ch_no (t := t) (chain := chain) (p := p) (q := q) (by simp [chPre, chB_false hlt h])
      exact this.2.1
    have nbad : ¬ (0 ≤ c ∧ c < t.cells.length ∧ leafN t c.toNat = true ∧ c ∉ chain.take k ∧ (k = 0 ∨ touchC (boxAt t (chain[k - 1]?.getD 0)) (boxAt t c) = true)) → chainOk t chain p q = false := fun h => bad (by
      cases hh : chStep t chain k with
      | false => rfl
      | true => exact absurd ((chStep_iff hci).1 hh) h)
    by_cases c1 : c < 0
    · have e2 := nbad (by omega)
      rw [e2]
      repeat' (first
        | with_reducible refine WP.seq ?_
        | (with_reducible ((first | refine WP.region (hn := []) ?_ | refine WP.cond' ?_); simp -implicitDefEqProofs (maxSteps := 2000000) [hP, hN, g1, g2, g3, g4, hb4, g9, g11, hlt, hw, hci, hc, c1]))
        | (with_reducible ((first | refine WP.draw (hn := []) (by rw [hP]; kernel_rfl) (by kernel_rfl) ?_); simp -implicitDefEqProofs (maxSteps := 2000000) [hP, hN, g1, g2, g3, g4, hb4, g9, g11, hlt, hw, hci, hc, c1]; (try refine ⟨by kernel_rfl, ?_⟩)))
        | (with_reducible refine xB_split (by simp [g1, g2, g3, g4, hb4, g9, g11, hlt, hw, hci, hc, c1]) (fun hgd => ?_) (fun hgd => ?_) <;> first | (exfalso; simp at hgd; done) | (exfalso; simp at hgd; omega) | simp -implicitDefEqProofs (maxSteps := 2000000) [hP, hN, g1, g2, g3, g4, hb4, g9, g11, hlt, hw, hci, hc, c1])
        | (with_reducible refine yB_split (by simp [g1, g2, g3, g4, hb4, g9, g11, hlt, hw, hci, hc, c1]) (fun hgd => ?_) (fun hgd => ?_) <;> first | (exfalso; simp at hgd; done) | (exfalso; simp at hgd; omega) | (simp -implicitDefEqProofs (maxSteps := 2000000) [hP, hN, g1, g2, g3, g4, hb4, g9, g11, hlt, hw, hci, hc, c1] <;> (try refine ⟨by kernel_rfl, ?_⟩)))
        | with_reducible refine xTwo_intro ?_ ?_
        | (with_reducible refine xCond_split (fun hcd => ?_) (fun hcd => ?_) <;> (try (exfalso; clear hP hN; simp_all; done)) <;> (try (exfalso; simp at *; omega)))
        | with_reducible refine WP.block ?_
        | (with_reducible ((first | refine WP.skip ?_ | refine WP.exit ?_ | refine WP.ret ?_); simp [g1, g2, g3, g4, hb4, g9, g11, hlt, hw, hci, hc, c1])))
    obtain ⟨m, rfl⟩ := Int.eq_ofNat_of_zero_le (show 0 ≤ c by omega)
    by_cases c2 : t.cells.length ≤ m
    · have e2 := nbad (by omega)
      rw [e2]
      repeat' (first
        | with_reducible refine WP.seq ?_
        | (with_reducible ((first | refine WP.region (hn := []) ?_ | refine WP.cond' ?_); simp -implicitDefEqProofs (maxSteps := 2000000) [hP, hN, g1, g2, g3, g4, hb4, g9, g11, hlt, hw, hci, hc, c1, c2, hbl]))
        | (with_reducible ((first | refine WP.draw (hn := []) (by rw [hP]; kernel_rfl) (by kernel_rfl) ?_); simp -implicitDefEqProofs (maxSteps := 2000000) [hP, hN, g1, g2, g3, g4, hb4, g9, g11, hlt, hw, hci, hc, c1, c2, hbl]; (try refine ⟨by kernel_rfl, ?_⟩)))
        | (with_reducible refine xB_split (by simp [g1, g2, g3, g4, hb4, g9, g11, hlt, hw, hci, hc, c1, c2, hbl]) (fun hgd => ?_) (fun hgd => ?_) <;> first | (exfalso; simp at hgd; done) | (exfalso; simp at hgd; omega) | simp -implicitDefEqProofs (maxSteps := 2000000) [hP, hN, g1, g2, g3, g4, hb4, g9, g11, hlt, hw, hci, hc, c1, c2, hbl])
        | (with_reducible refine yB_split (by simp [g1, g2, g3, g4, hb4, g9, g11, hlt, hw, hci, hc, c1, c2, hbl]) (fun hgd => ?_) (fun hgd => ?_) <;> first | (exfalso; simp at hgd; done) | (exfalso; simp at hgd; omega) | (simp -implicitDefEqProofs (maxSteps := 2000000) [hP, hN, g1, g2, g3, g4, hb4, g9, g11, hlt, hw, hci, hc, c1, c2, hbl] <;> (try refine ⟨by kernel_rfl, ?_⟩)))
        | with_reducible refine xTwo_intro ?_ ?_
        | (with_reducible refine xCond_split (fun hcd => ?_) (fun hcd => ?_) <;> (try (exfalso; clear hP hN; simp_all; done)) <;> (try (exfalso; simp at *; omega)))
        | with_reducible refine WP.block ?_
        | (with_reducible ((first | refine WP.skip ?_ | refine WP.exit ?_ | refine WP.ret ?_); simp [g1, g2, g3, g4, hb4, g9, g11, hlt, hw, hci, hc, c1, c2, hbl])))
    have hm : m < t.cells.length := by omega
    have hmB : m < (boxesL t).length := by omega
    generalize hd : t.cells[m] = d at *
    have hdi : t.cells[m]? = some d := by rw [List.getElem?_eq_getElem hm, hd]
    have cl := d116 d
    cases hlf : leafB d with
    | false =>
      rw [hlf] at cl
      have e2 := nbad (by rintro ⟨_, _, h3, _⟩; simp [leafN, hdi, hlf] at h3)
      rw [e2]
      repeat' (first
        | with_reducible refine WP.seq ?_
        | (with_reducible ((first | refine WP.region (hn := []) ?_ | refine xC_intro (cl) ?_ | refine WP.cond' ?_); simp -implicitDefEqProofs (maxSteps := 2000000) [hP, hN, g1, g2, g3, g4, hb4, g9, g11, hlt, hw, hci, hc, c1, c2, hbl, hm, hdi, hd]))
        | (with_reducible ((first | refine WP.draw (hn := []) (by rw [hP]; kernel_rfl) (by kernel_rfl) ?_ | refine yC_intro (cl) ?_); simp -implicitDefEqProofs (maxSteps := 2000000) [hP, hN, g1, g2, g3, g4, hb4, g9, g11, hlt, hw, hci, hc, c1, c2, hbl, hm, hdi, hd]; (try refine ⟨by kernel_rfl, ?_⟩)))
        | (with_reducible refine xB_split (by simp [g1, g2, g3, g4, hb4, g9, g11, hlt, hw, hci, hc, c1, c2, hbl, hm, hdi, hd]) (fun hgd => ?_) (fun hgd => ?_) <;> first | (exfalso; simp at hgd; done) | (exfalso; simp at hgd; omega) | simp -implicitDefEqProofs (maxSteps := 2000000) [hP, hN, g1, g2, g3, g4, hb4, g9, g11, hlt, hw, hci, hc, c1, c2, hbl, hm, hdi, hd])
        | (with_reducible refine yB_split (by simp [g1, g2, g3, g4, hb4, g9, g11, hlt, hw, hci, hc, c1, c2, hbl, hm, hdi, hd]) (fun hgd => ?_) (fun hgd => ?_) <;> first | (exfalso; simp at hgd; done) | (exfalso; simp at hgd; omega) | (simp -implicitDefEqProofs (maxSteps := 2000000) [hP, hN, g1, g2, g3, g4, hb4, g9, g11, hlt, hw, hci, hc, c1, c2, hbl, hm, hdi, hd] <;> (try refine ⟨by kernel_rfl, ?_⟩)))
        | with_reducible refine xTwo_intro ?_ ?_
        | (with_reducible refine xCond_split (fun hcd => ?_) (fun hcd => ?_) <;> (try (exfalso; clear hP hN; simp_all; done)) <;> (try (exfalso; simp at *; omega)))
        | with_reducible refine WP.block ?_
        | (with_reducible ((first | refine WP.skip ?_ | refine WP.exit ?_ | refine WP.ret ?_); simp [g1, g2, g3, g4, hb4, g9, g11, hlt, hw, hci, hc, c1, c2, hbl, hm, hdi, hd])))
    | true =>
    rw [hlf] at cl
    have hbx : (boxesL t)[m]? = some (boxAt t m) := (boxAt_ok hv (c := (m : Int)) hm).1
    have hbx' := (List.getElem?_eq_some_iff.1 hbx).2
    have hblen := (boxAt_ok hv (c := (m : Int)) hm).2.1
    by_cases hk0 : k = 0
    · have hk0' : ¬ (0 : Int) < k := by omega
      have hk0n : ¬ 0 < k := by omega
      repeat' (first
        | with_reducible refine WP.seq ?_
        | (with_reducible ((first | refine WP.region (hn := []) ?_ | refine xC_intro (cl) ?_ | refine WP.cond' ?_); simp -implicitDefEqProofs (maxSteps := 2000000) [hP, hN, g1, g2, g3, g4, hb4, g9, g11, hlt, hw, hci, hc, c1, c2, hbl, hm, hdi, hd, hbx, hbx', hmB, hk0', hk0n]))
        | (with_reducible ((first | refine WP.draw (hn := []) (by rw [hP]; kernel_rfl) (by kernel_rfl) ?_ | refine yC_intro (cl) ?_); simp -implicitDefEqProofs (maxSteps := 2000000) [hP, hN, g1, g2, g3, g4, hb4, g9, g11, hlt, hw, hci, hc, c1, c2, hbl, hm, hdi, hd, hbx, hbx', hmB, hk0', hk0n]; (try refine ⟨by kernel_rfl, ?_⟩)))
        | (with_reducible refine xB_split (by simp [g1, g2, g3, g4, hb4, g9, g11, hlt, hw, hci, hc, c1, c2, hbl, hm, hdi, hd, hbx, hbx', hmB, hk0', hk0n]) (fun hgd => ?_) (fun hgd => ?_) <;> first | (exfalso; simp at hgd; done) | (exfalso; simp at hgd; omega) | simp -implicitDefEqProofs (maxSteps := 2000000) [hP, hN, g1, g2, g3, g4, hb4, g9, g11, hlt, hw, hci, hc, c1, c2, hbl, hm, hdi, hd, hbx, hbx', hmB, hk0', hk0n])
        | (with_reducible refine yB_split (by simp [g1, g2, g3, g4, hb4, g9, g11, hlt, hw, hci, hc, c1, c2, hbl, hm, hdi, hd, hbx, hbx', hmB, hk0', hk0n]) (fun hgd => ?_) (fun hgd => ?_) <;> first | (exfalso; simp at hgd; done) | (exfalso; simp at hgd; omega) | (simp -implicitDefEqProofs (maxSteps := 2000000) [hP, hN, g1, g2, g3, g4, hb4, g9, g11, hlt, hw, hci, hc, c1, c2, hbl, hm, hdi, hd, hbx, hbx', hmB, hk0', hk0n] <;> (try refine ⟨by kernel_rfl, ?_⟩)))
        | with_reducible refine xTwo_intro ?_ ?_
        | (with_reducible refine xCond_split (fun hcd => ?_) (fun hcd => ?_) <;> (try (exfalso; clear hP hN; simp_all; done)) <;> (try (exfalso; simp at *; omega)))
        | with_reducible refine WP.block ?_
        | (with_reducible ((first | refine WP.skip ?_ | refine WP.exit ?_ | refine WP.ret ?_); simp [g1, g2, g3, g4, hb4, g9, g11, hlt, hw, hci, hc, c1, c2, hbl, hm, hdi, hd, hbx, hbx', hmB, hk0', hk0n])))
      refine WP.loopN [] k (fun j st => st.t 1 = .pv (zs chain) ∧ st.t 2 = .pv (zs p) ∧ st.t 3 = .pv (zs q) ∧ st.t 4 = .ptr 4 0 ∧ st.h 4 = some (.box [.pv (iv t.root), .pv (.sl (t.cells.map encC))] true false) ∧ st.t 9 = .pv (.sl ((boxesL t).map iv)) ∧ st.t 11 = .pv (Z k) ∧ st.t 12 = .pv (Z j) ∧ (m : Int) ∉ chain.take j) (by simp [g1, g2, g3, g4, hb4, g9, g11]) ?_
      rintro j st' hj ⟨y1, y2, y3, y4, yb4, y9, y11, y12, hnot⟩
      by_cases hjk : j < k
      · have hjl : j < chain.length := by omega
        have hwj : IntKind.i64.wrap ((j : Int) + 1) = (j : Int) + 1 := wr_id (by omega) (by omega)
        by_cases heq : chain[j] = (m : Int)
        · have heq' : (chain[j] == (m : Int)) = true := by simp [heq]
          have e2 := nbad (by
            rintro ⟨_, _, _, h4, _⟩
            exact h4 (List.mem_of_getElem? (i := j) (by rw [List.getElem?_take, if_pos hjk, List.getElem?_eq_getElem hjl, heq])))
          rw [e2]
          repeat' (first
            | with_reducible refine WP.seq ?_
            | (with_reducible ((first | refine WP.region (hn := []) ?_ | refine WP.cond' ?_); simp -implicitDefEqProofs (maxSteps := 2000000) [hP, hN, y1, y2, y3, y4, yb4, y9, y11, y12, hlt, hw, hci, hc, hm, hjk, hjl, hwj, heq, heq']))
            | (with_reducible ((first | refine WP.draw (hn := []) (by rw [hP]; kernel_rfl) (by kernel_rfl) ?_); simp -implicitDefEqProofs (maxSteps := 2000000) [hP, hN, y1, y2, y3, y4, yb4, y9, y11, y12, hlt, hw, hci, hc, hm, hjk, hjl, hwj, heq, heq']; (try refine ⟨by kernel_rfl, ?_⟩)))
            | (with_reducible refine xB_split (by simp [y1, y2, y3, y4, yb4, y9, y11, y12, hlt, hw, hci, hc, hm, hjk, hjl, hwj, heq, heq']) (fun hgd => ?_) (fun hgd => ?_) <;> first | (exfalso; simp at hgd; done) | (exfalso; simp at hgd; omega) | simp -implicitDefEqProofs (maxSteps := 2000000) [hP, hN, y1, y2, y3, y4, yb4, y9, y11, y12, hlt, hw, hci, hc, hm, hjk, hjl, hwj, heq, heq'])
            | (with_reducible refine yB_split (by simp [y1, y2, y3, y4, yb4, y9, y11, y12, hlt, hw, hci, hc, hm, hjk, hjl, hwj, heq, heq']) (fun hgd => ?_) (fun hgd => ?_) <;> first | (exfalso; simp at hgd; done) | (exfalso; simp at hgd; omega) | (simp -implicitDefEqProofs (maxSteps := 2000000) [hP, hN, y1, y2, y3, y4, yb4, y9, y11, y12, hlt, hw, hci, hc, hm, hjk, hjl, hwj, heq, heq'] <;> (try refine ⟨by kernel_rfl, ?_⟩)))
            | with_reducible refine xTwo_intro ?_ ?_
            | (with_reducible refine xCond_split (fun hcd => ?_) (fun hcd => ?_) <;> (try (exfalso; clear hP hN; simp_all; done)) <;> (try (exfalso; simp at *; omega)))
            | with_reducible refine WP.block ?_
            | (with_reducible ((first | refine WP.skip ?_ | refine WP.exit ?_ | refine WP.ret ?_); simp [y1, y2, y3, y4, yb4, y9, y11, y12, hlt, hw, hci, hc, hm, hjk, hjl, hwj, heq, heq'])))
        · have heq' : (chain[j] == (m : Int)) = false := by simp [heq]
          have hno : (m : Int) ∉ chain.take (j + 1) := by
            rw [List.take_succ_eq_append_getElem hjl]
            simp only [List.mem_append, List.mem_singleton, not_or]
            exact ⟨hnot, fun h => heq h.symm⟩
          repeat' (first
            | with_reducible refine WP.seq ?_
            | (with_reducible ((first | refine WP.region (hn := []) ?_ | refine WP.cond' ?_); simp -implicitDefEqProofs (maxSteps := 2000000) [hP, hN, y1, y2, y3, y4, yb4, y9, y11, y12, hlt, hw, hci, hc, hm, hjk, hjl, hwj, heq']))
            | (with_reducible ((first | refine WP.draw (hn := []) (by rw [hP]; kernel_rfl) (by kernel_rfl) ?_); simp -implicitDefEqProofs (maxSteps := 2000000) [hP, hN, y1, y2, y3, y4, yb4, y9, y11, y12, hlt, hw, hci, hc, hm, hjk, hjl, hwj, heq']; (try refine ⟨by kernel_rfl, ?_⟩)))
            | (with_reducible refine xB_split (by simp [y1, y2, y3, y4, yb4, y9, y11, y12, hlt, hw, hci, hc, hm, hjk, hjl, hwj, heq']) (fun hgd => ?_) (fun hgd => ?_) <;> first | (exfalso; simp at hgd; done) | (exfalso; simp at hgd; omega) | simp -implicitDefEqProofs (maxSteps := 2000000) [hP, hN, y1, y2, y3, y4, yb4, y9, y11, y12, hlt, hw, hci, hc, hm, hjk, hjl, hwj, heq'])
            | (with_reducible refine yB_split (by simp [y1, y2, y3, y4, yb4, y9, y11, y12, hlt, hw, hci, hc, hm, hjk, hjl, hwj, heq']) (fun hgd => ?_) (fun hgd => ?_) <;> first | (exfalso; simp at hgd; done) | (exfalso; simp at hgd; omega) | (simp -implicitDefEqProofs (maxSteps := 2000000) [hP, hN, y1, y2, y3, y4, yb4, y9, y11, y12, hlt, hw, hci, hc, hm, hjk, hjl, hwj, heq'] <;> (try refine ⟨by kernel_rfl, ?_⟩)))
            | with_reducible refine xTwo_intro ?_ ?_
            | (with_reducible refine xCond_split (fun hcd => ?_) (fun hcd => ?_) <;> (try (exfalso; clear hP hN; simp_all; done)) <;> (try (exfalso; simp at *; omega)))
            | with_reducible refine WP.block ?_
            | (with_reducible ((first | refine WP.skip ?_ | refine WP.exit ?_ | refine WP.ret ?_); simp [y1, y2, y3, y4, yb4, y9, y11, y12, hlt, hw, hci, hc, hm, hjk, hjl, hwj, heq'])))
          all_goals exact hno
      · have hjk' : j = k := by omega
        subst hjk'
        have hnx := chB_step hch ((chStep_iff hci).2 ⟨by omega, by omega, by simp [leafN, hdi, hlf], hnot, .inl hk0⟩)
        repeat' (first
          | with_reducible refine WP.seq ?_
          | (with_reducible ((first | refine WP.region (hn := []) ?_ | refine WP.cond' ?_); simp -implicitDefEqProofs (maxSteps := 2000000) [hP, hN, y1, y2, y3, y4, yb4, y9, y11, y12, hlt, hw, hci, hc, hm, hjk]))
          | (with_reducible ((first | refine WP.draw (hn := []) (by rw [hP]; kernel_rfl) (by kernel_rfl) ?_); simp -implicitDefEqProofs (maxSteps := 2000000) [hP, hN, y1, y2, y3, y4, yb4, y9, y11, y12, hlt, hw, hci, hc, hm, hjk]; (try refine ⟨by kernel_rfl, ?_⟩)))
          | (with_reducible refine xB_split (by simp [y1, y2, y3, y4, yb4, y9, y11, y12, hlt, hw, hci, hc, hm, hjk]) (fun hgd => ?_) (fun hgd => ?_) <;> first | (exfalso; simp at hgd; done) | (exfalso; simp at hgd; omega) | simp -implicitDefEqProofs (maxSteps := 2000000) [hP, hN, y1, y2, y3, y4, yb4, y9, y11, y12, hlt, hw, hci, hc, hm, hjk])
          | (with_reducible refine yB_split (by simp [y1, y2, y3, y4, yb4, y9, y11, y12, hlt, hw, hci, hc, hm, hjk]) (fun hgd => ?_) (fun hgd => ?_) <;> first | (exfalso; simp at hgd; done) | (exfalso; simp at hgd; omega) | (simp -implicitDefEqProofs (maxSteps := 2000000) [hP, hN, y1, y2, y3, y4, yb4, y9, y11, y12, hlt, hw, hci, hc, hm, hjk] <;> (try refine ⟨by kernel_rfl, ?_⟩)))
          | with_reducible refine xTwo_intro ?_ ?_
          | (with_reducible refine xCond_split (fun hcd => ?_) (fun hcd => ?_) <;> (try (exfalso; clear hP hN; simp_all; done)) <;> (try (exfalso; simp at *; omega)))
          | with_reducible refine WP.block ?_
          | (with_reducible ((first | refine WP.skip ?_ | refine WP.exit ?_ | refine WP.ret ?_); simp [y1, y2, y3, y4, yb4, y9, y11, y12, hlt, hw, hci, hc, hm, hjk])))
        all_goals exact hnx
    · have hk0' : (0 : Int) < k := by omega
      have hk0n : 0 < k := by omega
      have hj : k - 1 < chain.length := by omega
      have h1 := ((chB_iff.1 hch) (k - 1) (by omega))
      have h2 := (chStep_iff (List.getElem?_eq_getElem hj)).1 h1
      obtain ⟨x, hx⟩ := Int.eq_ofNat_of_zero_le h2.1
      have hxl : x < t.cells.length := by rw [hx] at h2; omega
      have hxB : x < (boxesL t).length := by omega
      have hb := boxAt_ok hv (c := (x : Int)) hxl
      have hxb : (boxesL t)[x]? = some (boxAt t x) := hb.1
      have hxb' := get_of hxb hxB
      have hjw : IntKind.i64.wrap ((k : Int) - 1) = ((k - 1 : Nat) : Int) := by rw [show (k : Int) - 1 = ((k - 1 : Nat) : Int) by omega]; exact wr_id (by omega) (by omega)
      have ct := d55 (boxAt t x) (boxAt t m) (by have := hb.2.1; omega) (by omega)
      rw [touchL_eq] at ct
      have hgj : chain[k - 1]?.getD 0 = (x : Int) := by rw [List.getElem?_eq_getElem hj, hx]; rfl
      cases htc : touchC (boxAt t x) (boxAt t m) with
      | true =>
        rw [htc] at ct
        repeat' (first
          | with_reducible refine WP.seq ?_
          | (with_reducible ((first | refine WP.region (hn := []) ?_ | refine xC_intro (cl) ?_ | refine xC_intro (ct) ?_ | refine WP.cond' ?_); simp -implicitDefEqProofs (maxSteps := 2000000) [hP, hN, g1, g2, g3, g4, hb4, g9, g11, hlt, hw, hci, hc, c1, c2, hbl, hm, hdi, hd, hbx, hbx', hmB, hk0', hk0n, hj, hx, hxl, hxb, hxb', hxB, hjw]))
          | (with_reducible ((first | refine WP.draw (hn := []) (by rw [hP]; kernel_rfl) (by kernel_rfl) ?_ | refine yC_intro (cl) ?_ | refine yC_intro (ct) ?_); simp -implicitDefEqProofs (maxSteps := 2000000) [hP, hN, g1, g2, g3, g4, hb4, g9, g11, hlt, hw, hci, hc, c1, c2, hbl, hm, hdi, hd, hbx, hbx', hmB, hk0', hk0n, hj, hx, hxl, hxb, hxb', hxB, hjw]; (try refine ⟨by kernel_rfl, ?_⟩)))
          | (with_reducible refine xB_split (by simp [g1, g2, g3, g4, hb4, g9, g11, hlt, hw, hci, hc, c1, c2, hbl, hm, hdi, hd, hbx, hbx', hmB, hk0', hk0n, hj, hx, hxl, hxb, hxb', hxB, hjw]) (fun hgd => ?_) (fun hgd => ?_) <;> first | (exfalso; simp at hgd; done) | (exfalso; simp at hgd; omega) | simp -implicitDefEqProofs (maxSteps := 2000000) [hP, hN, g1, g2, g3, g4, hb4, g9, g11, hlt, hw, hci, hc, c1, c2, hbl, hm, hdi, hd, hbx, hbx', hmB, hk0', hk0n, hj, hx, hxl, hxb, hxb', hxB, hjw])
          | (with_reducible refine yB_split (by simp [g1, g2, g3, g4, hb4, g9, g11, hlt, hw, hci, hc, c1, c2, hbl, hm, hdi, hd, hbx, hbx', hmB, hk0', hk0n, hj, hx, hxl, hxb, hxb', hxB, hjw]) (fun hgd => ?_) (fun hgd => ?_) <;> first | (exfalso; simp at hgd; done) | (exfalso; simp at hgd; omega) | (simp -implicitDefEqProofs (maxSteps := 2000000) [hP, hN, g1, g2, g3, g4, hb4, g9, g11, hlt, hw, hci, hc, c1, c2, hbl, hm, hdi, hd, hbx, hbx', hmB, hk0', hk0n, hj, hx, hxl, hxb, hxb', hxB, hjw] <;> (try refine ⟨by kernel_rfl, ?_⟩)))
          | with_reducible refine xTwo_intro ?_ ?_
          | (with_reducible refine xCond_split (fun hcd => ?_) (fun hcd => ?_) <;> (try (exfalso; clear hP hN; simp_all; done)) <;> (try (exfalso; simp at *; omega)))
          | with_reducible refine WP.block ?_
          | (with_reducible ((first | refine WP.skip ?_ | refine WP.exit ?_ | refine WP.ret ?_); simp [g1, g2, g3, g4, hb4, g9, g11, hlt, hw, hci, hc, c1, c2, hbl, hm, hdi, hd, hbx, hbx', hmB, hk0', hk0n, hj, hx, hxl, hxb, hxb', hxB, hjw])))
        refine WP.loopN [] k (fun j st => st.t 1 = .pv (zs chain) ∧ st.t 2 = .pv (zs p) ∧ st.t 3 = .pv (zs q) ∧ st.t 4 = .ptr 4 0 ∧ st.h 4 = some (.box [.pv (iv t.root), .pv (.sl (t.cells.map encC))] true false) ∧ st.t 9 = .pv (.sl ((boxesL t).map iv)) ∧ st.t 11 = .pv (Z k) ∧ st.t 12 = .pv (Z j) ∧ (m : Int) ∉ chain.take j) (by simp [g1, g2, g3, g4, hb4, g9, g11]) ?_
        rintro j st' hj ⟨y1, y2, y3, y4, yb4, y9, y11, y12, hnot⟩
        by_cases hjk : j < k
        · have hjl : j < chain.length := by omega
          have hwj : IntKind.i64.wrap ((j : Int) + 1) = (j : Int) + 1 := wr_id (by omega) (by omega)
          by_cases heq : chain[j] = (m : Int)
          · have heq' : (chain[j] == (m : Int)) = true := by simp [heq]
            have e2 := nbad (by
              rintro ⟨_, _, _, h4, _⟩
              exact h4 (List.mem_of_getElem? (i := j) (by rw [List.getElem?_take, if_pos hjk, List.getElem?_eq_getElem hjl, heq])))
            rw [e2]
            repeat' (first
              | with_reducible refine WP.seq ?_
              | (with_reducible ((first | refine WP.region (hn := []) ?_ | refine WP.cond' ?_); simp -implicitDefEqProofs (maxSteps := 2000000) [hP, hN, y1, y2, y3, y4, yb4, y9, y11, y12, hlt, hw, hci, hc, hm, hjk, hjl, hwj, heq, heq']))
              | (with_reducible ((first | refine WP.draw (hn := []) (by rw [hP]; kernel_rfl) (by kernel_rfl) ?_); simp -implicitDefEqProofs (maxSteps := 2000000) [hP, hN, y1, y2, y3, y4, yb4, y9, y11, y12, hlt, hw, hci, hc, hm, hjk, hjl, hwj, heq, heq']; (try refine ⟨by kernel_rfl, ?_⟩)))
              | (with_reducible refine xB_split (by simp [y1, y2, y3, y4, yb4, y9, y11, y12, hlt, hw, hci, hc, hm, hjk, hjl, hwj, heq, heq']) (fun hgd => ?_) (fun hgd => ?_) <;> first | (exfalso; simp at hgd; done) | (exfalso; simp at hgd; omega) | simp -implicitDefEqProofs (maxSteps := 2000000) [hP, hN, y1, y2, y3, y4, yb4, y9, y11, y12, hlt, hw, hci, hc, hm, hjk, hjl, hwj, heq, heq'])
              | (with_reducible refine yB_split (by simp [y1, y2, y3, y4, yb4, y9, y11, y12, hlt, hw, hci, hc, hm, hjk, hjl, hwj, heq, heq']) (fun hgd => ?_) (fun hgd => ?_) <;> first | (exfalso; simp at hgd; done) | (exfalso; simp at hgd; omega) | (simp -implicitDefEqProofs (maxSteps := 2000000) [hP, hN, y1, y2, y3, y4, yb4, y9, y11, y12, hlt, hw, hci, hc, hm, hjk, hjl, hwj, heq, heq'] <;> (try refine ⟨by kernel_rfl, ?_⟩)))
              | with_reducible refine xTwo_intro ?_ ?_
              | (with_reducible refine xCond_split (fun hcd => ?_) (fun hcd => ?_) <;> (try (exfalso; clear hP hN; simp_all; done)) <;> (try (exfalso; simp at *; omega)))
              | with_reducible refine WP.block ?_
              | (with_reducible ((first | refine WP.skip ?_ | refine WP.exit ?_ | refine WP.ret ?_); simp [y1, y2, y3, y4, yb4, y9, y11, y12, hlt, hw, hci, hc, hm, hjk, hjl, hwj, heq, heq'])))
          · have heq' : (chain[j] == (m : Int)) = false := by simp [heq]
            have hno : (m : Int) ∉ chain.take (j + 1) := by
              rw [List.take_succ_eq_append_getElem hjl]
              simp only [List.mem_append, List.mem_singleton, not_or]
              exact ⟨hnot, fun h => heq h.symm⟩
            repeat' (first
              | with_reducible refine WP.seq ?_
              | (with_reducible ((first | refine WP.region (hn := []) ?_ | refine WP.cond' ?_); simp -implicitDefEqProofs (maxSteps := 2000000) [hP, hN, y1, y2, y3, y4, yb4, y9, y11, y12, hlt, hw, hci, hc, hm, hjk, hjl, hwj, heq']))
              | (with_reducible ((first | refine WP.draw (hn := []) (by rw [hP]; kernel_rfl) (by kernel_rfl) ?_); simp -implicitDefEqProofs (maxSteps := 2000000) [hP, hN, y1, y2, y3, y4, yb4, y9, y11, y12, hlt, hw, hci, hc, hm, hjk, hjl, hwj, heq']; (try refine ⟨by kernel_rfl, ?_⟩)))
              | (with_reducible refine xB_split (by simp [y1, y2, y3, y4, yb4, y9, y11, y12, hlt, hw, hci, hc, hm, hjk, hjl, hwj, heq']) (fun hgd => ?_) (fun hgd => ?_) <;> first | (exfalso; simp at hgd; done) | (exfalso; simp at hgd; omega) | simp -implicitDefEqProofs (maxSteps := 2000000) [hP, hN, y1, y2, y3, y4, yb4, y9, y11, y12, hlt, hw, hci, hc, hm, hjk, hjl, hwj, heq'])
              | (with_reducible refine yB_split (by simp [y1, y2, y3, y4, yb4, y9, y11, y12, hlt, hw, hci, hc, hm, hjk, hjl, hwj, heq']) (fun hgd => ?_) (fun hgd => ?_) <;> first | (exfalso; simp at hgd; done) | (exfalso; simp at hgd; omega) | (simp -implicitDefEqProofs (maxSteps := 2000000) [hP, hN, y1, y2, y3, y4, yb4, y9, y11, y12, hlt, hw, hci, hc, hm, hjk, hjl, hwj, heq'] <;> (try refine ⟨by kernel_rfl, ?_⟩)))
              | with_reducible refine xTwo_intro ?_ ?_
              | (with_reducible refine xCond_split (fun hcd => ?_) (fun hcd => ?_) <;> (try (exfalso; clear hP hN; simp_all; done)) <;> (try (exfalso; simp at *; omega)))
              | with_reducible refine WP.block ?_
              | (with_reducible ((first | refine WP.skip ?_ | refine WP.exit ?_ | refine WP.ret ?_); simp [y1, y2, y3, y4, yb4, y9, y11, y12, hlt, hw, hci, hc, hm, hjk, hjl, hwj, heq'])))
            all_goals exact hno
        · have hjk' : j = k := by omega
          subst hjk'
          have hnx := chB_step hch ((chStep_iff hci).2 ⟨by omega, by omega, by simp [leafN, hdi, hlf], hnot, .inr (by rw [hgj]; exact htc)⟩)
          repeat' (first
            | with_reducible refine WP.seq ?_
            | (with_reducible ((first | refine WP.region (hn := []) ?_ | refine WP.cond' ?_); simp -implicitDefEqProofs (maxSteps := 2000000) [hP, hN, y1, y2, y3, y4, yb4, y9, y11, y12, hlt, hw, hci, hc, hm, hjk]))
            | (with_reducible ((first | refine WP.draw (hn := []) (by rw [hP]; kernel_rfl) (by kernel_rfl) ?_); simp -implicitDefEqProofs (maxSteps := 2000000) [hP, hN, y1, y2, y3, y4, yb4, y9, y11, y12, hlt, hw, hci, hc, hm, hjk]; (try refine ⟨by kernel_rfl, ?_⟩)))
            | (with_reducible refine xB_split (by simp [y1, y2, y3, y4, yb4, y9, y11, y12, hlt, hw, hci, hc, hm, hjk]) (fun hgd => ?_) (fun hgd => ?_) <;> first | (exfalso; simp at hgd; done) | (exfalso; simp at hgd; omega) | simp -implicitDefEqProofs (maxSteps := 2000000) [hP, hN, y1, y2, y3, y4, yb4, y9, y11, y12, hlt, hw, hci, hc, hm, hjk])
            | (with_reducible refine yB_split (by simp [y1, y2, y3, y4, yb4, y9, y11, y12, hlt, hw, hci, hc, hm, hjk]) (fun hgd => ?_) (fun hgd => ?_) <;> first | (exfalso; simp at hgd; done) | (exfalso; simp at hgd; omega) | (simp -implicitDefEqProofs (maxSteps := 2000000) [hP, hN, y1, y2, y3, y4, yb4, y9, y11, y12, hlt, hw, hci, hc, hm, hjk] <;> (try refine ⟨by kernel_rfl, ?_⟩)))
            | with_reducible refine xTwo_intro ?_ ?_
            | (with_reducible refine xCond_split (fun hcd => ?_) (fun hcd => ?_) <;> (try (exfalso; clear hP hN; simp_all; done)) <;> (try (exfalso; simp at *; omega)))
            | with_reducible refine WP.block ?_
            | (with_reducible ((first | refine WP.skip ?_ | refine WP.exit ?_ | refine WP.ret ?_); simp [y1, y2, y3, y4, yb4, y9, y11, y12, hlt, hw, hci, hc, hm, hjk])))
          all_goals exact hnx
      | false =>
        rw [htc] at ct
        have e2 := nbad (by rintro ⟨_, _, _, _, h5⟩; rcases h5 with h5 | h5; omega; rw [hgj, htc] at h5; cases h5)
        rw [e2]
        repeat' (first
          | with_reducible refine WP.seq ?_
          | (with_reducible ((first | refine WP.region (hn := []) ?_ | refine xC_intro (cl) ?_ | refine xC_intro (ct) ?_ | refine WP.cond' ?_); simp -implicitDefEqProofs (maxSteps := 2000000) [hP, hN, g1, g2, g3, g4, hb4, g9, g11, hlt, hw, hci, hc, c1, c2, hbl, hm, hdi, hd, hbx, hbx', hmB, hk0', hk0n, hj, hx, hxl, hxb, hxb', hxB, hjw]))
          | (with_reducible ((first | refine WP.draw (hn := []) (by rw [hP]; kernel_rfl) (by kernel_rfl) ?_ | refine yC_intro (cl) ?_ | refine yC_intro (ct) ?_); simp -implicitDefEqProofs (maxSteps := 2000000) [hP, hN, g1, g2, g3, g4, hb4, g9, g11, hlt, hw, hci, hc, c1, c2, hbl, hm, hdi, hd, hbx, hbx', hmB, hk0', hk0n, hj, hx, hxl, hxb, hxb', hxB, hjw]; (try refine ⟨by kernel_rfl, ?_⟩)))
          | (with_reducible refine xB_split (by simp [g1, g2, g3, g4, hb4, g9, g11, hlt, hw, hci, hc, c1, c2, hbl, hm, hdi, hd, hbx, hbx', hmB, hk0', hk0n, hj, hx, hxl, hxb, hxb', hxB, hjw]) (fun hgd => ?_) (fun hgd => ?_) <;> first | (exfalso; simp at hgd; done) | (exfalso; simp at hgd; omega) | simp -implicitDefEqProofs (maxSteps := 2000000) [hP, hN, g1, g2, g3, g4, hb4, g9, g11, hlt, hw, hci, hc, c1, c2, hbl, hm, hdi, hd, hbx, hbx', hmB, hk0', hk0n, hj, hx, hxl, hxb, hxb', hxB, hjw])
          | (with_reducible refine yB_split (by simp [g1, g2, g3, g4, hb4, g9, g11, hlt, hw, hci, hc, c1, c2, hbl, hm, hdi, hd, hbx, hbx', hmB, hk0', hk0n, hj, hx, hxl, hxb, hxb', hxB, hjw]) (fun hgd => ?_) (fun hgd => ?_) <;> first | (exfalso; simp at hgd; done) | (exfalso; simp at hgd; omega) | (simp -implicitDefEqProofs (maxSteps := 2000000) [hP, hN, g1, g2, g3, g4, hb4, g9, g11, hlt, hw, hci, hc, c1, c2, hbl, hm, hdi, hd, hbx, hbx', hmB, hk0', hk0n, hj, hx, hxl, hxb, hxb', hxB, hjw] <;> (try refine ⟨by kernel_rfl, ?_⟩)))
          | with_reducible refine xTwo_intro ?_ ?_
          | (with_reducible refine xCond_split (fun hcd => ?_) (fun hcd => ?_) <;> (try (exfalso; clear hP hN; simp_all; done)) <;> (try (exfalso; simp at *; omega)))
          | with_reducible refine WP.block ?_
          | (with_reducible ((first | refine WP.skip ?_ | refine WP.exit ?_ | refine WP.ret ?_); simp [g1, g2, g3, g4, hb4, g9, g11, hlt, hw, hci, hc, c1, c2, hbl, hm, hdi, hd, hbx, hbx', hmB, hk0', hk0n, hj, hx, hxl, hxb, hxb', hxB, hjw])))
  · have hk' : k = chain.length := by omega
    subst hk'
    have hpre : chPre t chain p q = true := chPre_iff.2 ⟨hv, hp, hq, hne, chB_iff.1 hch⟩
    have hC := chPre_iff.1 hpre
    have hl1 : chain.length - 1 < chain.length := by omega
    have e2 : chainOk t chain p q = (hasC (boxAt t chain[0]) p && hasC (boxAt t (chain[chain.length - 1])) q) := by
      simp [chainOk, hpre, chEnds, List.getElem?_eq_getElem hpos, List.getElem?_eq_getElem hl1]
    rw [e2]
    obtain ⟨x, hx⟩ := Int.eq_ofNat_of_zero_le (hC.get hpos).1
    obtain ⟨y, hy⟩ := Int.eq_ofNat_of_zero_le (hC.get hl1).1
    have bx := hC.box hpos
    have bY := hC.box hl1
    have hxl := (hC.get hpos).2.1
    have hyl := (hC.get hl1).2.1
    rw [hx] at bx hxl ⊢
    rw [hy] at bY hyl ⊢
    have hxB : x < (boxesL t).length := by omega
    have hyB : y < (boxesL t).length := by omega
    have bx1 : (boxesL t)[x]? = some (boxAt t x) := bx.1
    have by1 : (boxesL t)[y]? = some (boxAt t y) := bY.1
    have bx2 := get_of bx1 hxB
    have by2 := get_of by1 hyB
    have ca := d30 (boxAt t x) p (by have := bx.2.1; omega) hpl
    have cz := d30 (boxAt t y) q (by have := bY.2.1; omega) hql
    rw [hasL_eq] at ca cz
    have hw1 : IntKind.i64.wrap ((chain.length : Int) - 1) = ((chain.length - 1 : Nat) : Int) := by rw [show (chain.length : Int) - 1 = ((chain.length - 1 : Nat) : Int) by omega]; exact wr_id (by omega) (by omega)
    cases hA : hasC (boxAt t x) p with
    | false =>
      rw [hA] at ca
      repeat' (first
        | with_reducible refine WP.seq ?_
        | (with_reducible ((first | refine WP.region (hn := []) ?_ | refine xC_intro (ca) ?_ | refine WP.cond' ?_); simp -implicitDefEqProofs (maxSteps := 2000000) [hP, hN, g1, g2, g3, g4, hb4, g9, g11, hlt, hpos, hl1, hw1, hx, hy, bx1, by1, bx2, by2, hxB, hyB]))
        | (with_reducible ((first | refine WP.draw (hn := []) (by rw [hP]; kernel_rfl) (by kernel_rfl) ?_ | refine yC_intro (ca) ?_); simp -implicitDefEqProofs (maxSteps := 2000000) [hP, hN, g1, g2, g3, g4, hb4, g9, g11, hlt, hpos, hl1, hw1, hx, hy, bx1, by1, bx2, by2, hxB, hyB]; (try refine ⟨by kernel_rfl, ?_⟩)))
        | (with_reducible refine xB_split (by simp [g1, g2, g3, g4, hb4, g9, g11, hlt, hpos, hl1, hw1, hx, hy, bx1, by1, bx2, by2, hxB, hyB]) (fun hgd => ?_) (fun hgd => ?_) <;> first | (exfalso; simp at hgd; done) | (exfalso; simp at hgd; omega) | simp -implicitDefEqProofs (maxSteps := 2000000) [hP, hN, g1, g2, g3, g4, hb4, g9, g11, hlt, hpos, hl1, hw1, hx, hy, bx1, by1, bx2, by2, hxB, hyB])
        | (with_reducible refine yB_split (by simp [g1, g2, g3, g4, hb4, g9, g11, hlt, hpos, hl1, hw1, hx, hy, bx1, by1, bx2, by2, hxB, hyB]) (fun hgd => ?_) (fun hgd => ?_) <;> first | (exfalso; simp at hgd; done) | (exfalso; simp at hgd; omega) | (simp -implicitDefEqProofs (maxSteps := 2000000) [hP, hN, g1, g2, g3, g4, hb4, g9, g11, hlt, hpos, hl1, hw1, hx, hy, bx1, by1, bx2, by2, hxB, hyB] <;> (try refine ⟨by kernel_rfl, ?_⟩)))
        | with_reducible refine xTwo_intro ?_ ?_
        | (with_reducible refine xCond_split (fun hcd => ?_) (fun hcd => ?_) <;> (try (exfalso; clear hP hN; simp_all; done)) <;> (try (exfalso; simp at *; omega)))
        | with_reducible refine WP.block ?_
        | (with_reducible ((first | refine WP.skip ?_ | refine WP.exit ?_ | refine WP.ret ?_); simp [g1, g2, g3, g4, hb4, g9, g11, hlt, hpos, hl1, hw1, hx, hy, bx1, by1, bx2, by2, hxB, hyB])))
    | true =>
      rw [hA] at ca
      generalize hasC (boxAt t y) q = Z9 at *
      repeat' (first
        | with_reducible refine WP.seq ?_
        | (with_reducible ((first | refine WP.region (hn := []) ?_ | refine xC_intro (ca) ?_ | refine xC_intro (cz) ?_ | refine WP.cond' ?_); simp -implicitDefEqProofs (maxSteps := 2000000) [hP, hN, g1, g2, g3, g4, hb4, g9, g11, hlt, hpos, hl1, hw1, hx, hy, bx1, by1, bx2, by2, hxB, hyB]))
        | (with_reducible ((first | refine WP.draw (hn := []) (by rw [hP]; kernel_rfl) (by kernel_rfl) ?_ | refine yC_intro (ca) ?_ | refine yC_intro (cz) ?_); simp -implicitDefEqProofs (maxSteps := 2000000) [hP, hN, g1, g2, g3, g4, hb4, g9, g11, hlt, hpos, hl1, hw1, hx, hy, bx1, by1, bx2, by2, hxB, hyB]; (try refine ⟨by kernel_rfl, ?_⟩)))
        | (with_reducible refine xB_split (by simp [g1, g2, g3, g4, hb4, g9, g11, hlt, hpos, hl1, hw1, hx, hy, bx1, by1, bx2, by2, hxB, hyB]) (fun hgd => ?_) (fun hgd => ?_) <;> first | (exfalso; simp at hgd; done) | (exfalso; simp at hgd; omega) | simp -implicitDefEqProofs (maxSteps := 2000000) [hP, hN, g1, g2, g3, g4, hb4, g9, g11, hlt, hpos, hl1, hw1, hx, hy, bx1, by1, bx2, by2, hxB, hyB])
        | (with_reducible refine yB_split (by simp [g1, g2, g3, g4, hb4, g9, g11, hlt, hpos, hl1, hw1, hx, hy, bx1, by1, bx2, by2, hxB, hyB]) (fun hgd => ?_) (fun hgd => ?_) <;> first | (exfalso; simp at hgd; done) | (exfalso; simp at hgd; omega) | (simp -implicitDefEqProofs (maxSteps := 2000000) [hP, hN, g1, g2, g3, g4, hb4, g9, g11, hlt, hpos, hl1, hw1, hx, hy, bx1, by1, bx2, by2, hxB, hyB] <;> (try refine ⟨by kernel_rfl, ?_⟩)))
        | with_reducible refine xTwo_intro ?_ ?_
        | (with_reducible refine xCond_split (fun hcd => ?_) (fun hcd => ?_) <;> (try (exfalso; clear hP hN; simp_all; done)) <;> (try (exfalso; simp at *; omega)))
        | with_reducible refine WP.block ?_
        | (with_reducible ((first | refine WP.skip ?_ | refine WP.exit ?_ | refine WP.ret ?_); simp [g1, g2, g3, g4, hb4, g9, g11, hlt, hpos, hl1, hw1, hx, hy, bx1, by1, bx2, by2, hxB, hyB])))
def sameLL (xs ys : List (List Int)) : Bool := decide (xs.length = ys.length) && allZ sameX xs ys
theorem sameLL_refl (xs : List (List Int)) : sameLL xs xs = true := by
  simp only [sameLL, decide_true, Bool.true_and]
  refine allZ_get.2 fun i x y hx hy => ?_
  rw [hx] at hy; injection hy with hy; subst hy
  exact same_refl x
end Go.Ab
