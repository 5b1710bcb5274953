/- Contracts: floods, V: the reference. -/
import Derived.Test.YtagmnknighofeaaCu5
set_option linter.all false
namespace Go.Ab
open Go.Proofs
theorem touchC_sw {a b : Bx} (ha : allB vI a = true) (hb : allB vI b = true) : touchC a b = touchC b a := by
  rw [Bool.eq_iff_iff, touchC_vi ha hb, touchC_vi hb ha]
  exact ⟨fun ⟨h1, h2⟩ => ⟨h1.symm, fun i x y hx hy => (h2 i y x hy hx).symm⟩, fun ⟨h1, h2⟩ => ⟨h1.symm, fun i x y hx hy => (h2 i y x hy hx).symm⟩⟩
theorem touchT_swap {t : Tr} (hv : validT t = true) {i j : Nat} (hi : i < t.cells.length) (hj : j < t.cells.length) : tchT t i j = tchT t j i := by
  obtain ⟨_, _, v1⟩ := boxAt_ok hv (c := (i : Int)) (by simpa using hi)
  obtain ⟨_, _, v2⟩ := boxAt_ok hv (c := (j : Int)) (by simpa using hj)
  exact touchC_sw v1 v2
set_option maxRecDepth 10000 in
set_option maxHeartbeats 16000000 in
theorem d139 (t : Tr) (p : List Int) (V : List Bool) (hl : t.cells.length ≤ 9223372036854775807) (hr : t.root.length ≤ 9223372036854775807) (hp : p.length ≤ 9223372036854775807) (hV : IsF t p V) : DetH Try.prog 139 [.pv (encT t), .pv (zs p)] [] [] (.pv (.sl ((fldL t p V).map B))) := by
  have cb := d52 t hl
  have ch := d30 t.root p hr hp
  rw [hasL_eq] at ch
  unfold fldL floodOk
  cases hv : validT t with
  | false =>
    rw [hv] at cb
    refine detP_of Try.func139 rfl (by kernel_rfl) (by simp [Try.f139]) rfl ?_
    intro C hP hN
    simp only [Try.f139] at hN ⊢
    repeat' (first
      | with_reducible refine WP.seq ?_
      | (with_reducible ((first | refine WP.region (hn := []) ?_ | refine xC_intro (cb) ?_ | refine WP.cond' ?_); simp -implicitDefEqProofs (maxSteps := 2000000) [hP, hN]))
      | (with_reducible ((first | refine WP.draw (hn := []) (by rw [hP]; kernel_rfl) (by kernel_rfl) ?_ | refine yC_intro (cb) ?_); simp -implicitDefEqProofs (maxSteps := 2000000) [hP, hN]; (try refine ⟨by kernel_rfl, ?_⟩)))
      | (with_reducible refine xB_split (by simp) (fun hgd => ?_) (fun hgd => ?_) <;> first | (exfalso; simp at hgd; done) | (exfalso; simp at hgd; omega) | simp -implicitDefEqProofs (maxSteps := 2000000) [hP, hN])
      | (with_reducible refine yB_split (by simp) (fun hgd => ?_) (fun hgd => ?_) <;> first | (exfalso; simp at hgd; done) | (exfalso; simp at hgd; omega) | (simp -implicitDefEqProofs (maxSteps := 2000000) [hP, hN] <;> (try refine ⟨by kernel_rfl, ?_⟩)))
      | with_reducible refine xTwo_intro ?_ ?_
      | (with_reducible refine xCond_split (fun hcd => ?_) (fun hcd => ?_) <;> (try (exfalso; clear hP hN; simp_all; done)) <;> (try (exfalso; simp at *; omega)))
      | with_reducible refine WP.block ?_
      | (with_reducible ((first | refine WP.skip ?_ | refine WP.exit ?_ | refine WP.ret ?_); simp)))
  | true =>
  rw [hv] at cb
  cases hh : hasC t.root p with
  | false =>
    rw [hh] at ch
    refine detP_of Try.func139 rfl (by kernel_rfl) (by simp [Try.f139]) rfl ?_
    intro C hP hN
    simp only [Try.f139] at hN ⊢
    repeat' (first
      | with_reducible refine WP.seq ?_
      | (with_reducible ((first | refine WP.region (hn := []) ?_ | refine xC_intro (cb) ?_ | refine xC_intro (ch) ?_ | refine WP.cond' ?_); simp -implicitDefEqProofs (maxSteps := 2000000) [hP, hN]))
      | (with_reducible ((first | refine WP.draw (hn := []) (by rw [hP]; kernel_rfl) (by kernel_rfl) ?_ | refine yC_intro (cb) ?_ | refine yC_intro (ch) ?_); simp -implicitDefEqProofs (maxSteps := 2000000) [hP, hN]; (try refine ⟨by kernel_rfl, ?_⟩)))
      | (with_reducible refine xB_split (by simp) (fun hgd => ?_) (fun hgd => ?_) <;> first | (exfalso; simp at hgd; done) | (exfalso; simp at hgd; omega) | simp -implicitDefEqProofs (maxSteps := 2000000) [hP, hN])
      | (with_reducible refine yB_split (by simp) (fun hgd => ?_) (fun hgd => ?_) <;> first | (exfalso; simp at hgd; done) | (exfalso; simp at hgd; omega) | (simp -implicitDefEqProofs (maxSteps := 2000000) [hP, hN] <;> (try refine ⟨by kernel_rfl, ?_⟩)))
      | with_reducible refine xTwo_intro ?_ ?_
      | (with_reducible refine xCond_split (fun hcd => ?_) (fun hcd => ?_) <;> (try (exfalso; clear hP hN; simp_all; done)) <;> (try (exfalso; simp at *; omega)))
      | with_reducible refine WP.block ?_
      | (with_reducible ((first | refine WP.skip ?_ | refine WP.exit ?_ | refine WP.ret ?_); simp)))
  | true =>
  rw [hh] at ch
  have hz := sizeOk_iff.1 (valid_size hv)
  have hbl := boxesL_len hv
  have hbg : ∀ i, i < t.cells.length → (boxesL t)[i]? = some (boxAt t (i : Int)) ∧ (boxAt t (i : Int)).length ≤ 9223372036854775807 := fun i hi => by
    obtain ⟨a, b, _⟩ := boxAt_ok hv (c := (i : Int)) (by simpa using hi)
    exact ⟨by simpa using a, by omega⟩
  obtain ⟨n, hnn⟩ : ∃ n, t.cells.length = n := ⟨_, rfl⟩
  have hfi := fi_init n (opnT t) (tchT t) (fun i => opnT t i && hasT t p i)
  have hS : (fun i => i < n ∧ (opnT t i && hasT t p i) = true) = strT t p := by funext i; simp [strT, hnn]
  rw [hS] at hfi
  unfold IsF at hV
  have hsw := fun i j hi hj => touchT_swap hv (i := i) (j := j) hi hj
  rw [hnn] at hV hz hl hsw
  have hbl' : (boxesL t).length = n := by omega
  refine detP_of Try.func139 rfl (by kernel_rfl) (by simp [Try.f139]) rfl ?_
  intro C hP hN
  simp only [Try.f139] at hN ⊢
  repeat' (first
    | with_reducible refine WP.seq ?_
    | (with_reducible ((first | refine WP.region (hn := [8]) ?_ | refine xC_intro (cb) ?_ | refine xC_intro (ch) ?_ | refine WP.cond' ?_); simp -implicitDefEqProofs (maxSteps := 2000000) [hP, hN, hbl', show (1 : Int) * n ≤ 281474976710656 by omega, show (n : Int) ≤ 281474976710656 by omega, show (n : Int) ≤ 9223372036854775807 by omega]))
    | (with_reducible ((first | refine WP.draw (hn := [8]) (by rw [hP]; kernel_rfl) (by kernel_rfl) ?_ | refine yC_intro (cb) ?_ | refine yC_intro (ch) ?_); simp -implicitDefEqProofs (maxSteps := 2000000) [hP, hN, hbl', show (1 : Int) * n ≤ 281474976710656 by omega, show (n : Int) ≤ 281474976710656 by omega, show (n : Int) ≤ 9223372036854775807 by omega]; (try refine ⟨by kernel_rfl, ?_⟩)))
    | (with_reducible refine xB_split (by simp [hbl', show (1 : Int) * n ≤ 281474976710656 by omega, show (n : Int) ≤ 281474976710656 by omega, show (n : Int) ≤ 9223372036854775807 by omega]) (fun hgd => ?_) (fun hgd => ?_) <;> first | (exfalso; simp at hgd; done) | (exfalso; simp at hgd; omega) | simp -implicitDefEqProofs (maxSteps := 2000000) [hP, hN, hbl', show (1 : Int) * n ≤ 281474976710656 by omega, show (n : Int) ≤ 281474976710656 by omega, show (n : Int) ≤ 9223372036854775807 by omega])
    | (with_reducible refine yB_split (by simp [hbl', show (1 : Int) * n ≤ 281474976710656 by omega, show (n : Int) ≤ 281474976710656 by omega, show (n : Int) ≤ 9223372036854775807 by omega]) (fun hgd => ?_) (fun hgd => ?_) <;> first | (exfalso; simp at hgd; done) | (exfalso; simp at hgd; omega) | (simp -implicitDefEqProofs (maxSteps := 2000000) [hP, hN, hbl', show (1 : Int) * n ≤ 281474976710656 by omega, show (n : Int) ≤ 281474976710656 by omega, show (n : Int) ≤ 9223372036854775807 by omega] <;> (try refine ⟨by kernel_rfl, ?_⟩)))
    | with_reducible refine xTwo_intro ?_ ?_
    | (with_reducible refine xCond_split (fun hcd => ?_) (fun hcd => ?_) <;> (try (exfalso; clear hP hN; simp_all; done)) <;> (try (exfalso; simp at *; omega)))
    | with_reducible refine WP.block ?_
    | (with_reducible ((first | refine WP.skip ?_ | refine WP.exit ?_ | refine WP.ret ?_); simp [hbl', show (1 : Int) * n ≤ 281474976710656 by omega, show (n : Int) ≤ 281474976710656 by omega, show (n : Int) ≤ 9223372036854775807 by omega])))
  refine WP.loopN [] n (fun i st => st.t 1 = .pv (zs p) ∧ st.t 2 = .ptr 2 0 ∧ st.t 5 = .pv (.sl ((boxesL t).map iv)) ∧ st.t 7 = .arr 28 n ∧ st.t 8 = .arr 8 (fF (fun i => opnT t i && hasT t p i) i).length ∧ st.t 9 = .pv (Z i) ∧ st.h 2 = some (.box [.pv (iv t.root), .pv (.sl (t.cells.map encC))] true false) ∧ st.h 28 = some (.row 4 1 ((fU n (fun i => opnT t i && hasT t p i) i).map B) 0) ∧ st.h 8 = some (.row 3 1 ((fF (fun i => opnT t i && hasT t p i) i).map zN) 0)) (by simp [fU_zero, fF]) ?_
  rintro i st hi ⟨g1, g2, g5, g7, g8, g9, hb2, hb28, hb8⟩
  have hUl := fU_len n (fun i => opnT t i && hasT t p i) i
  have hFl := fF_len (fun i => opnT t i && hasT t p i) i
  by_cases hlt : i < n
  · have hw := wr_succ hlt (by omega)
    have hic : i < t.cells.length := by omega
    have hib : i < (boxesL t).length := by omega
    obtain ⟨hbi, hbil⟩ := hbg i hic
    have hbi' := get_of hbi hib
    have c2 := d30 (boxAt t (i : Int)) p hbil hp
    rw [hasL_eq] at c2
    have hT : hasT t p i = hasC (boxAt t (i : Int)) p := rfl
    generalize hc : t.cells[i] = c at *
    have hci : t.cells[i]? = some c := by rw [List.getElem?_eq_getElem hic, hc]
    have hO : opnT t i = (leafB c && !(c.v.kind == 2)) := by simp only [opnT, hci, opnB, colB]; cases leafB c <;> simp
    have cl := d116 c
    have hUn := fU_no (n := n) (s := fun i => opnT t i && hasT t p i) (i := i)
    have hFn := fF_no (s := fun i => opnT t i && hasT t p i) (i := i)
    have hUy := fU_yes (n := n) (s := fun i => opnT t i && hasT t p i) hlt
    have hFy := fF_yes (s := fun i => opnT t i && hasT t p i) (i := i)
    simp only [hO, hT] at hUn hFn hUy hFy
    generalize fU n (fun i => opnT t i && hasT t p i) i = U at *
    generalize fU n (fun i => opnT t i && hasT t p i) (i + 1) = U' at *
    generalize fF (fun i => opnT t i && hasT t p i) i = F at *
    generalize fF (fun i => opnT t i && hasT t p i) (i + 1) = F' at *
    have hiU : i < U.length := by omega
    cases hlf : leafB c with
    | false =>
      rw [hlf] at cl hUn hFn
      have e1 := hUn (by simp)
      have e2 := hFn (by simp)
      subst e1; subst e2
      repeat' (first
        | with_reducible refine WP.seq ?_
        | (with_reducible ((first | refine WP.region (hn := []) ?_ | refine xC_intro (cl) ?_ | refine WP.cond' ?_); simp -implicitDefEqProofs (maxSteps := 2000000) [hP, hN, g1, g2, g5, g7, g8, g9, hb2, hb28, hb8, hlt, hw, hbl', hic, hci, hc]))
        | (with_reducible ((first | refine WP.draw (hn := []) (by rw [hP]; kernel_rfl) (by kernel_rfl) ?_ | refine yC_intro (cl) ?_); simp -implicitDefEqProofs (maxSteps := 2000000) [hP, hN, g1, g2, g5, g7, g8, g9, hb2, hb28, hb8, hlt, hw, hbl', hic, hci, hc]; (try refine ⟨by kernel_rfl, ?_⟩)))
        | (with_reducible refine xB_split (by simp [g1, g2, g5, g7, g8, g9, hb2, hb28, hb8, hlt, hw, hbl', hic, hci, hc]) (fun hgd => ?_) (fun hgd => ?_) <;> first | (exfalso; simp at hgd; done) | (exfalso; simp at hgd; omega) | simp -implicitDefEqProofs (maxSteps := 2000000) [hP, hN, g1, g2, g5, g7, g8, g9, hb2, hb28, hb8, hlt, hw, hbl', hic, hci, hc])
        | (with_reducible refine yB_split (by simp [g1, g2, g5, g7, g8, g9, hb2, hb28, hb8, hlt, hw, hbl', hic, hci, hc]) (fun hgd => ?_) (fun hgd => ?_) <;> first | (exfalso; simp at hgd; done) | (exfalso; simp at hgd; omega) | (simp -implicitDefEqProofs (maxSteps := 2000000) [hP, hN, g1, g2, g5, g7, g8, g9, hb2, hb28, hb8, hlt, hw, hbl', hic, hci, hc] <;> (try refine ⟨by kernel_rfl, ?_⟩)))
        | with_reducible refine xTwo_intro ?_ ?_
        | (with_reducible refine xCond_split (fun hcd => ?_) (fun hcd => ?_) <;> (try (exfalso; clear hP hN; simp_all; done)) <;> (try (exfalso; simp at *; omega)))
        | with_reducible refine WP.block ?_
        | (with_reducible ((first | refine WP.skip ?_ | refine WP.exit ?_ | refine WP.ret ?_); simp [g1, g2, g5, g7, g8, g9, hb2, hb28, hb8, hlt, hw, hbl', hic, hci, hc])))
    | true =>
    rw [hlf] at cl hUn hFn hUy hFy
    cases hkd : (c.v.kind == 2) with
    | true =>
      rw [hkd] at hUn hFn
      have e1 := hUn (by simp)
      have e2 := hFn (by simp)
      subst e1; subst e2
      have hkd2 : (c.v.kind != 2) = false := by simp [bne, hkd]
      repeat' (first
        | with_reducible refine WP.seq ?_
        | (with_reducible ((first | refine WP.region (hn := []) ?_ | refine xC_intro (cl) ?_ | refine WP.cond' ?_); simp -implicitDefEqProofs (maxSteps := 2000000) [hP, hN, g1, g2, g5, g7, g8, g9, hb2, hb28, hb8, hlt, hw, hbl', hic, hci, hc, hkd2]))
        | (with_reducible ((first | refine WP.draw (hn := []) (by rw [hP]; kernel_rfl) (by kernel_rfl) ?_ | refine yC_intro (cl) ?_); simp -implicitDefEqProofs (maxSteps := 2000000) [hP, hN, g1, g2, g5, g7, g8, g9, hb2, hb28, hb8, hlt, hw, hbl', hic, hci, hc, hkd2]; (try refine ⟨by kernel_rfl, ?_⟩)))
        | (with_reducible refine xB_split (by simp [g1, g2, g5, g7, g8, g9, hb2, hb28, hb8, hlt, hw, hbl', hic, hci, hc, hkd2]) (fun hgd => ?_) (fun hgd => ?_) <;> first | (exfalso; simp at hgd; done) | (exfalso; simp at hgd; omega) | simp -implicitDefEqProofs (maxSteps := 2000000) [hP, hN, g1, g2, g5, g7, g8, g9, hb2, hb28, hb8, hlt, hw, hbl', hic, hci, hc, hkd2])
        | (with_reducible refine yB_split (by simp [g1, g2, g5, g7, g8, g9, hb2, hb28, hb8, hlt, hw, hbl', hic, hci, hc, hkd2]) (fun hgd => ?_) (fun hgd => ?_) <;> first | (exfalso; simp at hgd; done) | (exfalso; simp at hgd; omega) | (simp -implicitDefEqProofs (maxSteps := 2000000) [hP, hN, g1, g2, g5, g7, g8, g9, hb2, hb28, hb8, hlt, hw, hbl', hic, hci, hc, hkd2] <;> (try refine ⟨by kernel_rfl, ?_⟩)))
        | with_reducible refine xTwo_intro ?_ ?_
        | (with_reducible refine xCond_split (fun hcd => ?_) (fun hcd => ?_) <;> (try (exfalso; clear hP hN; simp_all; done)) <;> (try (exfalso; simp at *; omega)))
        | with_reducible refine WP.block ?_
        | (with_reducible ((first | refine WP.skip ?_ | refine WP.exit ?_ | refine WP.ret ?_); simp [g1, g2, g5, g7, g8, g9, hb2, hb28, hb8, hlt, hw, hbl', hic, hci, hc, hkd2])))
    | false =>
    rw [hkd] at hUn hFn hUy hFy
    have hkd2 : (c.v.kind != 2) = true := by simp [bne, hkd]
    cases h9 : hasC (boxAt t (i : Int)) p with
    | false =>
      rw [h9] at c2 hUn hFn
      have e1 := hUn (by simp)
      have e2 := hFn (by simp)
      subst e1; subst e2
      repeat' (first
        | with_reducible refine WP.seq ?_
        | (with_reducible ((first | refine WP.region (hn := []) ?_ | refine xC_intro (cl) ?_ | refine xC_intro (c2) ?_ | refine WP.cond' ?_); simp -implicitDefEqProofs (maxSteps := 2000000) [hP, hN, g1, g2, g5, g7, g8, g9, hb2, hb28, hb8, hlt, hw, hbl', hic, hci, hc, hkd2, hib, hbi, hbi']))
        | (with_reducible ((first | refine WP.draw (hn := []) (by rw [hP]; kernel_rfl) (by kernel_rfl) ?_ | refine yC_intro (cl) ?_ | refine yC_intro (c2) ?_); simp -implicitDefEqProofs (maxSteps := 2000000) [hP, hN, g1, g2, g5, g7, g8, g9, hb2, hb28, hb8, hlt, hw, hbl', hic, hci, hc, hkd2, hib, hbi, hbi']; (try refine ⟨by kernel_rfl, ?_⟩)))
        | (with_reducible refine xB_split (by simp [g1, g2, g5, g7, g8, g9, hb2, hb28, hb8, hlt, hw, hbl', hic, hci, hc, hkd2, hib, hbi, hbi']) (fun hgd => ?_) (fun hgd => ?_) <;> first | (exfalso; simp at hgd; done) | (exfalso; simp at hgd; omega) | simp -implicitDefEqProofs (maxSteps := 2000000) [hP, hN, g1, g2, g5, g7, g8, g9, hb2, hb28, hb8, hlt, hw, hbl', hic, hci, hc, hkd2, hib, hbi, hbi'])
        | (with_reducible refine yB_split (by simp [g1, g2, g5, g7, g8, g9, hb2, hb28, hb8, hlt, hw, hbl', hic, hci, hc, hkd2, hib, hbi, hbi']) (fun hgd => ?_) (fun hgd => ?_) <;> first | (exfalso; simp at hgd; done) | (exfalso; simp at hgd; omega) | (simp -implicitDefEqProofs (maxSteps := 2000000) [hP, hN, g1, g2, g5, g7, g8, g9, hb2, hb28, hb8, hlt, hw, hbl', hic, hci, hc, hkd2, hib, hbi, hbi'] <;> (try refine ⟨by kernel_rfl, ?_⟩)))
        | with_reducible refine xTwo_intro ?_ ?_
        | (with_reducible refine xCond_split (fun hcd => ?_) (fun hcd => ?_) <;> (try (exfalso; clear hP hN; simp_all; done)) <;> (try (exfalso; simp at *; omega)))
        | with_reducible refine WP.block ?_
        | (with_reducible ((first | refine WP.skip ?_ | refine WP.exit ?_ | refine WP.ret ?_); simp [g1, g2, g5, g7, g8, g9, hb2, hb28, hb8, hlt, hw, hbl', hic, hci, hc, hkd2, hib, hbi, hbi'])))
    | true =>
      rw [h9] at c2 hUy hFy
      have e1 := hUy rfl
      have e2 := hFy rfl
      repeat' (first
        | with_reducible refine WP.seq ?_
        | (with_reducible ((first | refine WP.region (hn := []) ?_ | refine xC_intro (cl) ?_ | refine xC_intro (c2) ?_ | refine WP.cond' ?_); simp -implicitDefEqProofs (maxSteps := 2000000) [hP, hN, g1, g2, g5, g7, g8, g9, hb2, hb28, hb8, hlt, hw, hbl', hic, hci, hc, hkd2, hib, hbi, hbi', hUl, hiU, show (F.length + 1) * 8 ≤ 140737488355328 by omega, show F.length + 1 ≤ 9223372036854775807 by omega]))
        | (with_reducible ((first | refine WP.draw (hn := []) (by rw [hP]; kernel_rfl) (by kernel_rfl) ?_ | refine yC_intro (cl) ?_ | refine yC_intro (c2) ?_); simp -implicitDefEqProofs (maxSteps := 2000000) [hP, hN, g1, g2, g5, g7, g8, g9, hb2, hb28, hb8, hlt, hw, hbl', hic, hci, hc, hkd2, hib, hbi, hbi', hUl, hiU, show (F.length + 1) * 8 ≤ 140737488355328 by omega, show F.length + 1 ≤ 9223372036854775807 by omega]; (try refine ⟨by kernel_rfl, ?_⟩)))
        | (with_reducible refine xB_split (by simp [g1, g2, g5, g7, g8, g9, hb2, hb28, hb8, hlt, hw, hbl', hic, hci, hc, hkd2, hib, hbi, hbi', hUl, hiU, show (F.length + 1) * 8 ≤ 140737488355328 by omega, show F.length + 1 ≤ 9223372036854775807 by omega]) (fun hgd => ?_) (fun hgd => ?_) <;> first | (exfalso; simp at hgd; done) | (exfalso; simp at hgd; omega) | simp -implicitDefEqProofs (maxSteps := 2000000) [hP, hN, g1, g2, g5, g7, g8, g9, hb2, hb28, hb8, hlt, hw, hbl', hic, hci, hc, hkd2, hib, hbi, hbi', hUl, hiU, show (F.length + 1) * 8 ≤ 140737488355328 by omega, show F.length + 1 ≤ 9223372036854775807 by omega])
        | (with_reducible refine yB_split (by simp [g1, g2, g5, g7, g8, g9, hb2, hb28, hb8, hlt, hw, hbl', hic, hci, hc, hkd2, hib, hbi, hbi', hUl, hiU, show (F.length + 1) * 8 ≤ 140737488355328 by omega, show F.length + 1 ≤ 9223372036854775807 by omega]) (fun hgd => ?_) (fun hgd => ?_) <;> first | (exfalso; simp at hgd; done) | (exfalso; simp at hgd; omega) | (simp -implicitDefEqProofs (maxSteps := 2000000) [hP, hN, g1, g2, g5, g7, g8, g9, hb2, hb28, hb8, hlt, hw, hbl', hic, hci, hc, hkd2, hib, hbi, hbi', hUl, hiU, show (F.length + 1) * 8 ≤ 140737488355328 by omega, show F.length + 1 ≤ 9223372036854775807 by omega] <;> (try refine ⟨by kernel_rfl, ?_⟩)))
        | with_reducible refine xTwo_intro ?_ ?_
        | (with_reducible refine xCond_split (fun hcd => ?_) (fun hcd => ?_) <;> (try (exfalso; clear hP hN; simp_all; done)) <;> (try (exfalso; simp at *; omega)))
        | with_reducible refine WP.block ?_
        | (with_reducible ((first | refine WP.skip ?_ | refine WP.exit ?_ | refine WP.ret ?_); simp [g1, g2, g5, g7, g8, g9, hb2, hb28, hb8, hlt, hw, hbl', hic, hci, hc, hkd2, hib, hbi, hbi', hUl, hiU, show (F.length + 1) * 8 ≤ 140737488355328 by omega, show F.length + 1 ≤ 9223372036854775807 by omega])))
      all_goals simp [e2, ← e1, List.map_set]
  have hi' : i = n := by omega
  subst hi'
  have hUm := unm_le (fU i (fun i => opnT t i && hasT t p i) i)
  generalize fU i (fun i => opnT t i && hasT t p i) i = U0 at *
  generalize fF (fun i => opnT t i && hasT t p i) i = F0 at *
  repeat' (first
    | with_reducible refine WP.seq ?_
    | (with_reducible ((first | refine WP.region (hn := []) ?_ | refine WP.cond' ?_); simp -implicitDefEqProofs (maxSteps := 2000000) [hP, hN, g1, g2, g5, g7, g8, g9, hb2, hb28, hb8, hlt, hbl']))
    | (with_reducible ((first | refine WP.draw (hn := []) (by rw [hP]; kernel_rfl) (by kernel_rfl) ?_); simp -implicitDefEqProofs (maxSteps := 2000000) [hP, hN, g1, g2, g5, g7, g8, g9, hb2, hb28, hb8, hlt, hbl']; (try refine ⟨by kernel_rfl, ?_⟩)))
    | (with_reducible refine xB_split (by simp [g1, g2, g5, g7, g8, g9, hb2, hb28, hb8, hlt, hbl']) (fun hgd => ?_) (fun hgd => ?_) <;> first | (exfalso; simp at hgd; done) | (exfalso; simp at hgd; omega) | simp -implicitDefEqProofs (maxSteps := 2000000) [hP, hN, g1, g2, g5, g7, g8, g9, hb2, hb28, hb8, hlt, hbl'])
    | (with_reducible refine yB_split (by simp [g1, g2, g5, g7, g8, g9, hb2, hb28, hb8, hlt, hbl']) (fun hgd => ?_) (fun hgd => ?_) <;> first | (exfalso; simp at hgd; done) | (exfalso; simp at hgd; omega) | (simp -implicitDefEqProofs (maxSteps := 2000000) [hP, hN, g1, g2, g5, g7, g8, g9, hb2, hb28, hb8, hlt, hbl'] <;> (try refine ⟨by kernel_rfl, ?_⟩)))
    | with_reducible refine xTwo_intro ?_ ?_
    | (with_reducible refine xCond_split (fun hcd => ?_) (fun hcd => ?_) <;> (try (exfalso; clear hP hN; simp_all; done)) <;> (try (exfalso; simp at *; omega)))
    | with_reducible refine WP.block ?_
    | (with_reducible ((first | refine WP.skip ?_ | refine WP.exit ?_ | refine WP.ret ?_); simp [g1, g2, g5, g7, g8, g9, hb2, hb28, hb8, hlt, hbl'])))
  refine WP.loopN [] (F0.length + unm U0) (fun k st => ∃ (U : List Bool) (Q : List Nat), k ≤ Q.length ∧ FI i (opnT t) (tchT t) (strT t p) U (Q.drop k) ∧ Q.length + unm U = F0.length + unm U0 ∧ st.t 1 = .pv (zs p) ∧ st.t 2 = .ptr 2 0 ∧ st.t 5 = .pv (.sl ((boxesL t).map iv)) ∧ st.t 7 = .arr 28 i ∧ st.t 8 = .arr 8 Q.length ∧ st.t 10 = .pv (Z k) ∧ st.h 2 = some (.box [.pv (iv t.root), .pv (.sl (t.cells.map encC))] true false) ∧ st.h 28 = some (.row 4 1 (U.map B) 0) ∧ st.h 8 = some (.row 3 1 (Q.map zN) 0)) (by exact ⟨U0, F0, by omega, by simpa using hfi, rfl, by simp [g1, g2, g5, g7, g8, hb2, hb28, hb8]⟩) ?_
  clear g1 g2 g5 g7 g8 g9 hb2 hb28 hb8 st hi hlt hfi
  rintro k st hk ⟨U, Q, hkQ, hI, hcnt, g1, g2, g5, g7, g8, g10, hb2, hb28, hb8⟩
  have hUl' := hI.len
  by_cases hkl : k < Q.length
  · have hwk : IntKind.i64.wrap ((k : Int) + 1) = (k : Int) + 1 := wr_id (by omega) (by omega)
    obtain ⟨x, hx⟩ : ∃ x, Q[k]? = some x := ⟨_, List.getElem?_eq_getElem hkl⟩
    have hx' := get_of hx hkl
    have hdr : Q.drop k = x :: Q.drop (k + 1) := by rw [← hx']; exact List.drop_eq_getElem_cons hkl
    have hxF : x ∈ Q.drop k := by rw [hdr]; simp
    have hxn := mk1_lt hUl' (hI.mem x hxF)
    have hpop : FJ i (opnT t) (tchT t) (strT t p) U (Q.drop (k + 1)) x 0 := hI.pop hxF (fun m hm => by rw [hdr] at hm; rcases List.mem_cons.1 hm with h | h; exact .inr h; exact .inl h) (fun m hm => by rw [hdr]; exact List.mem_cons_of_mem _ hm)
    repeat' (first
      | with_reducible refine WP.seq ?_
      | (with_reducible ((first | refine WP.region (hn := []) ?_ | refine WP.cond' ?_); simp -implicitDefEqProofs (maxSteps := 2000000) [hP, hN, g1, g2, g5, g7, g8, g10, hb2, hb28, hb8, hkl]))
      | (with_reducible ((first | refine WP.draw (hn := []) (by rw [hP]; kernel_rfl) (by kernel_rfl) ?_); simp -implicitDefEqProofs (maxSteps := 2000000) [hP, hN, g1, g2, g5, g7, g8, g10, hb2, hb28, hb8, hkl]; (try refine ⟨by kernel_rfl, ?_⟩)))
      | (with_reducible refine xB_split (by simp [g1, g2, g5, g7, g8, g10, hb2, hb28, hb8, hkl]) (fun hgd => ?_) (fun hgd => ?_) <;> first | (exfalso; simp at hgd; done) | (exfalso; simp at hgd; omega) | simp -implicitDefEqProofs (maxSteps := 2000000) [hP, hN, g1, g2, g5, g7, g8, g10, hb2, hb28, hb8, hkl])
      | (with_reducible refine yB_split (by simp [g1, g2, g5, g7, g8, g10, hb2, hb28, hb8, hkl]) (fun hgd => ?_) (fun hgd => ?_) <;> first | (exfalso; simp at hgd; done) | (exfalso; simp at hgd; omega) | (simp -implicitDefEqProofs (maxSteps := 2000000) [hP, hN, g1, g2, g5, g7, g8, g10, hb2, hb28, hb8, hkl] <;> (try refine ⟨by kernel_rfl, ?_⟩)))
      | with_reducible refine xTwo_intro ?_ ?_
      | (with_reducible refine xCond_split (fun hcd => ?_) (fun hcd => ?_) <;> (try (exfalso; clear hP hN; simp_all; done)) <;> (try (exfalso; simp at *; omega)))
      | with_reducible refine WP.block ?_
      | (with_reducible ((first | refine WP.skip ?_ | refine WP.exit ?_ | refine WP.ret ?_); simp [g1, g2, g5, g7, g8, g10, hb2, hb28, hb8, hkl])))
    refine WP.loopN [] i (fun j st => ∃ (U2 : List Bool) (Q2 : List Nat), FJ i (opnT t) (tchT t) (strT t p) U2 (Q2.drop (k + 1)) x j ∧ Q2.length + unm U2 = F0.length + unm U0 ∧ k < Q2.length ∧ Q2[k]? = some x ∧ st.t 1 = .pv (zs p) ∧ st.t 2 = .ptr 2 0 ∧ st.t 5 = .pv (.sl ((boxesL t).map iv)) ∧ st.t 7 = .arr 28 i ∧ st.t 8 = .arr 8 Q2.length ∧ st.t 10 = .pv (Z k) ∧ st.t 11 = .pv (Z j) ∧ st.h 2 = some (.box [.pv (iv t.root), .pv (.sl (t.cells.map encC))] true false) ∧ st.h 28 = some (.row 4 1 (U2.map B) 0) ∧ st.h 8 = some (.row 3 1 (Q2.map zN) 0)) (by exact ⟨U, Q, hpop, hcnt, hkl, hx, by simp [g1, g2, g5, g7, g8, g10, hb2, hb28, hb8]⟩) ?_
    clear g1 g2 g5 g7 g8 g10 hb2 hb28 hb8 hpop
    rintro j st' hj ⟨U2, Q2, hJ, hcnt2, hkl2, hx2, y1, y2, y5, y7, y8, y10, y11, yb2, yb28, yb8⟩
    have hU2 := hJ.len
    have hU2m := unm_le U2
    have hx2' := get_of hx2 hkl2
    by_cases hjl : j < i
    · have hw := wr_succ hjl (by omega)
      have hjU : j < U2.length := by omega
      have hjc : j < t.cells.length := by omega
      have hxc : x < t.cells.length := by omega
      have hjb : j < (boxesL t).length := by omega
      have hxb : x < (boxesL t).length := by omega
      obtain ⟨hbj, hbjl⟩ := hbg j hjc
      obtain ⟨hbx, hbxl⟩ := hbg x hxc
      have hbj' := get_of hbj hjb
      have hbx' := get_of hbx hxb
      have ct := d55 (boxAt t (j : Int)) (boxAt t (x : Int)) hbjl hbxl
      rw [touchL_eq] at ct
      have hT : tchT t x j = touchC (boxAt t (j : Int)) (boxAt t (x : Int)) := hsw x j (by omega) hjl
      generalize hc : t.cells[j] = c at *
      have hci : t.cells[j]? = some c := by rw [List.getElem?_eq_getElem hjc, hc]
      have hO : opnT t j = (leafB c && !(c.v.kind == 2)) := by simp only [opnT, hci, opnB, colB]; cases leafB c <;> simp
      have cl := d116 c
      have hskip := hJ.skip
      have hadd := hJ.add hjl
      rw [hO, hT] at hskip hadd
      rcases mk1_or hjU with hm | hm
      · have hs := hskip (fun _ _ => hm)
        unfold mk1 at hm
        have hm' := get_of hm hjU
        repeat' (first
          | with_reducible refine WP.seq ?_
          | (with_reducible ((first | refine WP.region (hn := []) ?_ | refine WP.cond' ?_); simp -implicitDefEqProofs (maxSteps := 2000000) [hP, hN, y1, y2, y5, y7, y8, y10, y11, yb2, yb28, yb8, hjl, hw, hbl', hm, hm', hU2, hjU]))
          | (with_reducible ((first | refine WP.draw (hn := []) (by rw [hP]; kernel_rfl) (by kernel_rfl) ?_); simp -implicitDefEqProofs (maxSteps := 2000000) [hP, hN, y1, y2, y5, y7, y8, y10, y11, yb2, yb28, yb8, hjl, hw, hbl', hm, hm', hU2, hjU]; (try refine ⟨by kernel_rfl, ?_⟩)))
          | (with_reducible refine xB_split (by simp [y1, y2, y5, y7, y8, y10, y11, yb2, yb28, yb8, hjl, hw, hbl', hm, hm', hU2, hjU]) (fun hgd => ?_) (fun hgd => ?_) <;> first | (exfalso; simp at hgd; done) | (exfalso; simp at hgd; omega) | simp -implicitDefEqProofs (maxSteps := 2000000) [hP, hN, y1, y2, y5, y7, y8, y10, y11, yb2, yb28, yb8, hjl, hw, hbl', hm, hm', hU2, hjU])
          | (with_reducible refine yB_split (by simp [y1, y2, y5, y7, y8, y10, y11, yb2, yb28, yb8, hjl, hw, hbl', hm, hm', hU2, hjU]) (fun hgd => ?_) (fun hgd => ?_) <;> first | (exfalso; simp at hgd; done) | (exfalso; simp at hgd; omega) | (simp -implicitDefEqProofs (maxSteps := 2000000) [hP, hN, y1, y2, y5, y7, y8, y10, y11, yb2, yb28, yb8, hjl, hw, hbl', hm, hm', hU2, hjU] <;> (try refine ⟨by kernel_rfl, ?_⟩)))
          | with_reducible refine xTwo_intro ?_ ?_
          | (with_reducible refine xCond_split (fun hcd => ?_) (fun hcd => ?_) <;> (try (exfalso; clear hP hN; simp_all; done)) <;> (try (exfalso; simp at *; omega)))
          | with_reducible refine WP.block ?_
          | (with_reducible ((first | refine WP.skip ?_ | refine WP.exit ?_ | refine WP.ret ?_); simp [y1, y2, y5, y7, y8, y10, y11, yb2, yb28, yb8, hjl, hw, hbl', hm, hm', hU2, hjU])))
        all_goals exact ⟨U2, Q2, hs, hcnt2, hkl2, hx2, rfl, rfl, rfl⟩
      have hm' := get_of hm hjU
      have hu := unm_set hm
      cases hlf : leafB c with
      | false =>
        rw [hlf] at cl hskip
        have hs := hskip (by simp)
        repeat' (first
          | with_reducible refine WP.seq ?_
          | (with_reducible ((first | refine WP.region (hn := []) ?_ | refine xC_intro (cl) ?_ | refine WP.cond' ?_); simp -implicitDefEqProofs (maxSteps := 2000000) [hP, hN, y1, y2, y5, y7, y8, y10, y11, yb2, yb28, yb8, hjl, hw, hbl', hm, hm', hU2, hjU, hjc, hci, hc]))
          | (with_reducible ((first | refine WP.draw (hn := []) (by rw [hP]; kernel_rfl) (by kernel_rfl) ?_ | refine yC_intro (cl) ?_); simp -implicitDefEqProofs (maxSteps := 2000000) [hP, hN, y1, y2, y5, y7, y8, y10, y11, yb2, yb28, yb8, hjl, hw, hbl', hm, hm', hU2, hjU, hjc, hci, hc]; (try refine ⟨by kernel_rfl, ?_⟩)))
          | (with_reducible refine xB_split (by simp [y1, y2, y5, y7, y8, y10, y11, yb2, yb28, yb8, hjl, hw, hbl', hm, hm', hU2, hjU, hjc, hci, hc]) (fun hgd => ?_) (fun hgd => ?_) <;> first | (exfalso; simp at hgd; done) | (exfalso; simp at hgd; omega) | simp -implicitDefEqProofs (maxSteps := 2000000) [hP, hN, y1, y2, y5, y7, y8, y10, y11, yb2, yb28, yb8, hjl, hw, hbl', hm, hm', hU2, hjU, hjc, hci, hc])
          | (with_reducible refine yB_split (by simp [y1, y2, y5, y7, y8, y10, y11, yb2, yb28, yb8, hjl, hw, hbl', hm, hm', hU2, hjU, hjc, hci, hc]) (fun hgd => ?_) (fun hgd => ?_) <;> first | (exfalso; simp at hgd; done) | (exfalso; simp at hgd; omega) | (simp -implicitDefEqProofs (maxSteps := 2000000) [hP, hN, y1, y2, y5, y7, y8, y10, y11, yb2, yb28, yb8, hjl, hw, hbl', hm, hm', hU2, hjU, hjc, hci, hc] <;> (try refine ⟨by kernel_rfl, ?_⟩)))
          | with_reducible refine xTwo_intro ?_ ?_
          | (with_reducible refine xCond_split (fun hcd => ?_) (fun hcd => ?_) <;> (try (exfalso; clear hP hN; simp_all; done)) <;> (try (exfalso; simp at *; omega)))
          | with_reducible refine WP.block ?_
          | (with_reducible ((first | refine WP.skip ?_ | refine WP.exit ?_ | refine WP.ret ?_); simp [y1, y2, y5, y7, y8, y10, y11, yb2, yb28, yb8, hjl, hw, hbl', hm, hm', hU2, hjU, hjc, hci, hc])))
        all_goals exact ⟨U2, Q2, hs, hcnt2, hkl2, hx2, rfl, rfl, rfl⟩
      | true =>
      rw [hlf] at cl hskip hadd
      cases hkd : (c.v.kind == 2) with
      | true =>
        rw [hkd] at hskip
        have hs := hskip (by simp)
        have hkd2 : (c.v.kind != 2) = false := by simp [bne, hkd]
        repeat' (first
          | with_reducible refine WP.seq ?_
          | (with_reducible ((first | refine WP.region (hn := []) ?_ | refine xC_intro (cl) ?_ | refine WP.cond' ?_); simp -implicitDefEqProofs (maxSteps := 2000000) [hP, hN, y1, y2, y5, y7, y8, y10, y11, yb2, yb28, yb8, hjl, hw, hbl', hm, hm', hU2, hjU, hjc, hci, hc, hkd2]))
          | (with_reducible ((first | refine WP.draw (hn := []) (by rw [hP]; kernel_rfl) (by kernel_rfl) ?_ | refine yC_intro (cl) ?_); simp -implicitDefEqProofs (maxSteps := 2000000) [hP, hN, y1, y2, y5, y7, y8, y10, y11, yb2, yb28, yb8, hjl, hw, hbl', hm, hm', hU2, hjU, hjc, hci, hc, hkd2]; (try refine ⟨by kernel_rfl, ?_⟩)))
          | (with_reducible refine xB_split (by simp [y1, y2, y5, y7, y8, y10, y11, yb2, yb28, yb8, hjl, hw, hbl', hm, hm', hU2, hjU, hjc, hci, hc, hkd2]) (fun hgd => ?_) (fun hgd => ?_) <;> first | (exfalso; simp at hgd; done) | (exfalso; simp at hgd; omega) | simp -implicitDefEqProofs (maxSteps := 2000000) [hP, hN, y1, y2, y5, y7, y8, y10, y11, yb2, yb28, yb8, hjl, hw, hbl', hm, hm', hU2, hjU, hjc, hci, hc, hkd2])
          | (with_reducible refine yB_split (by simp [y1, y2, y5, y7, y8, y10, y11, yb2, yb28, yb8, hjl, hw, hbl', hm, hm', hU2, hjU, hjc, hci, hc, hkd2]) (fun hgd => ?_) (fun hgd => ?_) <;> first | (exfalso; simp at hgd; done) | (exfalso; simp at hgd; omega) | (simp -implicitDefEqProofs (maxSteps := 2000000) [hP, hN, y1, y2, y5, y7, y8, y10, y11, yb2, yb28, yb8, hjl, hw, hbl', hm, hm', hU2, hjU, hjc, hci, hc, hkd2] <;> (try refine ⟨by kernel_rfl, ?_⟩)))
          | with_reducible refine xTwo_intro ?_ ?_
          | (with_reducible refine xCond_split (fun hcd => ?_) (fun hcd => ?_) <;> (try (exfalso; clear hP hN; simp_all; done)) <;> (try (exfalso; simp at *; omega)))
          | with_reducible refine WP.block ?_
          | (with_reducible ((first | refine WP.skip ?_ | refine WP.exit ?_ | refine WP.ret ?_); simp [y1, y2, y5, y7, y8, y10, y11, yb2, yb28, yb8, hjl, hw, hbl', hm, hm', hU2, hjU, hjc, hci, hc, hkd2])))
        all_goals exact ⟨U2, Q2, hs, hcnt2, hkl2, hx2, rfl, rfl, rfl⟩
      | false =>
      rw [hkd] at hskip hadd
      have hkd2 : (c.v.kind != 2) = true := by simp [bne, hkd]
      cases h9 : touchC (boxAt t (j : Int)) (boxAt t (x : Int)) with
      | false =>
        rw [h9] at ct hskip
        have hs := hskip (by simp)
        repeat' (first
          | with_reducible refine WP.seq ?_
          | (with_reducible ((first | refine WP.region (hn := []) ?_ | refine xC_intro (cl) ?_ | refine xC_intro (ct) ?_ | refine WP.cond' ?_); simp -implicitDefEqProofs (maxSteps := 2000000) [hP, hN, y1, y2, y5, y7, y8, y10, y11, yb2, yb28, yb8, hjl, hw, hbl', hm, hm', hU2, hjU, hjc, hci, hc, hkd2, hjb, hxb, hbj, hbx, hbj', hbx', hx2, hx2', hkl2]))
          | (with_reducible ((first | refine WP.draw (hn := []) (by rw [hP]; kernel_rfl) (by kernel_rfl) ?_ | refine yC_intro (cl) ?_ | refine yC_intro (ct) ?_); simp -implicitDefEqProofs (maxSteps := 2000000) [hP, hN, y1, y2, y5, y7, y8, y10, y11, yb2, yb28, yb8, hjl, hw, hbl', hm, hm', hU2, hjU, hjc, hci, hc, hkd2, hjb, hxb, hbj, hbx, hbj', hbx', hx2, hx2', hkl2]; (try refine ⟨by kernel_rfl, ?_⟩)))
          | (with_reducible refine xB_split (by simp [y1, y2, y5, y7, y8, y10, y11, yb2, yb28, yb8, hjl, hw, hbl', hm, hm', hU2, hjU, hjc, hci, hc, hkd2, hjb, hxb, hbj, hbx, hbj', hbx', hx2, hx2', hkl2]) (fun hgd => ?_) (fun hgd => ?_) <;> first | (exfalso; simp at hgd; done) | (exfalso; simp at hgd; omega) | simp -implicitDefEqProofs (maxSteps := 2000000) [hP, hN, y1, y2, y5, y7, y8, y10, y11, yb2, yb28, yb8, hjl, hw, hbl', hm, hm', hU2, hjU, hjc, hci, hc, hkd2, hjb, hxb, hbj, hbx, hbj', hbx', hx2, hx2', hkl2])
          | (with_reducible refine yB_split (by simp [y1, y2, y5, y7, y8, y10, y11, yb2, yb28, yb8, hjl, hw, hbl', hm, hm', hU2, hjU, hjc, hci, hc, hkd2, hjb, hxb, hbj, hbx, hbj', hbx', hx2, hx2', hkl2]) (fun hgd => ?_) (fun hgd => ?_) <;> first | (exfalso; simp at hgd; done) | (exfalso; simp at hgd; omega) | (simp -implicitDefEqProofs (maxSteps := 2000000) [hP, hN, y1, y2, y5, y7, y8, y10, y11, yb2, yb28, yb8, hjl, hw, hbl', hm, hm', hU2, hjU, hjc, hci, hc, hkd2, hjb, hxb, hbj, hbx, hbj', hbx', hx2, hx2', hkl2] <;> (try refine ⟨by kernel_rfl, ?_⟩)))
          | with_reducible refine xTwo_intro ?_ ?_
          | (with_reducible refine xCond_split (fun hcd => ?_) (fun hcd => ?_) <;> (try (exfalso; clear hP hN; simp_all; done)) <;> (try (exfalso; simp at *; omega)))
          | with_reducible refine WP.block ?_
          | (with_reducible ((first | refine WP.skip ?_ | refine WP.exit ?_ | refine WP.ret ?_); simp [y1, y2, y5, y7, y8, y10, y11, yb2, yb28, yb8, hjl, hw, hbl', hm, hm', hU2, hjU, hjc, hci, hc, hkd2, hjb, hxb, hbj, hbx, hbj', hbx', hx2, hx2', hkl2])))
        all_goals exact ⟨U2, Q2, hs, hcnt2, hkl2, hx2, rfl, rfl, rfl⟩
      | true =>
        rw [h9] at ct hadd
        have hs := hadd rfl rfl
        have hdd : (Q2 ++ [j]).drop (k + 1) = Q2.drop (k + 1) ++ [j] := List.drop_append_of_le_length (by omega)
        rw [← hdd] at hs
        have hx3 : (Q2 ++ [j])[k]? = some x := by rw [List.getElem?_append_left hkl2]; exact hx2
        repeat' (first
          | with_reducible refine WP.seq ?_
          | (with_reducible ((first | refine WP.region (hn := []) ?_ | refine xC_intro (cl) ?_ | refine xC_intro (ct) ?_ | refine WP.cond' ?_); simp -implicitDefEqProofs (maxSteps := 2000000) [hP, hN, y1, y2, y5, y7, y8, y10, y11, yb2, yb28, yb8, hjl, hw, hbl', hm, hm', hU2, hjU, hjc, hci, hc, hkd2, hjb, hxb, hbj, hbx, hbj', hbx', hx2, hx2', hkl2, show (Q2.length + 1) * 8 ≤ 140737488355328 by omega, show Q2.length + 1 ≤ 9223372036854775807 by omega]))
          | (with_reducible ((first | refine WP.draw (hn := []) (by rw [hP]; kernel_rfl) (by kernel_rfl) ?_ | refine yC_intro (cl) ?_ | refine yC_intro (ct) ?_); simp -implicitDefEqProofs (maxSteps := 2000000) [hP, hN, y1, y2, y5, y7, y8, y10, y11, yb2, yb28, yb8, hjl, hw, hbl', hm, hm', hU2, hjU, hjc, hci, hc, hkd2, hjb, hxb, hbj, hbx, hbj', hbx', hx2, hx2', hkl2, show (Q2.length + 1) * 8 ≤ 140737488355328 by omega, show Q2.length + 1 ≤ 9223372036854775807 by omega]; (try refine ⟨by kernel_rfl, ?_⟩)))
          | (with_reducible refine xB_split (by simp [y1, y2, y5, y7, y8, y10, y11, yb2, yb28, yb8, hjl, hw, hbl', hm, hm', hU2, hjU, hjc, hci, hc, hkd2, hjb, hxb, hbj, hbx, hbj', hbx', hx2, hx2', hkl2, show (Q2.length + 1) * 8 ≤ 140737488355328 by omega, show Q2.length + 1 ≤ 9223372036854775807 by omega]) (fun hgd => ?_) (fun hgd => ?_) <;> first | (exfalso; simp at hgd; done) | (exfalso; simp at hgd; omega) | simp -implicitDefEqProofs (maxSteps := 2000000) [hP, hN, y1, y2, y5, y7, y8, y10, y11, yb2, yb28, yb8, hjl, hw, hbl', hm, hm', hU2, hjU, hjc, hci, hc, hkd2, hjb, hxb, hbj, hbx, hbj', hbx', hx2, hx2', hkl2, show (Q2.length + 1) * 8 ≤ 140737488355328 by omega, show Q2.length + 1 ≤ 9223372036854775807 by omega])
          | (with_reducible refine yB_split (by simp [y1, y2, y5, y7, y8, y10, y11, yb2, yb28, yb8, hjl, hw, hbl', hm, hm', hU2, hjU, hjc, hci, hc, hkd2, hjb, hxb, hbj, hbx, hbj', hbx', hx2, hx2', hkl2, show (Q2.length + 1) * 8 ≤ 140737488355328 by omega, show Q2.length + 1 ≤ 9223372036854775807 by omega]) (fun hgd => ?_) (fun hgd => ?_) <;> first | (exfalso; simp at hgd; done) | (exfalso; simp at hgd; omega) | (simp -implicitDefEqProofs (maxSteps := 2000000) [hP, hN, y1, y2, y5, y7, y8, y10, y11, yb2, yb28, yb8, hjl, hw, hbl', hm, hm', hU2, hjU, hjc, hci, hc, hkd2, hjb, hxb, hbj, hbx, hbj', hbx', hx2, hx2', hkl2, show (Q2.length + 1) * 8 ≤ 140737488355328 by omega, show Q2.length + 1 ≤ 9223372036854775807 by omega] <;> (try refine ⟨by kernel_rfl, ?_⟩)))
          | with_reducible refine xTwo_intro ?_ ?_
          | (with_reducible refine xCond_split (fun hcd => ?_) (fun hcd => ?_) <;> (try (exfalso; clear hP hN; simp_all; done)) <;> (try (exfalso; simp at *; omega)))
          | with_reducible refine WP.block ?_
          | (with_reducible ((first | refine WP.skip ?_ | refine WP.exit ?_ | refine WP.ret ?_); simp [y1, y2, y5, y7, y8, y10, y11, yb2, yb28, yb8, hjl, hw, hbl', hm, hm', hU2, hjU, hjc, hci, hc, hkd2, hjb, hxb, hbj, hbx, hbj', hbx', hx2, hx2', hkl2, show (Q2.length + 1) * 8 ≤ 140737488355328 by omega, show Q2.length + 1 ≤ 9223372036854775807 by omega])))
        all_goals exact ⟨U2.set j true, Q2 ++ [j], hs, by simp; omega, by simp; omega, hx3, by simp, by simp [List.map_set], by simp⟩
    · have hj' : j = i := by omega
      subst hj'
      have hd := hJ.done
      repeat' (first
        | with_reducible refine WP.seq ?_
        | (with_reducible ((first | refine WP.region (hn := []) ?_ | refine WP.cond' ?_); simp -implicitDefEqProofs (maxSteps := 2000000) [hP, hN, y1, y2, y5, y7, y8, y10, y11, yb2, yb28, yb8, hjl, hbl', hwk]))
        | (with_reducible ((first | refine WP.draw (hn := []) (by rw [hP]; kernel_rfl) (by kernel_rfl) ?_); simp -implicitDefEqProofs (maxSteps := 2000000) [hP, hN, y1, y2, y5, y7, y8, y10, y11, yb2, yb28, yb8, hjl, hbl', hwk]; (try refine ⟨by kernel_rfl, ?_⟩)))
        | (with_reducible refine xB_split (by simp [y1, y2, y5, y7, y8, y10, y11, yb2, yb28, yb8, hjl, hbl', hwk]) (fun hgd => ?_) (fun hgd => ?_) <;> first | (exfalso; simp at hgd; done) | (exfalso; simp at hgd; omega) | simp -implicitDefEqProofs (maxSteps := 2000000) [hP, hN, y1, y2, y5, y7, y8, y10, y11, yb2, yb28, yb8, hjl, hbl', hwk])
        | (with_reducible refine yB_split (by simp [y1, y2, y5, y7, y8, y10, y11, yb2, yb28, yb8, hjl, hbl', hwk]) (fun hgd => ?_) (fun hgd => ?_) <;> first | (exfalso; simp at hgd; done) | (exfalso; simp at hgd; omega) | (simp -implicitDefEqProofs (maxSteps := 2000000) [hP, hN, y1, y2, y5, y7, y8, y10, y11, yb2, yb28, yb8, hjl, hbl', hwk] <;> (try refine ⟨by kernel_rfl, ?_⟩)))
        | with_reducible refine xTwo_intro ?_ ?_
        | (with_reducible refine xCond_split (fun hcd => ?_) (fun hcd => ?_) <;> (try (exfalso; clear hP hN; simp_all; done)) <;> (try (exfalso; simp at *; omega)))
        | with_reducible refine WP.block ?_
        | (with_reducible ((first | refine WP.skip ?_ | refine WP.exit ?_ | refine WP.ret ?_); simp [y1, y2, y5, y7, y8, y10, y11, yb2, yb28, yb8, hjl, hbl', hwk])))
      all_goals exact ⟨by omega, U2, Q2, by omega, hd, hcnt2, rfl, rfl, rfl⟩
  · have hd : Q.drop k = [] := List.drop_eq_nil_of_le (by omega)
    rw [hd] at hI
    have hUV : U = V := isR_unique hI.fin hV
    subst hUV
    repeat' (first
      | with_reducible refine WP.seq ?_
      | (with_reducible ((first | refine WP.region (hn := []) ?_ | refine WP.cond' ?_); simp -implicitDefEqProofs (maxSteps := 2000000) [hP, hN, g1, g2, g5, g7, g8, g10, hb2, hb28, hb8, hkl, hUl']))
      | (with_reducible ((first | refine WP.draw (hn := []) (by rw [hP]; kernel_rfl) (by kernel_rfl) ?_); simp -implicitDefEqProofs (maxSteps := 2000000) [hP, hN, g1, g2, g5, g7, g8, g10, hb2, hb28, hb8, hkl, hUl']; (try refine ⟨by kernel_rfl, ?_⟩)))
      | (with_reducible refine xB_split (by simp [g1, g2, g5, g7, g8, g10, hb2, hb28, hb8, hkl, hUl']) (fun hgd => ?_) (fun hgd => ?_) <;> first | (exfalso; simp at hgd; done) | (exfalso; simp at hgd; omega) | simp -implicitDefEqProofs (maxSteps := 2000000) [hP, hN, g1, g2, g5, g7, g8, g10, hb2, hb28, hb8, hkl, hUl'])
      | (with_reducible refine yB_split (by simp [g1, g2, g5, g7, g8, g10, hb2, hb28, hb8, hkl, hUl']) (fun hgd => ?_) (fun hgd => ?_) <;> first | (exfalso; simp at hgd; done) | (exfalso; simp at hgd; omega) | (simp -implicitDefEqProofs (maxSteps := 2000000) [hP, hN, g1, g2, g5, g7, g8, g10, hb2, hb28, hb8, hkl, hUl'] <;> (try refine ⟨by kernel_rfl, ?_⟩)))
      | with_reducible refine xTwo_intro ?_ ?_
      | (with_reducible refine xCond_split (fun hcd => ?_) (fun hcd => ?_) <;> (try (exfalso; clear hP hN; simp_all; done)) <;> (try (exfalso; simp at *; omega)))
      | with_reducible refine WP.block ?_
      | (with_reducible ((first | refine WP.skip ?_ | refine WP.exit ?_ | refine WP.ret ?_); simp [g1, g2, g5, g7, g8, g10, hb2, hb28, hb8, hkl, hUl'])))
set_option maxRecDepth 10000 in
set_option maxHeartbeats 8000000 in
theorem d67 (t : Tr) (p q : List Int) (U : List Bool) (hl : t.cells.length ≤ 9223372036854775807) (hr : t.root.length ≤ 9223372036854775807) (hp : p.length ≤ 9223372036854775807) (hq : q.length ≤ 9223372036854775807) (hU : IsF t p U) : DetH Try.prog 67 [.pv (encT t), .pv (zs p), .pv (zs q)] [] [] (.pv (B (sepOk t p q U))) := by
  have cf := d139 t p U hl hr hp hU
  have ck := d30 t.root q hr hq
  have cb := d52 t hl
  rw [hasL_eq] at ck
  unfold sepOk
  have hff : floodOk t p = (validT t && hasC t.root p) := rfl
  rw [← hff]
  cases hF : floodOk t p with
  | false =>
    rw [fldL, hF] at cf
    refine detP_of Try.func67 rfl (by kernel_rfl) (by simp [Try.f67]) rfl ?_
    intro C hP hN
    simp only [Try.f67] at hN ⊢
    repeat' (first
      | with_reducible refine WP.seq ?_
      | (with_reducible ((first | refine WP.region (hn := []) ?_ | refine xC_intro (cf) ?_ | refine WP.cond' ?_); simp -implicitDefEqProofs (maxSteps := 2000000) [hP, hN]))
      | (with_reducible ((first | refine WP.draw (hn := []) (by rw [hP]; kernel_rfl) (by kernel_rfl) ?_ | refine yC_intro (cf) ?_); simp -implicitDefEqProofs (maxSteps := 2000000) [hP, hN]; (try refine ⟨by kernel_rfl, ?_⟩)))
      | (with_reducible refine xB_split (by simp) (fun hgd => ?_) (fun hgd => ?_) <;> first | (exfalso; simp at hgd; done) | (exfalso; simp at hgd; omega) | simp -implicitDefEqProofs (maxSteps := 2000000) [hP, hN])
      | (with_reducible refine yB_split (by simp) (fun hgd => ?_) (fun hgd => ?_) <;> first | (exfalso; simp at hgd; done) | (exfalso; simp at hgd; omega) | (simp -implicitDefEqProofs (maxSteps := 2000000) [hP, hN] <;> (try refine ⟨by kernel_rfl, ?_⟩)))
      | with_reducible refine xTwo_intro ?_ ?_
      | (with_reducible refine xCond_split (fun hcd => ?_) (fun hcd => ?_) <;> (try (exfalso; clear hP hN; simp_all; done)) <;> (try (exfalso; simp at *; omega)))
      | with_reducible refine WP.block ?_
      | (with_reducible ((first | refine WP.skip ?_ | refine WP.exit ?_ | refine WP.ret ?_); simp)))
  | true =>
  rw [fldL, hF, if_pos rfl] at cf
  have hv : validT t = true := by rw [hff] at hF; simp at hF; exact hF.1
  rw [hv] at cb
  have hz := sizeOk_iff.1 (valid_size hv)
  have hUl := hU.len
  have hbl := boxesL_len hv
  have hU0 : ((t.cells.length : Int) == 0) = false := by simp; intro h; rw [h] at hz; simp at hz
  cases hk : hasC t.root q with
  | false =>
    rw [hk] at ck
    refine detP_of Try.func67 rfl (by kernel_rfl) (by simp [Try.f67]) rfl ?_
    intro C hP hN
    simp only [Try.f67] at hN ⊢
    repeat' (first
      | with_reducible refine WP.seq ?_
      | (with_reducible ((first | refine WP.region (hn := []) ?_ | refine xC_intro (cf) ?_ | refine xC_intro (ck) ?_ | refine WP.cond' ?_); simp -implicitDefEqProofs (maxSteps := 2000000) [hP, hN, hUl, hU0]))
      | (with_reducible ((first | refine WP.draw (hn := []) (by rw [hP]; kernel_rfl) (by kernel_rfl) ?_ | refine yC_intro (cf) ?_ | refine yC_intro (ck) ?_); simp -implicitDefEqProofs (maxSteps := 2000000) [hP, hN, hUl, hU0]; (try refine ⟨by kernel_rfl, ?_⟩)))
      | (with_reducible refine xB_split (by simp [hUl, hU0]) (fun hgd => ?_) (fun hgd => ?_) <;> first | (exfalso; simp at hgd; done) | (exfalso; simp at hgd; omega) | simp -implicitDefEqProofs (maxSteps := 2000000) [hP, hN, hUl, hU0])
      | (with_reducible refine yB_split (by simp [hUl, hU0]) (fun hgd => ?_) (fun hgd => ?_) <;> first | (exfalso; simp at hgd; done) | (exfalso; simp at hgd; omega) | (simp -implicitDefEqProofs (maxSteps := 2000000) [hP, hN, hUl, hU0] <;> (try refine ⟨by kernel_rfl, ?_⟩)))
      | with_reducible refine xTwo_intro ?_ ?_
      | (with_reducible refine xCond_split (fun hcd => ?_) (fun hcd => ?_) <;> (try (exfalso; clear hP hN; simp_all; done)) <;> (try (exfalso; simp at *; omega)))
      | with_reducible refine WP.block ?_
      | (with_reducible ((first | refine WP.skip ?_ | refine WP.exit ?_ | refine WP.ret ?_); simp [hUl, hU0])))
  | true =>
  rw [hk] at ck
  refine detP_of Try.func67 rfl (by kernel_rfl) (by simp [Try.f67]) rfl ?_
  intro C hP hN
  simp only [Try.f67] at hN ⊢
  repeat' (first
    | with_reducible refine WP.seq ?_
    | (with_reducible ((first | refine WP.region (hn := []) ?_ | refine xC_intro (cf) ?_ | refine xC_intro (ck) ?_ | refine xC_intro (cb) ?_ | refine WP.cond' ?_); simp -implicitDefEqProofs (maxSteps := 2000000) [hP, hN, hUl, hU0]))
    | (with_reducible ((first | refine WP.draw (hn := []) (by rw [hP]; kernel_rfl) (by kernel_rfl) ?_ | refine yC_intro (cf) ?_ | refine yC_intro (ck) ?_ | refine yC_intro (cb) ?_); simp -implicitDefEqProofs (maxSteps := 2000000) [hP, hN, hUl, hU0]; (try refine ⟨by kernel_rfl, ?_⟩)))
    | (with_reducible refine xB_split (by simp [hUl, hU0]) (fun hgd => ?_) (fun hgd => ?_) <;> first | (exfalso; simp at hgd; done) | (exfalso; simp at hgd; omega) | simp -implicitDefEqProofs (maxSteps := 2000000) [hP, hN, hUl, hU0])
    | (with_reducible refine yB_split (by simp [hUl, hU0]) (fun hgd => ?_) (fun hgd => ?_) <;> first | (exfalso; simp at hgd; done) | (exfalso; simp at hgd; omega) | (simp -implicitDefEqProofs (maxSteps := 2000000) [hP, hN, hUl, hU0] <;> (try refine ⟨by kernel_rfl, ?_⟩)))
    | with_reducible refine xTwo_intro ?_ ?_
    | (with_reducible refine xCond_split (fun hcd => ?_) (fun hcd => ?_) <;> (try (exfalso; clear hP hN; simp_all; done)) <;> (try (exfalso; simp at *; omega)))
    | with_reducible refine WP.block ?_
    | (with_reducible ((first | refine WP.skip ?_ | refine WP.exit ?_ | refine WP.ret ?_); simp [hUl, hU0])))
  refine WP.loopN [] t.cells.length (fun i st => st.t 2 = .pv (zs q) ∧ st.t 7 = .pv (.sl (U.map B)) ∧ st.t 8 = .pv (.sl ((boxesL t).map iv)) ∧ st.t 10 = .pv (Z i) ∧ (∀ j, j < i → U[j]? = some true → hasT t q j = false)) (by simp) ?_
  rintro i st hi ⟨g2, g7, g8, g10, hI⟩
  by_cases hlt : i < t.cells.length
  · have hw := wr_succ hlt (by omega)
    have hiU : i < U.length := by omega
    have hib : i < (boxesL t).length := by omega
    obtain ⟨hbi, hbl2, _⟩ := boxAt_ok hv (c := (i : Int)) (by simpa using hlt)
    rw [Int.toNat_natCast] at hbi
    have hbi' := get_of hbi hib
    have c2 := d30 (boxAt t (i : Int)) q (by omega) hq
    rw [hasL_eq] at c2
    have hno := sepB_no (t := t) (U := U) (q := q) (i := i)
    have hst : (U[i]? = some true → hasT t q i = false) → ∀ j, j < i + 1 → U[j]? = some true → hasT t q j = false := fun h j hj hu => by
      by_cases e : j = i
      · subst e; exact h hu
      · exact hI j (by omega) hu
    have hT : hasT t q i = hasC (boxAt t (i : Int)) q := rfl
    rw [hT] at hno hst
    rcases mk1_or hiU with hm | hm
    · unfold mk1 at hm
      have hm' := get_of hm hiU
      cases h9 : hasC (boxAt t (i : Int)) q with
      | true =>
        rw [h9] at c2 hno
        have := hno hm hlt rfl
        rw [this]
        repeat' (first
          | with_reducible refine WP.seq ?_
          | (with_reducible ((first | refine WP.region (hn := []) ?_ | refine xC_intro (c2) ?_ | refine WP.cond' ?_); simp -implicitDefEqProofs (maxSteps := 2000000) [hP, hN, g2, g7, g8, g10, hbl, hlt, hw, hm, hm', hiU, hib, hbi, hbi']))
          | (with_reducible ((first | refine WP.draw (hn := []) (by rw [hP]; kernel_rfl) (by kernel_rfl) ?_ | refine yC_intro (c2) ?_); simp -implicitDefEqProofs (maxSteps := 2000000) [hP, hN, g2, g7, g8, g10, hbl, hlt, hw, hm, hm', hiU, hib, hbi, hbi']; (try refine ⟨by kernel_rfl, ?_⟩)))
          | (with_reducible refine xB_split (by simp [g2, g7, g8, g10, hbl, hlt, hw, hm, hm', hiU, hib, hbi, hbi']) (fun hgd => ?_) (fun hgd => ?_) <;> first | (exfalso; simp at hgd; done) | (exfalso; simp at hgd; omega) | simp -implicitDefEqProofs (maxSteps := 2000000) [hP, hN, g2, g7, g8, g10, hbl, hlt, hw, hm, hm', hiU, hib, hbi, hbi'])
          | (with_reducible refine yB_split (by simp [g2, g7, g8, g10, hbl, hlt, hw, hm, hm', hiU, hib, hbi, hbi']) (fun hgd => ?_) (fun hgd => ?_) <;> first | (exfalso; simp at hgd; done) | (exfalso; simp at hgd; omega) | (simp -implicitDefEqProofs (maxSteps := 2000000) [hP, hN, g2, g7, g8, g10, hbl, hlt, hw, hm, hm', hiU, hib, hbi, hbi'] <;> (try refine ⟨by kernel_rfl, ?_⟩)))
          | with_reducible refine xTwo_intro ?_ ?_
          | (with_reducible refine xCond_split (fun hcd => ?_) (fun hcd => ?_) <;> (try (exfalso; clear hP hN; simp_all; done)) <;> (try (exfalso; simp at *; omega)))
          | with_reducible refine WP.block ?_
          | (with_reducible ((first | refine WP.skip ?_ | refine WP.exit ?_ | refine WP.ret ?_); simp [g2, g7, g8, g10, hbl, hlt, hw, hm, hm', hiU, hib, hbi, hbi'])))
      | false =>
        rw [h9] at c2 hst
        have := hst (fun _ => rfl)
        repeat' (first
          | with_reducible refine WP.seq ?_
          | (with_reducible ((first | refine WP.region (hn := []) ?_ | refine xC_intro (c2) ?_ | refine WP.cond' ?_); simp -implicitDefEqProofs (maxSteps := 2000000) [hP, hN, g2, g7, g8, g10, hbl, hlt, hw, hm, hm', hiU, hib, hbi, hbi']))
          | (with_reducible ((first | refine WP.draw (hn := []) (by rw [hP]; kernel_rfl) (by kernel_rfl) ?_ | refine yC_intro (c2) ?_); simp -implicitDefEqProofs (maxSteps := 2000000) [hP, hN, g2, g7, g8, g10, hbl, hlt, hw, hm, hm', hiU, hib, hbi, hbi']; (try refine ⟨by kernel_rfl, ?_⟩)))
          | (with_reducible refine xB_split (by simp [g2, g7, g8, g10, hbl, hlt, hw, hm, hm', hiU, hib, hbi, hbi']) (fun hgd => ?_) (fun hgd => ?_) <;> first | (exfalso; simp at hgd; done) | (exfalso; simp at hgd; omega) | simp -implicitDefEqProofs (maxSteps := 2000000) [hP, hN, g2, g7, g8, g10, hbl, hlt, hw, hm, hm', hiU, hib, hbi, hbi'])
          | (with_reducible refine yB_split (by simp [g2, g7, g8, g10, hbl, hlt, hw, hm, hm', hiU, hib, hbi, hbi']) (fun hgd => ?_) (fun hgd => ?_) <;> first | (exfalso; simp at hgd; done) | (exfalso; simp at hgd; omega) | (simp -implicitDefEqProofs (maxSteps := 2000000) [hP, hN, g2, g7, g8, g10, hbl, hlt, hw, hm, hm', hiU, hib, hbi, hbi'] <;> (try refine ⟨by kernel_rfl, ?_⟩)))
          | with_reducible refine xTwo_intro ?_ ?_
          | (with_reducible refine xCond_split (fun hcd => ?_) (fun hcd => ?_) <;> (try (exfalso; clear hP hN; simp_all; done)) <;> (try (exfalso; simp at *; omega)))
          | with_reducible refine WP.block ?_
          | (with_reducible ((first | refine WP.skip ?_ | refine WP.exit ?_ | refine WP.ret ?_); simp [g2, g7, g8, g10, hbl, hlt, hw, hm, hm', hiU, hib, hbi, hbi'])))
        all_goals exact this
    · have hm' := get_of hm hiU
      have := hst (fun h => by rw [hm] at h; cases h)
      repeat' (first
        | with_reducible refine WP.seq ?_
        | (with_reducible ((first | refine WP.region (hn := []) ?_ | refine WP.cond' ?_); simp -implicitDefEqProofs (maxSteps := 2000000) [hP, hN, g2, g7, g8, g10, hbl, hlt, hw, hm, hm', hiU]))
        | (with_reducible ((first | refine WP.draw (hn := []) (by rw [hP]; kernel_rfl) (by kernel_rfl) ?_); simp -implicitDefEqProofs (maxSteps := 2000000) [hP, hN, g2, g7, g8, g10, hbl, hlt, hw, hm, hm', hiU]; (try refine ⟨by kernel_rfl, ?_⟩)))
        | (with_reducible refine xB_split (by simp [g2, g7, g8, g10, hbl, hlt, hw, hm, hm', hiU]) (fun hgd => ?_) (fun hgd => ?_) <;> first | (exfalso; simp at hgd; done) | (exfalso; simp at hgd; omega) | simp -implicitDefEqProofs (maxSteps := 2000000) [hP, hN, g2, g7, g8, g10, hbl, hlt, hw, hm, hm', hiU])
        | (with_reducible refine yB_split (by simp [g2, g7, g8, g10, hbl, hlt, hw, hm, hm', hiU]) (fun hgd => ?_) (fun hgd => ?_) <;> first | (exfalso; simp at hgd; done) | (exfalso; simp at hgd; omega) | (simp -implicitDefEqProofs (maxSteps := 2000000) [hP, hN, g2, g7, g8, g10, hbl, hlt, hw, hm, hm', hiU] <;> (try refine ⟨by kernel_rfl, ?_⟩)))
        | with_reducible refine xTwo_intro ?_ ?_
        | (with_reducible refine xCond_split (fun hcd => ?_) (fun hcd => ?_) <;> (try (exfalso; clear hP hN; simp_all; done)) <;> (try (exfalso; simp at *; omega)))
        | with_reducible refine WP.block ?_
        | (with_reducible ((first | refine WP.skip ?_ | refine WP.exit ?_ | refine WP.ret ?_); simp [g2, g7, g8, g10, hbl, hlt, hw, hm, hm', hiU])))
      all_goals exact this
  · have := sepB_yes (fun j hj => hI j (by omega))
    rw [this]
    repeat' (first
      | with_reducible refine WP.seq ?_
      | (with_reducible ((first | refine WP.region (hn := []) ?_ | refine WP.cond' ?_); simp -implicitDefEqProofs (maxSteps := 2000000) [hP, hN, g2, g7, g8, g10, hbl, hlt]))
      | (with_reducible ((first | refine WP.draw (hn := []) (by rw [hP]; kernel_rfl) (by kernel_rfl) ?_); simp -implicitDefEqProofs (maxSteps := 2000000) [hP, hN, g2, g7, g8, g10, hbl, hlt]; (try refine ⟨by kernel_rfl, ?_⟩)))
      | (with_reducible refine xB_split (by simp [g2, g7, g8, g10, hbl, hlt]) (fun hgd => ?_) (fun hgd => ?_) <;> first | (exfalso; simp at hgd; done) | (exfalso; simp at hgd; omega) | simp -implicitDefEqProofs (maxSteps := 2000000) [hP, hN, g2, g7, g8, g10, hbl, hlt])
      | (with_reducible refine yB_split (by simp [g2, g7, g8, g10, hbl, hlt]) (fun hgd => ?_) (fun hgd => ?_) <;> first | (exfalso; simp at hgd; done) | (exfalso; simp at hgd; omega) | (simp -implicitDefEqProofs (maxSteps := 2000000) [hP, hN, g2, g7, g8, g10, hbl, hlt] <;> (try refine ⟨by kernel_rfl, ?_⟩)))
      | with_reducible refine xTwo_intro ?_ ?_
      | (with_reducible refine xCond_split (fun hcd => ?_) (fun hcd => ?_) <;> (try (exfalso; clear hP hN; simp_all; done)) <;> (try (exfalso; simp at *; omega)))
      | with_reducible refine WP.block ?_
      | (with_reducible ((first | refine WP.skip ?_ | refine WP.exit ?_ | refine WP.ret ?_); simp [g2, g7, g8, g10, hbl, hlt])))
end Go.Ab
