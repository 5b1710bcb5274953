/- Contracts: floods, IV: Flood, Separates, Size. -/
import Derived.Test.YtagmnknighofeaaCu4
set_option linter.all false
namespace Go.Ab
open Go.Proofs
theorem opL_map (t : Tr) (i : Nat) : opL (t.cells.map opnB) i = opnT t i := by
  simp only [opL, opnT, List.getElem?_map]
  cases t.cells[i]? <;> rfl
theorem bxB_at (t : Tr) (i : Nat) : bxB (boxesL t) i = boxAt t (i : Int) := by simp [bxB, boxAt]
theorem isF_land {t : Tr} {q : List Int} {U : List Bool} (h : IsF t q U) : IsR (t.cells.map opnB).length (opL (t.cells.map opnB)) (tL9 (boxesL t)) (fun i => i < (t.cells.map opnB).length ∧ sB (boxesL t) (t.cells.map opnB) q i = true) U := by
  have e1 : opL (t.cells.map opnB) = opnT t := funext (opL_map t)
  have e2 : tL9 (boxesL t) = tchT t := by funext i j; simp [tL9, tchT, bxB_at]
  have e3 : (fun i => i < (t.cells.map opnB).length ∧ sB (boxesL t) (t.cells.map opnB) q i = true) = strT t q := by
    funext i; simp [strT, sB, hasT, bxB_at, opL_map]
  rw [e1, e2, e3, List.length_map]; exact h
theorem box_small {t : Tr} (hv : validT t = true) : ∀ b ∈ boxesL t, b.length ≤ 10 := by
  intro b hb
  obtain ⟨i, hi⟩ := List.mem_iff_getElem?.1 hb
  have := (boxesL_ok hi).1
  have := sizeOk_iff.1 (valid_size hv)
  omega
def fldL (t : Tr) (p : List Int) (U : List Bool) : List Bool := if floodOk t p then U else []
theorem landFlood (t : Tr) (p : List Int) (U : List Bool) (hv : validT t = true) (hU : IsF t p U) : DetH Try.prog 131 [.pv (encLand (boxesL t) (t.cells.map opnB)), .pv (zs p)] [] [] (.pv (.sl (U.map B))) := by
  have hz := sizeOk_iff.1 (valid_size hv)
  exact d131 (boxesL t) (t.cells.map opnB) p U (by rw [boxesL_len hv, List.length_map]) (by rw [List.length_map]; omega) (by rw [List.length_map]; omega) (fun b hb => by have := box_small hv b hb; omega) (isF_land hU)
set_option maxHeartbeats 2000000 in
theorem d64 (t : Tr) (p : List Int) (U : List Bool) (hl : t.cells.length ≤ 9223372036854775807) (hr : t.root.length ≤ 9223372036854775807) (hU : IsF t p U) : DetH Try.prog 64 [.pv (encT t), .pv (zs p)] [] [] (.pv (.sl ((fldL t p U).map B))) := by
  have cv := d24 t hl
  have ch := d86 t.root p hr
  unfold fldL floodOk
  cases hv : validT t with
  | false =>
    rw [hv] at cv
    refine detP_of Try.func64 rfl (by kernel_rfl) (by simp [Try.f64]) rfl ?_
    intro C hP hN
    simp only [Try.f64] at hN ⊢
    repeat' (first
      | with_reducible refine WP.seq ?_
      | (with_reducible ((first | refine WP.region (hn := []) ?_ | refine xC_intro (cv) ?_ | refine WP.cond' ?_); simp -implicitDefEqProofs (maxSteps := 2000000) [hP, hN]))
      | (with_reducible ((first | refine WP.draw (hn := []) (by rw [hP]; kernel_rfl) (by kernel_rfl) ?_ | refine yC_intro (cv) ?_); simp -implicitDefEqProofs (maxSteps := 2000000) [hP, hN]; (try refine ⟨by kernel_rfl, ?_⟩)))
      | (with_reducible refine xB_split (by simp) (fun hgd => ?_) (fun hgd => ?_) <;> first | (exfalso; simp at hgd; done) | (exfalso; simp at hgd; omega) | simp -implicitDefEqProofs (maxSteps := 2000000) [hP, hN])
      | (with_reducible refine yB_split (by simp) (fun hgd => ?_) (fun hgd => ?_) <;> first | (exfalso; simp at hgd; done) | (exfalso; simp at hgd; omega) | (simp -implicitDefEqProofs (maxSteps := 2000000) [hP, hN] <;> (try refine ⟨by kernel_rfl, ?_⟩)))
      | with_reducible refine xTwo_intro ?_ ?_
      | (with_reducible refine xCond_split (fun hcd => ?_) (fun hcd => ?_) <;> (try (exfalso; clear hP hN; simp_all; done)) <;> (try (exfalso; simp at *; omega)))
      | with_reducible refine WP.block ?_
      | (with_reducible ((first | refine WP.skip ?_ | refine WP.exit ?_ | refine WP.ret ?_); simp)))
  | true =>
    have cs := d130 t hv
    have cf := landFlood t p U hv hU
    obtain ⟨op, hop⟩ : ∃ op, t.cells.map opnB = op := ⟨_, rfl⟩
    rw [hop] at cs cf
    rw [hv] at cv
    cases hh : hasC t.root p with
    | false =>
      rw [hh] at ch
      refine detP_of Try.func64 rfl (by kernel_rfl) (by simp [Try.f64]) rfl ?_
      intro C hP hN
      simp only [Try.f64] at hN ⊢
      repeat' (first
        | with_reducible refine WP.seq ?_
        | (with_reducible ((first | refine WP.region (hn := []) ?_ | refine xC_intro (cv) ?_ | refine xC_intro (ch) ?_ | refine WP.cond' ?_); simp -implicitDefEqProofs (maxSteps := 2000000) [hP, hN]))
        | (with_reducible ((first | refine WP.draw (hn := []) (by rw [hP]; kernel_rfl) (by kernel_rfl) ?_ | refine yC_intro (cv) ?_ | refine yC_intro (ch) ?_); simp -implicitDefEqProofs (maxSteps := 2000000) [hP, hN]; (try refine ⟨by kernel_rfl, ?_⟩)))
        | (with_reducible refine xB_split (by simp) (fun hgd => ?_) (fun hgd => ?_) <;> first | (exfalso; simp at hgd; done) | (exfalso; simp at hgd; omega) | simp -implicitDefEqProofs (maxSteps := 2000000) [hP, hN])
        | (with_reducible refine yB_split (by simp) (fun hgd => ?_) (fun hgd => ?_) <;> first | (exfalso; simp at hgd; done) | (exfalso; simp at hgd; omega) | (simp -implicitDefEqProofs (maxSteps := 2000000) [hP, hN] <;> (try refine ⟨by kernel_rfl, ?_⟩)))
        | with_reducible refine xTwo_intro ?_ ?_
        | (with_reducible refine xCond_split (fun hcd => ?_) (fun hcd => ?_) <;> (try (exfalso; clear hP hN; simp_all; done)) <;> (try (exfalso; simp at *; omega)))
        | with_reducible refine WP.block ?_
        | (with_reducible ((first | refine WP.skip ?_ | refine WP.exit ?_ | refine WP.ret ?_); simp)))
    | true =>
      rw [hh] at ch
      refine detP_of Try.func64 rfl (by kernel_rfl) (by simp [Try.f64]) rfl ?_
      intro C hP hN
      simp only [Try.f64] at hN ⊢
      repeat' (first
        | with_reducible refine WP.seq ?_
        | (with_reducible ((first | refine WP.region (hn := []) ?_ | refine xC_intro (cv) ?_ | refine xC_intro (ch) ?_ | refine xC_intro (cs) ?_ | refine xC_intro (cf) ?_ | refine WP.cond' ?_); simp -implicitDefEqProofs (maxSteps := 2000000) [hP, hN]))
        | (with_reducible ((first | refine WP.draw (hn := []) (by rw [hP]; kernel_rfl) (by kernel_rfl) ?_ | refine yC_intro (cv) ?_ | refine yC_intro (ch) ?_ | refine yC_intro (cs) ?_ | refine yC_intro (cf) ?_); simp -implicitDefEqProofs (maxSteps := 2000000) [hP, hN]; (try refine ⟨by kernel_rfl, ?_⟩)))
        | (with_reducible refine xB_split (by simp) (fun hgd => ?_) (fun hgd => ?_) <;> first | (exfalso; simp at hgd; done) | (exfalso; simp at hgd; omega) | simp -implicitDefEqProofs (maxSteps := 2000000) [hP, hN])
        | (with_reducible refine yB_split (by simp) (fun hgd => ?_) (fun hgd => ?_) <;> first | (exfalso; simp at hgd; done) | (exfalso; simp at hgd; omega) | (simp -implicitDefEqProofs (maxSteps := 2000000) [hP, hN] <;> (try refine ⟨by kernel_rfl, ?_⟩)))
        | with_reducible refine xTwo_intro ?_ ?_
        | (with_reducible refine xCond_split (fun hcd => ?_) (fun hcd => ?_) <;> (try (exfalso; clear hP hN; simp_all; done)) <;> (try (exfalso; simp at *; omega)))
        | with_reducible refine WP.block ?_
        | (with_reducible ((first | refine WP.skip ?_ | refine WP.exit ?_ | refine WP.ret ?_); simp)))
theorem sepB_no {t : Tr} {U : List Bool} {q : List Int} {i : Nat} (h1 : U[i]? = some true) (hi : i < t.cells.length) (h2 : hasT t q i = true) : sepB t U q = false := by
  unfold sepB
  apply Bool.eq_false_iff.2
  intro h
  have := List.all_eq_true.1 h i (List.mem_range.2 hi)
  simp [h1, h2] at this
theorem sepB_yes {t : Tr} {U : List Bool} {q : List Int} (h : ∀ i, i < t.cells.length → U[i]? = some true → hasT t q i = false) : sepB t U q = true := by
  unfold sepB
  refine List.all_eq_true.2 fun i hi => ?_
  cases hu : U[i]? with
  | none => rfl
  | some b => cases b with
    | false => rfl
    | true => simp [h i (List.mem_range.1 hi) hu]
set_option maxRecDepth 10000 in
set_option maxHeartbeats 8000000 in
theorem d59 (t : Tr) (p q : List Int) (U : List Bool) (hl : t.cells.length ≤ 9223372036854775807) (hr : t.root.length ≤ 9223372036854775807) (hU : IsF t p U) : DetH Try.prog 59 [.pv (encT t), .pv (zs p), .pv (zs q)] [] [] (.pv (B (sepOk t p q U))) := by
  have cv := d24 t hl
  have ch := d86 t.root p hr
  have ck := d86 t.root q hr
  unfold sepOk
  cases hv : validT t with
  | false =>
    rw [hv] at cv
    refine detP_of Try.func59 rfl (by kernel_rfl) (by simp [Try.f59]) rfl ?_
    intro C hP hN
    simp only [Try.f59] at hN ⊢
    repeat' (first
      | with_reducible refine WP.seq ?_
      | (with_reducible ((first | refine WP.region (hn := []) ?_ | refine xC_intro (cv) ?_ | refine WP.cond' ?_); simp -implicitDefEqProofs (maxSteps := 2000000) [hP, hN]))
      | (with_reducible ((first | refine WP.draw (hn := []) (by rw [hP]; kernel_rfl) (by kernel_rfl) ?_ | refine yC_intro (cv) ?_); simp -implicitDefEqProofs (maxSteps := 2000000) [hP, hN]; (try refine ⟨by kernel_rfl, ?_⟩)))
      | (with_reducible refine xB_split (by simp) (fun hgd => ?_) (fun hgd => ?_) <;> first | (exfalso; simp at hgd; done) | (exfalso; simp at hgd; omega) | simp -implicitDefEqProofs (maxSteps := 2000000) [hP, hN])
      | (with_reducible refine yB_split (by simp) (fun hgd => ?_) (fun hgd => ?_) <;> first | (exfalso; simp at hgd; done) | (exfalso; simp at hgd; omega) | (simp -implicitDefEqProofs (maxSteps := 2000000) [hP, hN] <;> (try refine ⟨by kernel_rfl, ?_⟩)))
      | with_reducible refine xTwo_intro ?_ ?_
      | (with_reducible refine xCond_split (fun hcd => ?_) (fun hcd => ?_) <;> (try (exfalso; clear hP hN; simp_all; done)) <;> (try (exfalso; simp at *; omega)))
      | with_reducible refine WP.block ?_
      | (with_reducible ((first | refine WP.skip ?_ | refine WP.exit ?_ | refine WP.ret ?_); simp)))
  | true =>
  rw [hv] at cv
  cases hh : hasC t.root p with
  | false =>
    rw [hh] at ch
    refine detP_of Try.func59 rfl (by kernel_rfl) (by simp [Try.f59]) rfl ?_
    intro C hP hN
    simp only [Try.f59] at hN ⊢
    repeat' (first
      | with_reducible refine WP.seq ?_
      | (with_reducible ((first | refine WP.region (hn := []) ?_ | refine xC_intro (cv) ?_ | refine xC_intro (ch) ?_ | refine WP.cond' ?_); simp -implicitDefEqProofs (maxSteps := 2000000) [hP, hN]))
      | (with_reducible ((first | refine WP.draw (hn := []) (by rw [hP]; kernel_rfl) (by kernel_rfl) ?_ | refine yC_intro (cv) ?_ | refine yC_intro (ch) ?_); simp -implicitDefEqProofs (maxSteps := 2000000) [hP, hN]; (try refine ⟨by kernel_rfl, ?_⟩)))
      | (with_reducible refine xB_split (by simp) (fun hgd => ?_) (fun hgd => ?_) <;> first | (exfalso; simp at hgd; done) | (exfalso; simp at hgd; omega) | simp -implicitDefEqProofs (maxSteps := 2000000) [hP, hN])
      | (with_reducible refine yB_split (by simp) (fun hgd => ?_) (fun hgd => ?_) <;> first | (exfalso; simp at hgd; done) | (exfalso; simp at hgd; omega) | (simp -implicitDefEqProofs (maxSteps := 2000000) [hP, hN] <;> (try refine ⟨by kernel_rfl, ?_⟩)))
      | with_reducible refine xTwo_intro ?_ ?_
      | (with_reducible refine xCond_split (fun hcd => ?_) (fun hcd => ?_) <;> (try (exfalso; clear hP hN; simp_all; done)) <;> (try (exfalso; simp at *; omega)))
      | with_reducible refine WP.block ?_
      | (with_reducible ((first | refine WP.skip ?_ | refine WP.exit ?_ | refine WP.ret ?_); simp)))
  | true =>
  rw [hh] at ch
  cases hk : hasC t.root q with
  | false =>
    rw [hk] at ck
    refine detP_of Try.func59 rfl (by kernel_rfl) (by simp [Try.f59]) rfl ?_
    intro C hP hN
    simp only [Try.f59] at hN ⊢
    repeat' (first
      | with_reducible refine WP.seq ?_
      | (with_reducible ((first | refine WP.region (hn := []) ?_ | refine xC_intro (cv) ?_ | refine xC_intro (ch) ?_ | refine xC_intro (ck) ?_ | refine WP.cond' ?_); simp -implicitDefEqProofs (maxSteps := 2000000) [hP, hN]))
      | (with_reducible ((first | refine WP.draw (hn := []) (by rw [hP]; kernel_rfl) (by kernel_rfl) ?_ | refine yC_intro (cv) ?_ | refine yC_intro (ch) ?_ | refine yC_intro (ck) ?_); simp -implicitDefEqProofs (maxSteps := 2000000) [hP, hN]; (try refine ⟨by kernel_rfl, ?_⟩)))
      | (with_reducible refine xB_split (by simp) (fun hgd => ?_) (fun hgd => ?_) <;> first | (exfalso; simp at hgd; done) | (exfalso; simp at hgd; omega) | simp -implicitDefEqProofs (maxSteps := 2000000) [hP, hN])
      | (with_reducible refine yB_split (by simp) (fun hgd => ?_) (fun hgd => ?_) <;> first | (exfalso; simp at hgd; done) | (exfalso; simp at hgd; omega) | (simp -implicitDefEqProofs (maxSteps := 2000000) [hP, hN] <;> (try refine ⟨by kernel_rfl, ?_⟩)))
      | with_reducible refine xTwo_intro ?_ ?_
      | (with_reducible refine xCond_split (fun hcd => ?_) (fun hcd => ?_) <;> (try (exfalso; clear hP hN; simp_all; done)) <;> (try (exfalso; simp at *; omega)))
      | with_reducible refine WP.block ?_
      | (with_reducible ((first | refine WP.skip ?_ | refine WP.exit ?_ | refine WP.ret ?_); simp)))
  | true =>
  rw [hk] at ck
  have cs := d130 t hv
  have cf := landFlood t p U hv hU
  obtain ⟨op, hop⟩ : ∃ op, t.cells.map opnB = op := ⟨_, rfl⟩
  rw [hop] at cs cf
  have hz := sizeOk_iff.1 (valid_size hv)
  have hUl := hU.len
  have hbl := boxesL_len hv
  refine detP_of Try.func59 rfl (by kernel_rfl) (by simp [Try.f59]) rfl ?_
  intro C hP hN
  simp only [Try.f59] at hN ⊢
  repeat' (first
    | with_reducible refine WP.seq ?_
    | (with_reducible ((first | refine WP.region (hn := []) ?_ | refine xC_intro (cv) ?_ | refine xC_intro (ch) ?_ | refine xC_intro (ck) ?_ | refine xC_intro (cs) ?_ | refine xC_intro (cf) ?_ | refine WP.cond' ?_); simp -implicitDefEqProofs (maxSteps := 2000000) [hP, hN]))
    | (with_reducible ((first | refine WP.draw (hn := []) (by rw [hP]; kernel_rfl) (by kernel_rfl) ?_ | refine yC_intro (cv) ?_ | refine yC_intro (ch) ?_ | refine yC_intro (ck) ?_ | refine yC_intro (cs) ?_ | refine yC_intro (cf) ?_); simp -implicitDefEqProofs (maxSteps := 2000000) [hP, hN]; (try refine ⟨by kernel_rfl, ?_⟩)))
    | (with_reducible refine xB_split (by simp) (fun hgd => ?_) (fun hgd => ?_) <;> first | (exfalso; simp at hgd; done) | (exfalso; simp at hgd; omega) | simp -implicitDefEqProofs (maxSteps := 2000000) [hP, hN])
    | (with_reducible refine yB_split (by simp) (fun hgd => ?_) (fun hgd => ?_) <;> first | (exfalso; simp at hgd; done) | (exfalso; simp at hgd; omega) | (simp -implicitDefEqProofs (maxSteps := 2000000) [hP, hN] <;> (try refine ⟨by kernel_rfl, ?_⟩)))
    | with_reducible refine xTwo_intro ?_ ?_
    | (with_reducible refine xCond_split (fun hcd => ?_) (fun hcd => ?_) <;> (try (exfalso; clear hP hN; simp_all; done)) <;> (try (exfalso; simp at *; omega)))
    | with_reducible refine WP.block ?_
    | (with_reducible ((first | refine WP.skip ?_ | refine WP.exit ?_ | refine WP.ret ?_); simp)))
  refine WP.loopN [] t.cells.length (fun i st => st.t 2 = .pv (zs q) ∧ st.t 7 = .ptr 7 0 ∧ st.t 31 = .pv (.sl (U.map B)) ∧ st.t 32 = .pv (Z t.cells.length) ∧ st.t 33 = .pv (Z i) ∧ st.h 7 = some (.box [.pv (.sl ((boxesL t).map iv)), .pv (.sl (op.map B))] true false) ∧ (∀ j, j < i → U[j]? = some true → hasT t q j = false)) (by simp [hUl]) ?_
  rintro i st hi ⟨g2, g7, g31, g32, g33, hb7, hI⟩
  by_cases hlt : i < t.cells.length
  · have hw := wr_succ hlt (by omega)
    have hiU : i < U.length := by omega
    have hib : i < (boxesL t).length := by omega
    obtain ⟨hbi, hbl2, _⟩ := boxAt_ok hv (c := (i : Int)) (by simpa using hlt)
    rw [Int.toNat_natCast] at hbi
    have hbi' := get_of hbi hib
    have c2 := d86 (boxAt t (i : Int)) q (by omega)
    have hno := sepB_no (t := t) (U := U) (q := q) (i := i)
    have hst : (U[i]? = some true → hasT t q i = false) → ∀ j, j < i + 1 → U[j]? = some true → hasT t q j = false := fun h j hj hu => by
      by_cases e : j = i
      · subst e; exact h hu
      · exact hI j (by omega) hu
    have hT : hasT t q i = hasC (boxAt t (i : Int)) q := rfl
    rw [hT] at hno hst
    rcases mk1_or hiU with hm | hm
    · unfold mk1 at hm
      have hm' := get_of hm hiU
      cases h9 : hasC (boxAt t (i : Int)) q with
      | true =>
        rw [h9] at c2 hno
        have := hno hm hlt rfl
        rw [this]
        repeat' (first
          | with_reducible refine WP.seq ?_
          | (with_reducible ((first | refine WP.region (hn := []) ?_ | refine xC_intro (c2) ?_ | refine WP.cond' ?_); simp -implicitDefEqProofs (maxSteps := 2000000) [hP, hN, g2, g7, g31, g32, g33, hb7, hlt, hw, hm, hm', hiU, hib, hbi, hbi']))
          | (with_reducible ((first | refine WP.draw (hn := []) (by rw [hP]; kernel_rfl) (by kernel_rfl) ?_ | refine yC_intro (c2) ?_); simp -implicitDefEqProofs (maxSteps := 2000000) [hP, hN, g2, g7, g31, g32, g33, hb7, hlt, hw, hm, hm', hiU, hib, hbi, hbi']; (try refine ⟨by kernel_rfl, ?_⟩)))
          | (with_reducible refine xB_split (by simp [g2, g7, g31, g32, g33, hb7, hlt, hw, hm, hm', hiU, hib, hbi, hbi']) (fun hgd => ?_) (fun hgd => ?_) <;> first | (exfalso; simp at hgd; done) | (exfalso; simp at hgd; omega) | simp -implicitDefEqProofs (maxSteps := 2000000) [hP, hN, g2, g7, g31, g32, g33, hb7, hlt, hw, hm, hm', hiU, hib, hbi, hbi'])
          | (with_reducible refine yB_split (by simp [g2, g7, g31, g32, g33, hb7, hlt, hw, hm, hm', hiU, hib, hbi, hbi']) (fun hgd => ?_) (fun hgd => ?_) <;> first | (exfalso; simp at hgd; done) | (exfalso; simp at hgd; omega) | (simp -implicitDefEqProofs (maxSteps := 2000000) [hP, hN, g2, g7, g31, g32, g33, hb7, hlt, hw, hm, hm', hiU, hib, hbi, hbi'] <;> (try refine ⟨by kernel_rfl, ?_⟩)))
          | with_reducible refine xTwo_intro ?_ ?_
          | (with_reducible refine xCond_split (fun hcd => ?_) (fun hcd => ?_) <;> (try (exfalso; clear hP hN; simp_all; done)) <;> (try (exfalso; simp at *; omega)))
          | with_reducible refine WP.block ?_
          | (with_reducible ((first | refine WP.skip ?_ | refine WP.exit ?_ | refine WP.ret ?_); simp [g2, g7, g31, g32, g33, hb7, hlt, hw, hm, hm', hiU, hib, hbi, hbi'])))
      | false =>
        rw [h9] at c2 hst
        have := hst (fun _ => rfl)
        repeat' (first
          | with_reducible refine WP.seq ?_
          | (with_reducible ((first | refine WP.region (hn := []) ?_ | refine xC_intro (c2) ?_ | refine WP.cond' ?_); simp -implicitDefEqProofs (maxSteps := 2000000) [hP, hN, g2, g7, g31, g32, g33, hb7, hlt, hw, hm, hm', hiU, hib, hbi, hbi']))
          | (with_reducible ((first | refine WP.draw (hn := []) (by rw [hP]; kernel_rfl) (by kernel_rfl) ?_ | refine yC_intro (c2) ?_); simp -implicitDefEqProofs (maxSteps := 2000000) [hP, hN, g2, g7, g31, g32, g33, hb7, hlt, hw, hm, hm', hiU, hib, hbi, hbi']; (try refine ⟨by kernel_rfl, ?_⟩)))
          | (with_reducible refine xB_split (by simp [g2, g7, g31, g32, g33, hb7, hlt, hw, hm, hm', hiU, hib, hbi, hbi']) (fun hgd => ?_) (fun hgd => ?_) <;> first | (exfalso; simp at hgd; done) | (exfalso; simp at hgd; omega) | simp -implicitDefEqProofs (maxSteps := 2000000) [hP, hN, g2, g7, g31, g32, g33, hb7, hlt, hw, hm, hm', hiU, hib, hbi, hbi'])
          | (with_reducible refine yB_split (by simp [g2, g7, g31, g32, g33, hb7, hlt, hw, hm, hm', hiU, hib, hbi, hbi']) (fun hgd => ?_) (fun hgd => ?_) <;> first | (exfalso; simp at hgd; done) | (exfalso; simp at hgd; omega) | (simp -implicitDefEqProofs (maxSteps := 2000000) [hP, hN, g2, g7, g31, g32, g33, hb7, hlt, hw, hm, hm', hiU, hib, hbi, hbi'] <;> (try refine ⟨by kernel_rfl, ?_⟩)))
          | with_reducible refine xTwo_intro ?_ ?_
          | (with_reducible refine xCond_split (fun hcd => ?_) (fun hcd => ?_) <;> (try (exfalso; clear hP hN; simp_all; done)) <;> (try (exfalso; simp at *; omega)))
          | with_reducible refine WP.block ?_
          | (with_reducible ((first | refine WP.skip ?_ | refine WP.exit ?_ | refine WP.ret ?_); simp [g2, g7, g31, g32, g33, hb7, hlt, hw, hm, hm', hiU, hib, hbi, hbi'])))
        all_goals exact this
    · have hm' := get_of hm hiU
      have := hst (fun h => by rw [hm] at h; cases h)
      repeat' (first
        | with_reducible refine WP.seq ?_
        | (with_reducible ((first | refine WP.region (hn := []) ?_ | refine WP.cond' ?_); simp -implicitDefEqProofs (maxSteps := 2000000) [hP, hN, g2, g7, g31, g32, g33, hb7, hlt, hw, hm, hm', hiU]))
        | (with_reducible ((first | refine WP.draw (hn := []) (by rw [hP]; kernel_rfl) (by kernel_rfl) ?_); simp -implicitDefEqProofs (maxSteps := 2000000) [hP, hN, g2, g7, g31, g32, g33, hb7, hlt, hw, hm, hm', hiU]; (try refine ⟨by kernel_rfl, ?_⟩)))
        | (with_reducible refine xB_split (by simp [g2, g7, g31, g32, g33, hb7, hlt, hw, hm, hm', hiU]) (fun hgd => ?_) (fun hgd => ?_) <;> first | (exfalso; simp at hgd; done) | (exfalso; simp at hgd; omega) | simp -implicitDefEqProofs (maxSteps := 2000000) [hP, hN, g2, g7, g31, g32, g33, hb7, hlt, hw, hm, hm', hiU])
        | (with_reducible refine yB_split (by simp [g2, g7, g31, g32, g33, hb7, hlt, hw, hm, hm', hiU]) (fun hgd => ?_) (fun hgd => ?_) <;> first | (exfalso; simp at hgd; done) | (exfalso; simp at hgd; omega) | (simp -implicitDefEqProofs (maxSteps := 2000000) [hP, hN, g2, g7, g31, g32, g33, hb7, hlt, hw, hm, hm', hiU] <;> (try refine ⟨by kernel_rfl, ?_⟩)))
        | with_reducible refine xTwo_intro ?_ ?_
        | (with_reducible refine xCond_split (fun hcd => ?_) (fun hcd => ?_) <;> (try (exfalso; clear hP hN; simp_all; done)) <;> (try (exfalso; simp at *; omega)))
        | with_reducible refine WP.block ?_
        | (with_reducible ((first | refine WP.skip ?_ | refine WP.exit ?_ | refine WP.ret ?_); simp [g2, g7, g31, g32, g33, hb7, hlt, hw, hm, hm', hiU])))
      all_goals exact this
  · have := sepB_yes (fun j hj => hI j (by omega))
    rw [this]
    repeat' (first
      | with_reducible refine WP.seq ?_
      | (with_reducible ((first | refine WP.region (hn := []) ?_ | refine WP.cond' ?_); simp -implicitDefEqProofs (maxSteps := 2000000) [hP, hN, g2, g7, g31, g32, g33, hb7, hlt]))
      | (with_reducible ((first | refine WP.draw (hn := []) (by rw [hP]; kernel_rfl) (by kernel_rfl) ?_); simp -implicitDefEqProofs (maxSteps := 2000000) [hP, hN, g2, g7, g31, g32, g33, hb7, hlt]; (try refine ⟨by kernel_rfl, ?_⟩)))
      | (with_reducible refine xB_split (by simp [g2, g7, g31, g32, g33, hb7, hlt]) (fun hgd => ?_) (fun hgd => ?_) <;> first | (exfalso; simp at hgd; done) | (exfalso; simp at hgd; omega) | simp -implicitDefEqProofs (maxSteps := 2000000) [hP, hN, g2, g7, g31, g32, g33, hb7, hlt])
      | (with_reducible refine yB_split (by simp [g2, g7, g31, g32, g33, hb7, hlt]) (fun hgd => ?_) (fun hgd => ?_) <;> first | (exfalso; simp at hgd; done) | (exfalso; simp at hgd; omega) | (simp -implicitDefEqProofs (maxSteps := 2000000) [hP, hN, g2, g7, g31, g32, g33, hb7, hlt] <;> (try refine ⟨by kernel_rfl, ?_⟩)))
      | with_reducible refine xTwo_intro ?_ ?_
      | (with_reducible refine xCond_split (fun hcd => ?_) (fun hcd => ?_) <;> (try (exfalso; clear hP hN; simp_all; done)) <;> (try (exfalso; simp at *; omega)))
      | with_reducible refine WP.block ?_
      | (with_reducible ((first | refine WP.skip ?_ | refine WP.exit ?_ | refine WP.ret ?_); simp [g2, g7, g31, g32, g33, hb7, hlt])))
def sizeC (cs : List Cel) : Nat := cs.countP colB
set_option maxHeartbeats 4000000 in
theorem d69 (t : Tr) (hl : t.cells.length ≤ 9223372036854775807) : DetH Try.prog 69 [.pv (encT t)] [] [] (.pv (Z (sizeC t.cells))) := by
  refine detP_of Try.func69 rfl (by kernel_rfl) (by simp [Try.f69]) rfl ?_
  intro C hP hN
  simp only [Try.f69] at hN ⊢
  repeat' (first
    | with_reducible refine WP.seq ?_
    | (with_reducible ((first | refine WP.region (hn := []) ?_ | refine WP.cond' ?_); simp -implicitDefEqProofs (maxSteps := 2000000) [hP, hN]))
    | (with_reducible ((first | refine WP.draw (hn := []) (by rw [hP]; kernel_rfl) (by kernel_rfl) ?_); simp -implicitDefEqProofs (maxSteps := 2000000) [hP, hN]; (try refine ⟨by kernel_rfl, ?_⟩)))
    | (with_reducible refine xB_split (by simp) (fun hgd => ?_) (fun hgd => ?_) <;> first | (exfalso; simp at hgd; done) | (exfalso; simp at hgd; omega) | simp -implicitDefEqProofs (maxSteps := 2000000) [hP, hN])
    | (with_reducible refine yB_split (by simp) (fun hgd => ?_) (fun hgd => ?_) <;> first | (exfalso; simp at hgd; done) | (exfalso; simp at hgd; omega) | (simp -implicitDefEqProofs (maxSteps := 2000000) [hP, hN] <;> (try refine ⟨by kernel_rfl, ?_⟩)))
    | with_reducible refine xTwo_intro ?_ ?_
    | (with_reducible refine xCond_split (fun hcd => ?_) (fun hcd => ?_) <;> (try (exfalso; clear hP hN; simp_all; done)) <;> (try (exfalso; simp at *; omega)))
    | with_reducible refine WP.block ?_
    | (with_reducible ((first | refine WP.skip ?_ | refine WP.exit ?_ | refine WP.ret ?_); simp)))
  refine WP.loopN [5] t.cells.length (fun i st => st.t 3 = .pv (Z (sizeC (t.cells.take i))) ∧ st.t 7 = .pv (.sl (t.cells.map encC)) ∧ st.t 8 = .pv (Z t.cells.length) ∧ st.t 9 = .pv (Z i) ∧ st.h 5 = none) (by simp [sizeC]) ?_
  rintro i st hi ⟨g3, g7, g8, g9, hb5⟩
  by_cases hlt : i < t.cells.length
  · have hw := wr_succ hlt (by omega)
    have hsz : sizeC (t.cells.take (i + 1)) = sizeC (t.cells.take i) + (if colB t.cells[i] then 1 else 0) := by
      rw [sizeC, sizeC, List.take_succ_eq_append_getElem hlt, List.countP_append, List.countP_cons, List.countP_nil]; omega
    have hszl : sizeC (t.cells.take i) ≤ i := by
      have : sizeC (t.cells.take i) ≤ (t.cells.take i).length := List.countP_le_length
      rw [List.length_take] at this; omega
    generalize hc : t.cells[i] = c at *
    have hci : t.cells[i]? = some c := by rw [List.getElem?_eq_getElem hlt, hc]
    have cc := d134 c
    have hws : IntKind.i64.wrap ((sizeC (t.cells.take i) : Int) + 1) = (sizeC (t.cells.take i) : Int) + 1 := wr_id (by omega) (by omega)
    cases hb : colB c with
    | true =>
      rw [hb] at cc hsz
      repeat' (first
        | with_reducible refine WP.seq ?_
        | (with_reducible ((first | refine WP.region (hn := []) ?_ | refine xC_intro (cc) ?_ | refine WP.cond' ?_); simp -implicitDefEqProofs (maxSteps := 2000000) [hP, hN, g3, g7, g8, g9, hb5, hlt, hw, hci, hc, hws]))
        | (with_reducible ((first | refine WP.draw (hn := []) (by rw [hP]; kernel_rfl) (by kernel_rfl) ?_ | refine yC_intro (cc) ?_); simp -implicitDefEqProofs (maxSteps := 2000000) [hP, hN, g3, g7, g8, g9, hb5, hlt, hw, hci, hc, hws]; (try refine ⟨by kernel_rfl, ?_⟩)))
        | (with_reducible refine xB_split (by simp [g3, g7, g8, g9, hb5, hlt, hw, hci, hc, hws]) (fun hgd => ?_) (fun hgd => ?_) <;> first | (exfalso; simp at hgd; done) | (exfalso; simp at hgd; omega) | simp -implicitDefEqProofs (maxSteps := 2000000) [hP, hN, g3, g7, g8, g9, hb5, hlt, hw, hci, hc, hws])
        | (with_reducible refine yB_split (by simp [g3, g7, g8, g9, hb5, hlt, hw, hci, hc, hws]) (fun hgd => ?_) (fun hgd => ?_) <;> first | (exfalso; simp at hgd; done) | (exfalso; simp at hgd; omega) | (simp -implicitDefEqProofs (maxSteps := 2000000) [hP, hN, g3, g7, g8, g9, hb5, hlt, hw, hci, hc, hws] <;> (try refine ⟨by kernel_rfl, ?_⟩)))
        | with_reducible refine xTwo_intro ?_ ?_
        | (with_reducible refine xCond_split (fun hcd => ?_) (fun hcd => ?_) <;> (try (exfalso; clear hP hN; simp_all; done)) <;> (try (exfalso; simp at *; omega)))
        | with_reducible refine WP.block ?_
        | (with_reducible ((first | refine WP.skip ?_ | refine WP.exit ?_ | refine WP.ret ?_); simp [g3, g7, g8, g9, hb5, hlt, hw, hci, hc, hws])))
      all_goals simp [hsz]
    | false =>
      rw [hb] at cc hsz
      repeat' (first
        | with_reducible refine WP.seq ?_
        | (with_reducible ((first | refine WP.region (hn := []) ?_ | refine xC_intro (cc) ?_ | refine WP.cond' ?_); simp -implicitDefEqProofs (maxSteps := 2000000) [hP, hN, g3, g7, g8, g9, hb5, hlt, hw, hci, hc, hws]))
        | (with_reducible ((first | refine WP.draw (hn := []) (by rw [hP]; kernel_rfl) (by kernel_rfl) ?_ | refine yC_intro (cc) ?_); simp -implicitDefEqProofs (maxSteps := 2000000) [hP, hN, g3, g7, g8, g9, hb5, hlt, hw, hci, hc, hws]; (try refine ⟨by kernel_rfl, ?_⟩)))
        | (with_reducible refine xB_split (by simp [g3, g7, g8, g9, hb5, hlt, hw, hci, hc, hws]) (fun hgd => ?_) (fun hgd => ?_) <;> first | (exfalso; simp at hgd; done) | (exfalso; simp at hgd; omega) | simp -implicitDefEqProofs (maxSteps := 2000000) [hP, hN, g3, g7, g8, g9, hb5, hlt, hw, hci, hc, hws])
        | (with_reducible refine yB_split (by simp [g3, g7, g8, g9, hb5, hlt, hw, hci, hc, hws]) (fun hgd => ?_) (fun hgd => ?_) <;> first | (exfalso; simp at hgd; done) | (exfalso; simp at hgd; omega) | (simp -implicitDefEqProofs (maxSteps := 2000000) [hP, hN, g3, g7, g8, g9, hb5, hlt, hw, hci, hc, hws] <;> (try refine ⟨by kernel_rfl, ?_⟩)))
        | with_reducible refine xTwo_intro ?_ ?_
        | (with_reducible refine xCond_split (fun hcd => ?_) (fun hcd => ?_) <;> (try (exfalso; clear hP hN; simp_all; done)) <;> (try (exfalso; simp at *; omega)))
        | with_reducible refine WP.block ?_
        | (with_reducible ((first | refine WP.skip ?_ | refine WP.exit ?_ | refine WP.ret ?_); simp [g3, g7, g8, g9, hb5, hlt, hw, hci, hc, hws])))
      all_goals simp [hsz]
  · have e : t.cells.take i = t.cells := List.take_of_length_le (by omega)
    rw [e] at g3
    repeat' (first
      | with_reducible refine WP.seq ?_
      | (with_reducible ((first | refine WP.region (hn := []) ?_ | refine WP.cond' ?_); simp -implicitDefEqProofs (maxSteps := 2000000) [hP, hN, g3, g7, g8, g9, hb5, hlt]))
      | (with_reducible ((first | refine WP.draw (hn := []) (by rw [hP]; kernel_rfl) (by kernel_rfl) ?_); simp -implicitDefEqProofs (maxSteps := 2000000) [hP, hN, g3, g7, g8, g9, hb5, hlt]; (try refine ⟨by kernel_rfl, ?_⟩)))
      | (with_reducible refine xB_split (by simp [g3, g7, g8, g9, hb5, hlt]) (fun hgd => ?_) (fun hgd => ?_) <;> first | (exfalso; simp at hgd; done) | (exfalso; simp at hgd; omega) | simp -implicitDefEqProofs (maxSteps := 2000000) [hP, hN, g3, g7, g8, g9, hb5, hlt])
      | (with_reducible refine yB_split (by simp [g3, g7, g8, g9, hb5, hlt]) (fun hgd => ?_) (fun hgd => ?_) <;> first | (exfalso; simp at hgd; done) | (exfalso; simp at hgd; omega) | (simp -implicitDefEqProofs (maxSteps := 2000000) [hP, hN, g3, g7, g8, g9, hb5, hlt] <;> (try refine ⟨by kernel_rfl, ?_⟩)))
      | with_reducible refine xTwo_intro ?_ ?_
      | (with_reducible refine xCond_split (fun hcd => ?_) (fun hcd => ?_) <;> (try (exfalso; clear hP hN; simp_all; done)) <;> (try (exfalso; simp at *; omega)))
      | with_reducible refine WP.block ?_
      | (with_reducible ((first | refine WP.skip ?_ | refine WP.exit ?_ | refine WP.ret ?_); simp [g3, g7, g8, g9, hb5, hlt])))
end Go.Ab
