/- Contracts: the boxes of a tree, the program's own. -/
import Derived.Test.YtagmnknighofeaaTrA
set_option linter.all false
namespace Go.Ab
open Go.Proofs
theorem init_row {t : Tr} (h : 1 ≤ t.cells.length) : (List.replicate t.cells.length (PV.val (.slice none 0 0))).set 0 (iv t.root) = (bInit t).map encO := by
  obtain ⟨n, hn⟩ : ∃ n, t.cells.length = n + 1 := ⟨t.cells.length - 1, by omega⟩
  simp [bInit, hn, List.replicate_succ, encO]
theorem encO_none : encO none = .val (.slice none 0 0) := rfl
theorem encO_some (b : Bx) : encO (some b) = iv b := rfl
theorem get_of {α : Type} {L : List α} {i : Nat} {x : α} (h : L[i]? = some x) (hl : i < L.length) : L[i] = x := (List.getElem?_eq_some_iff.1 h).2
theorem set_row {L : OL} {a z : Nat} {x y : Bx} : ((L.map encO).set a (iv x)).set z (iv y) = ((L.set a (some x)).set z (some y)).map encO := by
  simp [List.map_set, encO]
theorem inner_false {n i : Nat} {c : Cel} (h : innerB n i c = false) : c.low ≤ i ∨ (n : Int) ≤ c.low ∨ c.high ≤ i ∨ (n : Int) ≤ c.high ∨ (c.low == c.high) = true ∨ zeroB c.v = false := by
  cases hz : zeroB c.v with
  | false => exact .inr (.inr (.inr (.inr (.inr rfl))))
  | true =>
    have : ¬ ((i : Int) < c.low ∧ c.low < n ∧ (i : Int) < c.high ∧ c.high < n ∧ c.low ≠ c.high ∧ zeroB c.v = true) := by rw [← innerB_iff, h]; simp
    simp only [hz, and_true] at this
    simp only [beq_iff_eq]
    omega
set_option maxHeartbeats 16000000 in
theorem d77 (t : Tr) (hl : t.cells.length ≤ 9223372036854775807) : DetH Try.prog 77 [.pv (encT t)] [] [] (.pv (.tup [.sl ((boxesL t).map iv), B (validT t)])) := by
  have cv := d146 t.root
  cases hs : sizeOk t with
  | false =>
    have hno := not_valid (t := t) (by simp [boxesO, hs])
    rw [hno.1, hno.2]
    by_cases h1 : t.cells.length < 1
    · have h1' : (t.cells.length : Int) < 1 := by omega
      refine detP_of Try.func77 rfl (by kernel_rfl) (by simp [Try.f77]) rfl ?_
      intro C hP hN
      simp only [Try.f77] at hN ⊢
      repeat' (first
        | with_reducible refine WP.seq ?_
        | (with_reducible ((first | refine WP.region (hn := []) ?_ | refine WP.cond' ?_); simp -implicitDefEqProofs (maxSteps := 2000000) [hP, hN, h1', h1]))
        | (with_reducible ((first | refine WP.draw (hn := []) (by rw [hP]; kernel_rfl) (by kernel_rfl) ?_); simp -implicitDefEqProofs (maxSteps := 2000000) [hP, hN, h1', h1]; (try refine ⟨by kernel_rfl, ?_⟩)))
        | (with_reducible refine xB_split (by simp [h1', h1]) (fun hgd => ?_) (fun hgd => ?_) <;> first | (exfalso; simp at hgd; done) | (exfalso; simp at hgd; omega) | simp -implicitDefEqProofs (maxSteps := 2000000) [hP, hN, h1', h1])
        | (with_reducible refine yB_split (by simp [h1', h1]) (fun hgd => ?_) (fun hgd => ?_) <;> first | (exfalso; simp at hgd; done) | (exfalso; simp at hgd; omega) | (simp -implicitDefEqProofs (maxSteps := 2000000) [hP, hN, h1', h1] <;> (try refine ⟨by kernel_rfl, ?_⟩)))
        | with_reducible refine xTwo_intro ?_ ?_
        | (with_reducible refine xCond_split (fun hcd => ?_) (fun hcd => ?_) <;> (try (exfalso; clear hP hN; simp_all; done)) <;> (try (exfalso; simp at *; omega)))
        | with_reducible refine WP.block ?_
        | (with_reducible ((first | refine WP.skip ?_ | refine WP.exit ?_ | refine WP.ret ?_); simp [h1', h1])))
    have h1' : ¬ (t.cells.length : Int) < 1 := by omega
    by_cases h2 : 2048 < t.cells.length
    · have h2' : (2048 : Int) < t.cells.length := by omega
      refine detP_of Try.func77 rfl (by kernel_rfl) (by simp [Try.f77]) rfl ?_
      intro C hP hN
      simp only [Try.f77] at hN ⊢
      repeat' (first
        | with_reducible refine WP.seq ?_
        | (with_reducible ((first | refine WP.region (hn := []) ?_ | refine WP.cond' ?_); simp -implicitDefEqProofs (maxSteps := 2000000) [hP, hN, h1', h1, h2, h2']))
        | (with_reducible ((first | refine WP.draw (hn := []) (by rw [hP]; kernel_rfl) (by kernel_rfl) ?_); simp -implicitDefEqProofs (maxSteps := 2000000) [hP, hN, h1', h1, h2, h2']; (try refine ⟨by kernel_rfl, ?_⟩)))
        | (with_reducible refine xB_split (by simp [h1', h1, h2, h2']) (fun hgd => ?_) (fun hgd => ?_) <;> first | (exfalso; simp at hgd; done) | (exfalso; simp at hgd; omega) | simp -implicitDefEqProofs (maxSteps := 2000000) [hP, hN, h1', h1, h2, h2'])
        | (with_reducible refine yB_split (by simp [h1', h1, h2, h2']) (fun hgd => ?_) (fun hgd => ?_) <;> first | (exfalso; simp at hgd; done) | (exfalso; simp at hgd; omega) | (simp -implicitDefEqProofs (maxSteps := 2000000) [hP, hN, h1', h1, h2, h2'] <;> (try refine ⟨by kernel_rfl, ?_⟩)))
        | with_reducible refine xTwo_intro ?_ ?_
        | (with_reducible refine xCond_split (fun hcd => ?_) (fun hcd => ?_) <;> (try (exfalso; clear hP hN; simp_all; done)) <;> (try (exfalso; simp at *; omega)))
        | with_reducible refine WP.block ?_
        | (with_reducible ((first | refine WP.skip ?_ | refine WP.exit ?_ | refine WP.ret ?_); simp [h1', h1, h2, h2'])))
    have h2' : ¬ (2048 : Int) < t.cells.length := by omega
    have h3 : rootOk t.root = false := by
      cases h : rootOk t.root with
      | false => rfl
      | true => simp [sizeOk, h] at hs; omega
    rw [h3] at cv
    refine detP_of Try.func77 rfl (by kernel_rfl) (by simp [Try.f77]) rfl ?_
    intro C hP hN
    simp only [Try.f77] at hN ⊢
    repeat' (first
      | with_reducible refine WP.seq ?_
      | (with_reducible ((first | refine WP.region (hn := []) ?_ | refine xC_intro (cv) ?_ | refine WP.cond' ?_); simp -implicitDefEqProofs (maxSteps := 2000000) [hP, hN, h1', h1, h2, h2']))
      | (with_reducible ((first | refine WP.draw (hn := []) (by rw [hP]; kernel_rfl) (by kernel_rfl) ?_ | refine yC_intro (cv) ?_); simp -implicitDefEqProofs (maxSteps := 2000000) [hP, hN, h1', h1, h2, h2']; (try refine ⟨by kernel_rfl, ?_⟩)))
      | (with_reducible refine xB_split (by simp [h1', h1, h2, h2']) (fun hgd => ?_) (fun hgd => ?_) <;> first | (exfalso; simp at hgd; done) | (exfalso; simp at hgd; omega) | simp -implicitDefEqProofs (maxSteps := 2000000) [hP, hN, h1', h1, h2, h2'])
      | (with_reducible refine yB_split (by simp [h1', h1, h2, h2']) (fun hgd => ?_) (fun hgd => ?_) <;> first | (exfalso; simp at hgd; done) | (exfalso; simp at hgd; omega) | (simp -implicitDefEqProofs (maxSteps := 2000000) [hP, hN, h1', h1, h2, h2'] <;> (try refine ⟨by kernel_rfl, ?_⟩)))
      | with_reducible refine xTwo_intro ?_ ?_
      | (with_reducible refine xCond_split (fun hcd => ?_) (fun hcd => ?_) <;> (try (exfalso; clear hP hN; simp_all; done)) <;> (try (exfalso; simp at *; omega)))
      | with_reducible refine WP.block ?_
      | (with_reducible ((first | refine WP.skip ?_ | refine WP.exit ?_ | refine WP.ret ?_); simp [h1', h1, h2, h2'])))
  | true =>
    obtain ⟨z1, z2, z3, z4, z5⟩ := sizeOk_iff.1 hs
    have h1 : ¬ t.cells.length < 1 := by omega
    have h2 : ¬ 2048 < t.cells.length := by omega
    have h1' : ¬ (t.cells.length : Int) < 1 := by omega
    have h2' : ¬ (2048 : Int) < t.cells.length := by omega
    have h3 : rootOk t.root = true := by simp only [sizeOk, Bool.and_eq_true] at hs; exact hs.2
    have hin := init_row z1
    rw [h3] at cv
    refine detP_of Try.func77 rfl (by kernel_rfl) (by simp [Try.f77]) rfl ?_
    intro C hP hN
    simp only [Try.f77] at hN ⊢
    repeat' (first
      | with_reducible refine WP.seq ?_
      | (with_reducible ((first | refine WP.region (hn := []) ?_ | refine xC_intro (cv) ?_ | refine WP.cond' ?_); simp -implicitDefEqProofs (maxSteps := 2000000) [hP, hN, h1', h1, h2, h2', hin, show (24 : Int) * t.cells.length ≤ 281474976710656 by omega, show (t.cells.length : Int) ≤ 9223372036854775807 by omega, show 0 < t.cells.length by omega]))
      | (with_reducible ((first | refine WP.draw (hn := []) (by rw [hP]; kernel_rfl) (by kernel_rfl) ?_ | refine yC_intro (cv) ?_); simp -implicitDefEqProofs (maxSteps := 2000000) [hP, hN, h1', h1, h2, h2', hin, show (24 : Int) * t.cells.length ≤ 281474976710656 by omega, show (t.cells.length : Int) ≤ 9223372036854775807 by omega, show 0 < t.cells.length by omega]; (try refine ⟨by kernel_rfl, ?_⟩)))
      | (with_reducible refine xB_split (by simp [h1', h1, h2, h2', hin, show (24 : Int) * t.cells.length ≤ 281474976710656 by omega, show (t.cells.length : Int) ≤ 9223372036854775807 by omega, show 0 < t.cells.length by omega]) (fun hgd => ?_) (fun hgd => ?_) <;> first | (exfalso; simp at hgd; done) | (exfalso; simp at hgd; omega) | simp -implicitDefEqProofs (maxSteps := 2000000) [hP, hN, h1', h1, h2, h2', hin, show (24 : Int) * t.cells.length ≤ 281474976710656 by omega, show (t.cells.length : Int) ≤ 9223372036854775807 by omega, show 0 < t.cells.length by omega])
      | (with_reducible refine yB_split (by simp [h1', h1, h2, h2', hin, show (24 : Int) * t.cells.length ≤ 281474976710656 by omega, show (t.cells.length : Int) ≤ 9223372036854775807 by omega, show 0 < t.cells.length by omega]) (fun hgd => ?_) (fun hgd => ?_) <;> first | (exfalso; simp at hgd; done) | (exfalso; simp at hgd; omega) | (simp -implicitDefEqProofs (maxSteps := 2000000) [hP, hN, h1', h1, h2, h2', hin, show (24 : Int) * t.cells.length ≤ 281474976710656 by omega, show (t.cells.length : Int) ≤ 9223372036854775807 by omega, show 0 < t.cells.length by omega] <;> (try refine ⟨by kernel_rfl, ?_⟩)))
      | with_reducible refine xTwo_intro ?_ ?_
      | (with_reducible refine xCond_split (fun hcd => ?_) (fun hcd => ?_) <;> (try (exfalso; clear hP hN; simp_all; done)) <;> (try (exfalso; simp at *; omega)))
      | with_reducible refine WP.block ?_
      | (with_reducible ((first | refine WP.skip ?_ | refine WP.exit ?_ | refine WP.ret ?_); simp [h1', h1, h2, h2', hin, show (24 : Int) * t.cells.length ≤ 281474976710656 by omega, show (t.cells.length : Int) ≤ 9223372036854775807 by omega, show 0 < t.cells.length by omega])))
    refine WP.loopN [7] t.cells.length (fun i st => ∃ L, BInv t i L ∧ st.t 4 = .pv (Z t.cells.length) ∧ st.t 5 = .arr 27 t.cells.length ∧ st.t 33 = .pv (.sl (t.cells.map encC)) ∧ st.t 34 = .pv (Z t.cells.length) ∧ st.t 35 = .pv (Z i) ∧ st.h 7 = none ∧ st.h 27 = some (.row 22 1 (L.map encO) 0)) (by exact ⟨bInit t, binv_init hs, by simp [hin]⟩) ?_
    rintro i st hi ⟨L, hB, g4, g5, g33, g34, g35, hb7, hb27⟩
    have hLl := hB.bok.len
    by_cases hlt : i < t.cells.length
    · have hw := wr_succ hlt hl
      have hlL : i < L.length := by omega
      generalize hc : t.cells[i] = c at *
      have hci : t.cells[i]? = some c := by rw [List.getElem?_eq_getElem hlt, hc]
      have bad : bStep t.cells.length i c L = none → validT t = false ∧ boxesL t = [] := fun h => not_valid (binv_none hB hlt (by rw [hc]; exact h))
      have cl := d87 c
      have cf := d97 c.v
      have cz := d147 c.v
      cases hx : L[i]? with
      | none => rw [List.getElem?_eq_getElem hlL] at hx; cases hx
      | some x =>
      cases x with
      | none =>
        have hx' := get_of hx hlL
        obtain ⟨e1, e2⟩ := bad (by simp [bStep, hx])
        rw [e1, e2]
        repeat' (first
          | with_reducible refine WP.seq ?_
          | (with_reducible ((first | refine WP.region (hn := []) ?_ | refine WP.cond' ?_); simp -implicitDefEqProofs (maxSteps := 2000000) [hP, hN, g4, g5, g33, g34, g35, hb7, hb27, hlt, hw, hx, hx', encO_none, encO_some, hci, hc, hLl]))
          | (with_reducible ((first | refine WP.draw (hn := []) (by rw [hP]; kernel_rfl) (by kernel_rfl) ?_); simp -implicitDefEqProofs (maxSteps := 2000000) [hP, hN, g4, g5, g33, g34, g35, hb7, hb27, hlt, hw, hx, hx', encO_none, encO_some, hci, hc, hLl]; (try refine ⟨by kernel_rfl, ?_⟩)))
          | (with_reducible refine xB_split (by simp [g4, g5, g33, g34, g35, hb7, hb27, hlt, hw, hx, hx', encO_none, encO_some, hci, hc, hLl]) (fun hgd => ?_) (fun hgd => ?_) <;> first | (exfalso; simp at hgd; done) | (exfalso; simp at hgd; omega) | simp -implicitDefEqProofs (maxSteps := 2000000) [hP, hN, g4, g5, g33, g34, g35, hb7, hb27, hlt, hw, hx, hx', encO_none, encO_some, hci, hc, hLl])
          | (with_reducible refine yB_split (by simp [g4, g5, g33, g34, g35, hb7, hb27, hlt, hw, hx, hx', encO_none, encO_some, hci, hc, hLl]) (fun hgd => ?_) (fun hgd => ?_) <;> first | (exfalso; simp at hgd; done) | (exfalso; simp at hgd; omega) | (simp -implicitDefEqProofs (maxSteps := 2000000) [hP, hN, g4, g5, g33, g34, g35, hb7, hb27, hlt, hw, hx, hx', encO_none, encO_some, hci, hc, hLl] <;> (try refine ⟨by kernel_rfl, ?_⟩)))
          | with_reducible refine xTwo_intro ?_ ?_
          | (with_reducible refine xCond_split (fun hcd => ?_) (fun hcd => ?_) <;> (try (exfalso; clear hP hN; simp_all; done)) <;> (try (exfalso; simp at *; omega)))
          | with_reducible refine WP.block ?_
          | (with_reducible ((first | refine WP.skip ?_ | refine WP.exit ?_ | refine WP.ret ?_); simp [g4, g5, g33, g34, g35, hb7, hb27, hlt, hw, hx, hx', encO_none, encO_some, hci, hc, hLl])))
      | some b =>
      have hx' := get_of hx hlL
      obtain ⟨hbl, hbv⟩ := hB.bok.ok i b hx
      have hb2 : b ≠ [] := by intro h; rw [h] at hbl; simp at hbl; omega
      have hb1 : b.isEmpty = false := by simp [hb2]
      cases hlf : leafB c with
      | true =>
        rw [hlf] at cl
        cases hf : inFormB c.v with
        | true =>
          rw [hf] at cf
          have hnx := binv_step (L' := L) hB hlt (by rw [hc, step_leaf (t := t) hx hlf, hf]; rfl)
          repeat' (first
            | with_reducible refine WP.seq ?_
            | (with_reducible ((first | refine WP.region (hn := []) ?_ | refine xC_intro (cl) ?_ | refine xC_intro (cf) ?_ | refine WP.cond' ?_); simp -implicitDefEqProofs (maxSteps := 2000000) [hP, hN, g4, g5, g33, g34, g35, hb7, hb27, hlt, hw, hx, hx', encO_none, encO_some, hci, hc, hLl, hb1, hb2]))
            | (with_reducible ((first | refine WP.draw (hn := []) (by rw [hP]; kernel_rfl) (by kernel_rfl) ?_ | refine yC_intro (cl) ?_ | refine yC_intro (cf) ?_); simp -implicitDefEqProofs (maxSteps := 2000000) [hP, hN, g4, g5, g33, g34, g35, hb7, hb27, hlt, hw, hx, hx', encO_none, encO_some, hci, hc, hLl, hb1, hb2]; (try refine ⟨by kernel_rfl, ?_⟩)))
            | (with_reducible refine xB_split (by simp [g4, g5, g33, g34, g35, hb7, hb27, hlt, hw, hx, hx', encO_none, encO_some, hci, hc, hLl, hb1, hb2]) (fun hgd => ?_) (fun hgd => ?_) <;> first | (exfalso; simp at hgd; done) | (exfalso; simp at hgd; omega) | simp -implicitDefEqProofs (maxSteps := 2000000) [hP, hN, g4, g5, g33, g34, g35, hb7, hb27, hlt, hw, hx, hx', encO_none, encO_some, hci, hc, hLl, hb1, hb2])
            | (with_reducible refine yB_split (by simp [g4, g5, g33, g34, g35, hb7, hb27, hlt, hw, hx, hx', encO_none, encO_some, hci, hc, hLl, hb1, hb2]) (fun hgd => ?_) (fun hgd => ?_) <;> first | (exfalso; simp at hgd; done) | (exfalso; simp at hgd; omega) | (simp -implicitDefEqProofs (maxSteps := 2000000) [hP, hN, g4, g5, g33, g34, g35, hb7, hb27, hlt, hw, hx, hx', encO_none, encO_some, hci, hc, hLl, hb1, hb2] <;> (try refine ⟨by kernel_rfl, ?_⟩)))
            | with_reducible refine xTwo_intro ?_ ?_
            | (with_reducible refine xCond_split (fun hcd => ?_) (fun hcd => ?_) <;> (try (exfalso; clear hP hN; simp_all; done)) <;> (try (exfalso; simp at *; omega)))
            | with_reducible refine WP.block ?_
            | (with_reducible ((first | refine WP.skip ?_ | refine WP.exit ?_ | refine WP.ret ?_); simp [g4, g5, g33, g34, g35, hb7, hb27, hlt, hw, hx, hx', encO_none, encO_some, hci, hc, hLl, hb1, hb2])))
          all_goals exact ⟨L, hnx, rfl⟩
        | false =>
          rw [hf] at cf
          obtain ⟨e1, e2⟩ := bad (by rw [step_leaf (t := t) hx hlf, hf]; rfl)
          rw [e1, e2]
          repeat' (first
            | with_reducible refine WP.seq ?_
            | (with_reducible ((first | refine WP.region (hn := []) ?_ | refine xC_intro (cl) ?_ | refine xC_intro (cf) ?_ | refine WP.cond' ?_); simp -implicitDefEqProofs (maxSteps := 2000000) [hP, hN, g4, g5, g33, g34, g35, hb7, hb27, hlt, hw, hx, hx', encO_none, encO_some, hci, hc, hLl, hb1, hb2]))
            | (with_reducible ((first | refine WP.draw (hn := []) (by rw [hP]; kernel_rfl) (by kernel_rfl) ?_ | refine yC_intro (cl) ?_ | refine yC_intro (cf) ?_); simp -implicitDefEqProofs (maxSteps := 2000000) [hP, hN, g4, g5, g33, g34, g35, hb7, hb27, hlt, hw, hx, hx', encO_none, encO_some, hci, hc, hLl, hb1, hb2]; (try refine ⟨by kernel_rfl, ?_⟩)))
            | (with_reducible refine xB_split (by simp [g4, g5, g33, g34, g35, hb7, hb27, hlt, hw, hx, hx', encO_none, encO_some, hci, hc, hLl, hb1, hb2]) (fun hgd => ?_) (fun hgd => ?_) <;> first | (exfalso; simp at hgd; done) | (exfalso; simp at hgd; omega) | simp -implicitDefEqProofs (maxSteps := 2000000) [hP, hN, g4, g5, g33, g34, g35, hb7, hb27, hlt, hw, hx, hx', encO_none, encO_some, hci, hc, hLl, hb1, hb2])
            | (with_reducible refine yB_split (by simp [g4, g5, g33, g34, g35, hb7, hb27, hlt, hw, hx, hx', encO_none, encO_some, hci, hc, hLl, hb1, hb2]) (fun hgd => ?_) (fun hgd => ?_) <;> first | (exfalso; simp at hgd; done) | (exfalso; simp at hgd; omega) | (simp -implicitDefEqProofs (maxSteps := 2000000) [hP, hN, g4, g5, g33, g34, g35, hb7, hb27, hlt, hw, hx, hx', encO_none, encO_some, hci, hc, hLl, hb1, hb2] <;> (try refine ⟨by kernel_rfl, ?_⟩)))
            | with_reducible refine xTwo_intro ?_ ?_
            | (with_reducible refine xCond_split (fun hcd => ?_) (fun hcd => ?_) <;> (try (exfalso; clear hP hN; simp_all; done)) <;> (try (exfalso; simp at *; omega)))
            | with_reducible refine WP.block ?_
            | (with_reducible ((first | refine WP.skip ?_ | refine WP.exit ?_ | refine WP.ret ?_); simp [g4, g5, g33, g34, g35, hb7, hb27, hlt, hw, hx, hx', encO_none, encO_some, hci, hc, hLl, hb1, hb2])))
      | false =>
        rw [hlf] at cl
        cases hin' : innerB t.cells.length i c with
        | false =>
          obtain ⟨e1, e2⟩ := bad (step_bad hx hlf (.inl hin'))
          rw [e1, e2]
          rcases inner_false hin' with h | h | h | h | h | h
          all_goals try rw [h] at cz
          all_goals
            repeat' (first
              | with_reducible refine WP.seq ?_
              | (with_reducible ((first | refine WP.region (hn := []) ?_ | refine xC_intro (cl) ?_ | refine xC_intro (cz) ?_ | refine WP.cond' ?_); simp -implicitDefEqProofs (maxSteps := 2000000) [hP, hN, g4, g5, g33, g34, g35, hb7, hb27, hlt, hw, hx, hx', encO_none, encO_some, hci, hc, hLl, hb1, hb2, h]))
              | (with_reducible ((first | refine WP.draw (hn := []) (by rw [hP]; kernel_rfl) (by kernel_rfl) ?_ | refine yC_intro (cl) ?_ | refine yC_intro (cz) ?_); simp -implicitDefEqProofs (maxSteps := 2000000) [hP, hN, g4, g5, g33, g34, g35, hb7, hb27, hlt, hw, hx, hx', encO_none, encO_some, hci, hc, hLl, hb1, hb2, h]; (try refine ⟨by kernel_rfl, ?_⟩)))
              | (with_reducible refine xB_split (by simp [g4, g5, g33, g34, g35, hb7, hb27, hlt, hw, hx, hx', encO_none, encO_some, hci, hc, hLl, hb1, hb2, h]) (fun hgd => ?_) (fun hgd => ?_) <;> first | (exfalso; simp at hgd; done) | (exfalso; simp at hgd; omega) | simp -implicitDefEqProofs (maxSteps := 2000000) [hP, hN, g4, g5, g33, g34, g35, hb7, hb27, hlt, hw, hx, hx', encO_none, encO_some, hci, hc, hLl, hb1, hb2, h])
              | (with_reducible refine yB_split (by simp [g4, g5, g33, g34, g35, hb7, hb27, hlt, hw, hx, hx', encO_none, encO_some, hci, hc, hLl, hb1, hb2, h]) (fun hgd => ?_) (fun hgd => ?_) <;> first | (exfalso; simp at hgd; done) | (exfalso; simp at hgd; omega) | (simp -implicitDefEqProofs (maxSteps := 2000000) [hP, hN, g4, g5, g33, g34, g35, hb7, hb27, hlt, hw, hx, hx', encO_none, encO_some, hci, hc, hLl, hb1, hb2, h] <;> (try refine ⟨by kernel_rfl, ?_⟩)))
              | with_reducible refine xTwo_intro ?_ ?_
              | (with_reducible refine xCond_split (fun hcd => ?_) (fun hcd => ?_) <;> (try (exfalso; clear hP hN; simp_all; done)) <;> (try (exfalso; simp at *; omega)))
              | with_reducible refine WP.block ?_
              | (with_reducible ((first | refine WP.skip ?_ | refine WP.exit ?_ | refine WP.ret ?_); simp [g4, g5, g33, g34, g35, hb7, hb27, hlt, hw, hx, hx', encO_none, encO_some, hci, hc, hLl, hb1, hb2, h])))
        | true =>
          obtain ⟨i1, i2, i3, i4, i5, i6⟩ := innerB_iff.1 hin'
          rw [i6] at cz
          have ch := d93 b c.joint (by omega)
          have j1 : ¬ c.low ≤ i := by omega
          have j2 : ¬ (t.cells.length : Int) ≤ c.low := by omega
          have j3 : ¬ c.high ≤ i := by omega
          have j4 : ¬ (t.cells.length : Int) ≤ c.high := by omega
          have k1 : c.low.toNat < t.cells.length := by omega
          have k2 : c.high.toNat < t.cells.length := by omega
          have k3 : 0 ≤ c.low := by omega
          have k4 : 0 ≤ c.high := by omega
          have k5 : c.low.toNat < L.length := by omega
          have k6 : c.high.toNat < L.length := by omega
          cases hh : halveOk b c.joint with
          | false =>
            obtain ⟨e1, e2⟩ := bad (step_bad hx hlf (.inr (.inl hh)))
            rw [e1, e2]
            rw [hh] at ch
            repeat' (first
              | with_reducible refine WP.seq ?_
              | (with_reducible ((first | refine WP.region (hn := []) ?_ | refine xC_intro (cl) ?_ | refine xC_intro (cz) ?_ | refine xC_intro (ch) ?_ | refine WP.cond' ?_); simp -implicitDefEqProofs (maxSteps := 2000000) [hP, hN, g4, g5, g33, g34, g35, hb7, hb27, hlt, hw, hx, hx', encO_none, encO_some, hci, hc, hLl, hb1, hb2, j1, j2, j3, j4, i5]))
              | (with_reducible ((first | refine WP.draw (hn := []) (by rw [hP]; kernel_rfl) (by kernel_rfl) ?_ | refine yC_intro (cl) ?_ | refine yC_intro (cz) ?_ | refine yC_intro (ch) ?_); simp -implicitDefEqProofs (maxSteps := 2000000) [hP, hN, g4, g5, g33, g34, g35, hb7, hb27, hlt, hw, hx, hx', encO_none, encO_some, hci, hc, hLl, hb1, hb2, j1, j2, j3, j4, i5]; (try refine ⟨by kernel_rfl, ?_⟩)))
              | (with_reducible refine xB_split (by simp [g4, g5, g33, g34, g35, hb7, hb27, hlt, hw, hx, hx', encO_none, encO_some, hci, hc, hLl, hb1, hb2, j1, j2, j3, j4, i5]) (fun hgd => ?_) (fun hgd => ?_) <;> first | (exfalso; simp at hgd; done) | (exfalso; simp at hgd; omega) | simp -implicitDefEqProofs (maxSteps := 2000000) [hP, hN, g4, g5, g33, g34, g35, hb7, hb27, hlt, hw, hx, hx', encO_none, encO_some, hci, hc, hLl, hb1, hb2, j1, j2, j3, j4, i5])
              | (with_reducible refine yB_split (by simp [g4, g5, g33, g34, g35, hb7, hb27, hlt, hw, hx, hx', encO_none, encO_some, hci, hc, hLl, hb1, hb2, j1, j2, j3, j4, i5]) (fun hgd => ?_) (fun hgd => ?_) <;> first | (exfalso; simp at hgd; done) | (exfalso; simp at hgd; omega) | (simp -implicitDefEqProofs (maxSteps := 2000000) [hP, hN, g4, g5, g33, g34, g35, hb7, hb27, hlt, hw, hx, hx', encO_none, encO_some, hci, hc, hLl, hb1, hb2, j1, j2, j3, j4, i5] <;> (try refine ⟨by kernel_rfl, ?_⟩)))
              | with_reducible refine xTwo_intro ?_ ?_
              | (with_reducible refine xCond_split (fun hcd => ?_) (fun hcd => ?_) <;> (try (exfalso; clear hP hN; simp_all; done)) <;> (try (exfalso; simp at *; omega)))
              | with_reducible refine WP.block ?_
              | (with_reducible ((first | refine WP.skip ?_ | refine WP.exit ?_ | refine WP.ret ?_); simp [g4, g5, g33, g34, g35, hb7, hb27, hlt, hw, hx, hx', encO_none, encO_some, hci, hc, hLl, hb1, hb2, j1, j2, j3, j4, i5])))
          | true =>
          rw [hh] at ch
          cases ha : L[c.low.toNat]? with
          | none => rw [List.getElem?_eq_getElem k5] at ha; cases ha
          | some xa =>
          have ha' := get_of ha k5
          cases xa with
          | some d =>
            obtain ⟨e1, e2⟩ := bad (step_bad hx hlf (.inr (.inr (.inl ⟨d, ha⟩))))
            rw [e1, e2]
            obtain ⟨hdl, _⟩ := hB.bok.ok _ d ha
            have hd2 : d ≠ [] := by intro h; rw [h] at hdl; simp at hdl; omega
            have hd1 : d.isEmpty = false := by simp [hd2]
            repeat' (first
              | with_reducible refine WP.seq ?_
              | (with_reducible ((first | refine WP.region (hn := []) ?_ | refine xC_intro (cl) ?_ | refine xC_intro (cz) ?_ | refine xC_intro (ch) ?_ | refine WP.cond' ?_); simp -implicitDefEqProofs (maxSteps := 2000000) [hP, hN, g4, g5, g33, g34, g35, hb7, hb27, hlt, hw, hx, hx', encO_none, encO_some, hci, hc, hLl, hb1, hb2, j1, j2, j3, j4, i5, k1, k2, k3, k4, ha, ha', hd1, hd2]))
              | (with_reducible ((first | refine WP.draw (hn := []) (by rw [hP]; kernel_rfl) (by kernel_rfl) ?_ | refine yC_intro (cl) ?_ | refine yC_intro (cz) ?_ | refine yC_intro (ch) ?_); simp -implicitDefEqProofs (maxSteps := 2000000) [hP, hN, g4, g5, g33, g34, g35, hb7, hb27, hlt, hw, hx, hx', encO_none, encO_some, hci, hc, hLl, hb1, hb2, j1, j2, j3, j4, i5, k1, k2, k3, k4, ha, ha', hd1, hd2]; (try refine ⟨by kernel_rfl, ?_⟩)))
              | (with_reducible refine xB_split (by simp [g4, g5, g33, g34, g35, hb7, hb27, hlt, hw, hx, hx', encO_none, encO_some, hci, hc, hLl, hb1, hb2, j1, j2, j3, j4, i5, k1, k2, k3, k4, ha, ha', hd1, hd2]) (fun hgd => ?_) (fun hgd => ?_) <;> first | (exfalso; simp at hgd; done) | (exfalso; simp at hgd; omega) | simp -implicitDefEqProofs (maxSteps := 2000000) [hP, hN, g4, g5, g33, g34, g35, hb7, hb27, hlt, hw, hx, hx', encO_none, encO_some, hci, hc, hLl, hb1, hb2, j1, j2, j3, j4, i5, k1, k2, k3, k4, ha, ha', hd1, hd2])
              | (with_reducible refine yB_split (by simp [g4, g5, g33, g34, g35, hb7, hb27, hlt, hw, hx, hx', encO_none, encO_some, hci, hc, hLl, hb1, hb2, j1, j2, j3, j4, i5, k1, k2, k3, k4, ha, ha', hd1, hd2]) (fun hgd => ?_) (fun hgd => ?_) <;> first | (exfalso; simp at hgd; done) | (exfalso; simp at hgd; omega) | (simp -implicitDefEqProofs (maxSteps := 2000000) [hP, hN, g4, g5, g33, g34, g35, hb7, hb27, hlt, hw, hx, hx', encO_none, encO_some, hci, hc, hLl, hb1, hb2, j1, j2, j3, j4, i5, k1, k2, k3, k4, ha, ha', hd1, hd2] <;> (try refine ⟨by kernel_rfl, ?_⟩)))
              | with_reducible refine xTwo_intro ?_ ?_
              | (with_reducible refine xCond_split (fun hcd => ?_) (fun hcd => ?_) <;> (try (exfalso; clear hP hN; simp_all; done)) <;> (try (exfalso; simp at *; omega)))
              | with_reducible refine WP.block ?_
              | (with_reducible ((first | refine WP.skip ?_ | refine WP.exit ?_ | refine WP.ret ?_); simp [g4, g5, g33, g34, g35, hb7, hb27, hlt, hw, hx, hx', encO_none, encO_some, hci, hc, hLl, hb1, hb2, j1, j2, j3, j4, i5, k1, k2, k3, k4, ha, ha', hd1, hd2])))
          | none =>
          cases hz : L[c.high.toNat]? with
          | none => rw [List.getElem?_eq_getElem k6] at hz; cases hz
          | some xz =>
          have hz' := get_of hz k6
          cases xz with
          | some d =>
            obtain ⟨e1, e2⟩ := bad (step_bad hx hlf (.inr (.inr (.inr ⟨d, hz⟩))))
            rw [e1, e2]
            obtain ⟨hdl, _⟩ := hB.bok.ok _ d hz
            have hd2 : d ≠ [] := by intro h; rw [h] at hdl; simp at hdl; omega
            have hd1 : d.isEmpty = false := by simp [hd2]
            repeat' (first
              | with_reducible refine WP.seq ?_
              | (with_reducible ((first | refine WP.region (hn := []) ?_ | refine xC_intro (cl) ?_ | refine xC_intro (cz) ?_ | refine xC_intro (ch) ?_ | refine WP.cond' ?_); simp -implicitDefEqProofs (maxSteps := 2000000) [hP, hN, g4, g5, g33, g34, g35, hb7, hb27, hlt, hw, hx, hx', encO_none, encO_some, hci, hc, hLl, hb1, hb2, j1, j2, j3, j4, i5, k1, k2, k3, k4, ha, ha', hz, hz', hd1, hd2]))
              | (with_reducible ((first | refine WP.draw (hn := []) (by rw [hP]; kernel_rfl) (by kernel_rfl) ?_ | refine yC_intro (cl) ?_ | refine yC_intro (cz) ?_ | refine yC_intro (ch) ?_); simp -implicitDefEqProofs (maxSteps := 2000000) [hP, hN, g4, g5, g33, g34, g35, hb7, hb27, hlt, hw, hx, hx', encO_none, encO_some, hci, hc, hLl, hb1, hb2, j1, j2, j3, j4, i5, k1, k2, k3, k4, ha, ha', hz, hz', hd1, hd2]; (try refine ⟨by kernel_rfl, ?_⟩)))
              | (with_reducible refine xB_split (by simp [g4, g5, g33, g34, g35, hb7, hb27, hlt, hw, hx, hx', encO_none, encO_some, hci, hc, hLl, hb1, hb2, j1, j2, j3, j4, i5, k1, k2, k3, k4, ha, ha', hz, hz', hd1, hd2]) (fun hgd => ?_) (fun hgd => ?_) <;> first | (exfalso; simp at hgd; done) | (exfalso; simp at hgd; omega) | simp -implicitDefEqProofs (maxSteps := 2000000) [hP, hN, g4, g5, g33, g34, g35, hb7, hb27, hlt, hw, hx, hx', encO_none, encO_some, hci, hc, hLl, hb1, hb2, j1, j2, j3, j4, i5, k1, k2, k3, k4, ha, ha', hz, hz', hd1, hd2])
              | (with_reducible refine yB_split (by simp [g4, g5, g33, g34, g35, hb7, hb27, hlt, hw, hx, hx', encO_none, encO_some, hci, hc, hLl, hb1, hb2, j1, j2, j3, j4, i5, k1, k2, k3, k4, ha, ha', hz, hz', hd1, hd2]) (fun hgd => ?_) (fun hgd => ?_) <;> first | (exfalso; simp at hgd; done) | (exfalso; simp at hgd; omega) | (simp -implicitDefEqProofs (maxSteps := 2000000) [hP, hN, g4, g5, g33, g34, g35, hb7, hb27, hlt, hw, hx, hx', encO_none, encO_some, hci, hc, hLl, hb1, hb2, j1, j2, j3, j4, i5, k1, k2, k3, k4, ha, ha', hz, hz', hd1, hd2] <;> (try refine ⟨by kernel_rfl, ?_⟩)))
              | with_reducible refine xTwo_intro ?_ ?_
              | (with_reducible refine xCond_split (fun hcd => ?_) (fun hcd => ?_) <;> (try (exfalso; clear hP hN; simp_all; done)) <;> (try (exfalso; simp at *; omega)))
              | with_reducible refine WP.block ?_
              | (with_reducible ((first | refine WP.skip ?_ | refine WP.exit ?_ | refine WP.ret ?_); simp [g4, g5, g33, g34, g35, hb7, hb27, hlt, hw, hx, hx', encO_none, encO_some, hci, hc, hLl, hb1, hb2, j1, j2, j3, j4, i5, k1, k2, k3, k4, ha, ha', hz, hz', hd1, hd2])))
          | none =>
            have hnx := binv_step hB hlt (by rw [hc]; exact step_inner hx hlf hin' hh ha hz)
            repeat' (first
              | with_reducible refine WP.seq ?_
              | (with_reducible ((first | refine WP.region (hn := []) ?_ | refine xC_intro (cl) ?_ | refine xC_intro (cz) ?_ | refine xC_intro (ch) ?_ | refine WP.cond' ?_); simp -implicitDefEqProofs (maxSteps := 2000000) [hP, hN, g4, g5, g33, g34, g35, hb7, hb27, hlt, hw, hx, hx', encO_none, encO_some, hci, hc, hLl, hb1, hb2, j1, j2, j3, j4, i5, k1, k2, k3, k4, ha, ha', hz, hz']))
              | (with_reducible ((first | refine WP.draw (hn := []) (by rw [hP]; kernel_rfl) (by kernel_rfl) ?_ | refine yC_intro (cl) ?_ | refine yC_intro (cz) ?_ | refine yC_intro (ch) ?_); simp -implicitDefEqProofs (maxSteps := 2000000) [hP, hN, g4, g5, g33, g34, g35, hb7, hb27, hlt, hw, hx, hx', encO_none, encO_some, hci, hc, hLl, hb1, hb2, j1, j2, j3, j4, i5, k1, k2, k3, k4, ha, ha', hz, hz']; (try refine ⟨by kernel_rfl, ?_⟩)))
              | (with_reducible refine xB_split (by simp [g4, g5, g33, g34, g35, hb7, hb27, hlt, hw, hx, hx', encO_none, encO_some, hci, hc, hLl, hb1, hb2, j1, j2, j3, j4, i5, k1, k2, k3, k4, ha, ha', hz, hz']) (fun hgd => ?_) (fun hgd => ?_) <;> first | (exfalso; simp at hgd; done) | (exfalso; simp at hgd; omega) | simp -implicitDefEqProofs (maxSteps := 2000000) [hP, hN, g4, g5, g33, g34, g35, hb7, hb27, hlt, hw, hx, hx', encO_none, encO_some, hci, hc, hLl, hb1, hb2, j1, j2, j3, j4, i5, k1, k2, k3, k4, ha, ha', hz, hz'])
              | (with_reducible refine yB_split (by simp [g4, g5, g33, g34, g35, hb7, hb27, hlt, hw, hx, hx', encO_none, encO_some, hci, hc, hLl, hb1, hb2, j1, j2, j3, j4, i5, k1, k2, k3, k4, ha, ha', hz, hz']) (fun hgd => ?_) (fun hgd => ?_) <;> first | (exfalso; simp at hgd; done) | (exfalso; simp at hgd; omega) | (simp -implicitDefEqProofs (maxSteps := 2000000) [hP, hN, g4, g5, g33, g34, g35, hb7, hb27, hlt, hw, hx, hx', encO_none, encO_some, hci, hc, hLl, hb1, hb2, j1, j2, j3, j4, i5, k1, k2, k3, k4, ha, ha', hz, hz'] <;> (try refine ⟨by kernel_rfl, ?_⟩)))
              | with_reducible refine xTwo_intro ?_ ?_
              | (with_reducible refine xCond_split (fun hcd => ?_) (fun hcd => ?_) <;> (try (exfalso; clear hP hN; simp_all; done)) <;> (try (exfalso; simp at *; omega)))
              | with_reducible refine WP.block ?_
              | (with_reducible ((first | refine WP.skip ?_ | refine WP.exit ?_ | refine WP.ret ?_); simp [g4, g5, g33, g34, g35, hb7, hb27, hlt, hw, hx, hx', encO_none, encO_some, hci, hc, hLl, hb1, hb2, j1, j2, j3, j4, i5, k1, k2, k3, k4, ha, ha', hz, hz'])))
            all_goals exact ⟨_, hnx, set_row⟩
    · have hdn := binv_done hB hlt
      have hmap := encO_map hdn
      have hval : validT t = true := by simp [validT, hdn]
      rw [hval, ← hmap]
      repeat' (first
        | with_reducible refine WP.seq ?_
        | (with_reducible ((first | refine WP.region (hn := []) ?_ | refine WP.cond' ?_); simp -implicitDefEqProofs (maxSteps := 2000000) [hP, hN, g4, g5, g33, g34, g35, hb7, hb27, hlt, hLl]))
        | (with_reducible ((first | refine WP.draw (hn := []) (by rw [hP]; kernel_rfl) (by kernel_rfl) ?_); simp -implicitDefEqProofs (maxSteps := 2000000) [hP, hN, g4, g5, g33, g34, g35, hb7, hb27, hlt, hLl]; (try refine ⟨by kernel_rfl, ?_⟩)))
        | (with_reducible refine xB_split (by simp [g4, g5, g33, g34, g35, hb7, hb27, hlt, hLl]) (fun hgd => ?_) (fun hgd => ?_) <;> first | (exfalso; simp at hgd; done) | (exfalso; simp at hgd; omega) | simp -implicitDefEqProofs (maxSteps := 2000000) [hP, hN, g4, g5, g33, g34, g35, hb7, hb27, hlt, hLl])
        | (with_reducible refine yB_split (by simp [g4, g5, g33, g34, g35, hb7, hb27, hlt, hLl]) (fun hgd => ?_) (fun hgd => ?_) <;> first | (exfalso; simp at hgd; done) | (exfalso; simp at hgd; omega) | (simp -implicitDefEqProofs (maxSteps := 2000000) [hP, hN, g4, g5, g33, g34, g35, hb7, hb27, hlt, hLl] <;> (try refine ⟨by kernel_rfl, ?_⟩)))
        | with_reducible refine xTwo_intro ?_ ?_
        | (with_reducible refine xCond_split (fun hcd => ?_) (fun hcd => ?_) <;> (try (exfalso; clear hP hN; simp_all; done)) <;> (try (exfalso; simp at *; omega)))
        | with_reducible refine WP.block ?_
        | (with_reducible ((first | refine WP.skip ?_ | refine WP.exit ?_ | refine WP.ret ?_); simp [g4, g5, g33, g34, g35, hb7, hb27, hlt, hLl])))
end Go.Ab
