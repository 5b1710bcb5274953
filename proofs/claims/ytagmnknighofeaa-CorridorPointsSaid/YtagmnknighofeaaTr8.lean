/- Contracts: chains of leaves. -/
import Derived.Test.YtagmnknighofeaaTrF
set_option linter.all false
namespace Go.Ab
open Go.Proofs
set_option maxRecDepth 10000 in
set_option maxHeartbeats 8000000 in
theorem d164 (t : Tr) (hv : validT t = true) : DetH Try.prog 164 [.pv (encT t)] [] [] (.pv (.sl ((boxesL t).map iv))) := by
  have hs := valid_size hv
  obtain ⟨z1, z2, z3, z4, z5⟩ := sizeOk_iff.1 hs
  have hl : t.cells.length ≤ 9223372036854775807 := by omega
  have hin := init_row z1
  refine detP_of Try.func164 rfl (by kernel_rfl) (by simp [Try.f164]) rfl ?_
  intro C hP hN
  simp only [Try.f164] at hN ⊢
  repeat' (first
    | with_reducible refine WP.seq ?_
    | (with_reducible ((first | refine WP.region (hn := []) ?_ | refine WP.cond' ?_); simp -implicitDefEqProofs (maxSteps := 2000000) [hP, hN, hin, show (24 : Int) * t.cells.length ≤ 281474976710656 by omega, show (t.cells.length : Int) ≤ 9223372036854775807 by omega, show 0 < t.cells.length by omega]))
    | (with_reducible ((first | refine WP.draw (hn := []) (by rw [hP]; kernel_rfl) (by kernel_rfl) ?_); simp -implicitDefEqProofs (maxSteps := 2000000) [hP, hN, hin, show (24 : Int) * t.cells.length ≤ 281474976710656 by omega, show (t.cells.length : Int) ≤ 9223372036854775807 by omega, show 0 < t.cells.length by omega]; (try refine ⟨by kernel_rfl, ?_⟩)))
    | (with_reducible refine xB_split (by simp [hin, show (24 : Int) * t.cells.length ≤ 281474976710656 by omega, show (t.cells.length : Int) ≤ 9223372036854775807 by omega, show 0 < t.cells.length by omega]) (fun hgd => ?_) (fun hgd => ?_) <;> first | (exfalso; simp at hgd; done) | (exfalso; simp at hgd; omega) | simp -implicitDefEqProofs (maxSteps := 2000000) [hP, hN, hin, show (24 : Int) * t.cells.length ≤ 281474976710656 by omega, show (t.cells.length : Int) ≤ 9223372036854775807 by omega, show 0 < t.cells.length by omega])
    | (with_reducible refine yB_split (by simp [hin, show (24 : Int) * t.cells.length ≤ 281474976710656 by omega, show (t.cells.length : Int) ≤ 9223372036854775807 by omega, show 0 < t.cells.length by omega]) (fun hgd => ?_) (fun hgd => ?_) <;> first | (exfalso; simp at hgd; done) | (exfalso; simp at hgd; omega) | (simp -implicitDefEqProofs (maxSteps := 2000000) [hP, hN, hin, show (24 : Int) * t.cells.length ≤ 281474976710656 by omega, show (t.cells.length : Int) ≤ 9223372036854775807 by omega, show 0 < t.cells.length by omega] <;> (try refine ⟨by kernel_rfl, ?_⟩)))
    | with_reducible refine xTwo_intro ?_ ?_
    | (with_reducible refine xCond_split (fun hcd => ?_) (fun hcd => ?_) <;> (try (exfalso; clear hP hN; simp_all; done)) <;> (try (exfalso; simp at *; omega)))
    | with_reducible refine WP.block ?_
    | (with_reducible ((first | refine WP.skip ?_ | refine WP.exit ?_ | refine WP.ret ?_); simp [hin, show (24 : Int) * t.cells.length ≤ 281474976710656 by omega, show (t.cells.length : Int) ≤ 9223372036854775807 by omega, show 0 < t.cells.length by omega])))
  refine WP.loopN [5] t.cells.length (fun i st => ∃ L, BInv t i L ∧ st.t 3 = .arr 9 t.cells.length ∧ st.t 15 = .pv (.sl (t.cells.map encC)) ∧ st.t 16 = .pv (Z t.cells.length) ∧ st.t 17 = .pv (Z i) ∧ st.h 5 = none ∧ st.h 9 = some (.row 22 1 (L.map encO) 0)) (by exact ⟨bInit t, binv_init hs, by simp [hin]⟩) ?_
  rintro i st hi ⟨L, hB, g3, g15, g16, g17, hb5, hb9⟩
  have hLl := hB.bok.len
  by_cases hlt : i < t.cells.length
  · have hw := wr_succ hlt hl
    have hlL : i < L.length := by omega
    generalize hc : t.cells[i] = c at *
    have hci : t.cells[i]? = some c := by rw [List.getElem?_eq_getElem hlt, hc]
    cases hst : bStep t.cells.length i c L with
    | none =>
      have := binv_none hB hlt (by rw [hc]; exact hst)
      rw [validT, this] at hv; cases hv
    | some L' =>
      have hnx := binv_step hB hlt (by rw [hc]; exact hst)
      obtain ⟨b, hx, ⟨hlf, _, rfl⟩ | ⟨hlf, hi', hh, ha, hz, rfl⟩⟩ := bStep_some hst
      · have hlo : (c.low != -1) = false := by simp [leafB] at hlf; simp [hlf]
        repeat' (first
          | with_reducible refine WP.seq ?_
          | (with_reducible ((first | refine WP.region (hn := []) ?_ | refine WP.cond' ?_); simp -implicitDefEqProofs (maxSteps := 2000000) [hP, hN, g3, g15, g16, g17, hb5, hb9, hlt, hw, hci, hc, hLl, hlo]))
          | (with_reducible ((first | refine WP.draw (hn := []) (by rw [hP]; kernel_rfl) (by kernel_rfl) ?_); simp -implicitDefEqProofs (maxSteps := 2000000) [hP, hN, g3, g15, g16, g17, hb5, hb9, hlt, hw, hci, hc, hLl, hlo]; (try refine ⟨by kernel_rfl, ?_⟩)))
          | (with_reducible refine xB_split (by simp [g3, g15, g16, g17, hb5, hb9, hlt, hw, hci, hc, hLl, hlo]) (fun hgd => ?_) (fun hgd => ?_) <;> first | (exfalso; simp at hgd; done) | (exfalso; simp at hgd; omega) | simp -implicitDefEqProofs (maxSteps := 2000000) [hP, hN, g3, g15, g16, g17, hb5, hb9, hlt, hw, hci, hc, hLl, hlo])
          | (with_reducible refine yB_split (by simp [g3, g15, g16, g17, hb5, hb9, hlt, hw, hci, hc, hLl, hlo]) (fun hgd => ?_) (fun hgd => ?_) <;> first | (exfalso; simp at hgd; done) | (exfalso; simp at hgd; omega) | (simp -implicitDefEqProofs (maxSteps := 2000000) [hP, hN, g3, g15, g16, g17, hb5, hb9, hlt, hw, hci, hc, hLl, hlo] <;> (try refine ⟨by kernel_rfl, ?_⟩)))
          | with_reducible refine xTwo_intro ?_ ?_
          | (with_reducible refine xCond_split (fun hcd => ?_) (fun hcd => ?_) <;> (try (exfalso; clear hP hN; simp_all; done)) <;> (try (exfalso; simp at *; omega)))
          | with_reducible refine WP.block ?_
          | (with_reducible ((first | refine WP.skip ?_ | refine WP.exit ?_ | refine WP.ret ?_); simp [g3, g15, g16, g17, hb5, hb9, hlt, hw, hci, hc, hLl, hlo])))
        all_goals exact ⟨L', hnx, rfl⟩
      · have hx' := get_of hx hlL
        obtain ⟨i1, i2, i3, i4, i5, i6⟩ := innerB_iff.1 hi'
        have hlo : (c.low != -1) = true := by simp; omega
        obtain ⟨hbl, hbv⟩ := hB.bok.ok i b hx
        have ch := d93 b c.joint (by omega)
        have k1 : c.low.toNat < t.cells.length := by omega
        have k2 : c.high.toNat < t.cells.length := by omega
        have k3 : 0 ≤ c.low := by omega
        have k4 : 0 ≤ c.high := by omega
        repeat' (first
          | with_reducible refine WP.seq ?_
          | (with_reducible ((first | refine WP.region (hn := []) ?_ | refine xC_intro (ch) ?_ | refine WP.cond' ?_); simp -implicitDefEqProofs (maxSteps := 2000000) [hP, hN, g3, g15, g16, g17, hb5, hb9, hlt, hw, hx, hx', encO_none, encO_some, hci, hc, hLl, hlo, k1, k2, k3, k4]))
          | (with_reducible ((first | refine WP.draw (hn := []) (by rw [hP]; kernel_rfl) (by kernel_rfl) ?_ | refine yC_intro (ch) ?_); simp -implicitDefEqProofs (maxSteps := 2000000) [hP, hN, g3, g15, g16, g17, hb5, hb9, hlt, hw, hx, hx', encO_none, encO_some, hci, hc, hLl, hlo, k1, k2, k3, k4]; (try refine ⟨by kernel_rfl, ?_⟩)))
          | (with_reducible refine xB_split (by simp [g3, g15, g16, g17, hb5, hb9, hlt, hw, hx, hx', encO_none, encO_some, hci, hc, hLl, hlo, k1, k2, k3, k4]) (fun hgd => ?_) (fun hgd => ?_) <;> first | (exfalso; simp at hgd; done) | (exfalso; simp at hgd; omega) | simp -implicitDefEqProofs (maxSteps := 2000000) [hP, hN, g3, g15, g16, g17, hb5, hb9, hlt, hw, hx, hx', encO_none, encO_some, hci, hc, hLl, hlo, k1, k2, k3, k4])
          | (with_reducible refine yB_split (by simp [g3, g15, g16, g17, hb5, hb9, hlt, hw, hx, hx', encO_none, encO_some, hci, hc, hLl, hlo, k1, k2, k3, k4]) (fun hgd => ?_) (fun hgd => ?_) <;> first | (exfalso; simp at hgd; done) | (exfalso; simp at hgd; omega) | (simp -implicitDefEqProofs (maxSteps := 2000000) [hP, hN, g3, g15, g16, g17, hb5, hb9, hlt, hw, hx, hx', encO_none, encO_some, hci, hc, hLl, hlo, k1, k2, k3, k4] <;> (try refine ⟨by kernel_rfl, ?_⟩)))
          | with_reducible refine xTwo_intro ?_ ?_
          | (with_reducible refine xCond_split (fun hcd => ?_) (fun hcd => ?_) <;> (try (exfalso; clear hP hN; simp_all; done)) <;> (try (exfalso; simp at *; omega)))
          | with_reducible refine WP.block ?_
          | (with_reducible ((first | refine WP.skip ?_ | refine WP.exit ?_ | refine WP.ret ?_); simp [g3, g15, g16, g17, hb5, hb9, hlt, hw, hx, hx', encO_none, encO_some, hci, hc, hLl, hlo, k1, k2, k3, k4])))
        all_goals exact ⟨_, hnx, set_row⟩
  · have hdn := binv_done hB hlt
    have hmap := encO_map hdn
    rw [← hmap]
    repeat' (first
      | with_reducible refine WP.seq ?_
      | (with_reducible ((first | refine WP.region (hn := []) ?_ | refine WP.cond' ?_); simp -implicitDefEqProofs (maxSteps := 2000000) [hP, hN, g3, g15, g16, g17, hb5, hb9, hlt, hLl]))
      | (with_reducible ((first | refine WP.draw (hn := []) (by rw [hP]; kernel_rfl) (by kernel_rfl) ?_); simp -implicitDefEqProofs (maxSteps := 2000000) [hP, hN, g3, g15, g16, g17, hb5, hb9, hlt, hLl]; (try refine ⟨by kernel_rfl, ?_⟩)))
      | (with_reducible refine xB_split (by simp [g3, g15, g16, g17, hb5, hb9, hlt, hLl]) (fun hgd => ?_) (fun hgd => ?_) <;> first | (exfalso; simp at hgd; done) | (exfalso; simp at hgd; omega) | simp -implicitDefEqProofs (maxSteps := 2000000) [hP, hN, g3, g15, g16, g17, hb5, hb9, hlt, hLl])
      | (with_reducible refine yB_split (by simp [g3, g15, g16, g17, hb5, hb9, hlt, hLl]) (fun hgd => ?_) (fun hgd => ?_) <;> first | (exfalso; simp at hgd; done) | (exfalso; simp at hgd; omega) | (simp -implicitDefEqProofs (maxSteps := 2000000) [hP, hN, g3, g15, g16, g17, hb5, hb9, hlt, hLl] <;> (try refine ⟨by kernel_rfl, ?_⟩)))
      | with_reducible refine xTwo_intro ?_ ?_
      | (with_reducible refine xCond_split (fun hcd => ?_) (fun hcd => ?_) <;> (try (exfalso; clear hP hN; simp_all; done)) <;> (try (exfalso; simp at *; omega)))
      | with_reducible refine WP.block ?_
      | (with_reducible ((first | refine WP.skip ?_ | refine WP.exit ?_ | refine WP.ret ?_); simp [g3, g15, g16, g17, hb5, hb9, hlt, hLl])))
abbrev ivA (t : Tr) (c : Int) : PV := iv (boxAt t c)
def chBoxes (t : Tr) (chain p q : List Int) : List Bx := if chPre t chain p q then chain.map (boxAt t) else []
theorem ch_no {t : Tr} {chain p q : List Int} (h : chPre t chain p q = false) : chBoxes t chain p q = [] ∧ chainOk t chain p q = false ∧ ptsL t chain p q = [] := by
  have : chainOk t chain p q = false := by simp [chainOk, h]
  exact ⟨by simp [chBoxes, h], this, by simp [ptsL, this]⟩
theorem contains_step {chain : List Int} {k m : Nat} {U : List Bool} {n : Nat} (hk : k < chain.length) (hc : chain[k] = (m : Int)) (hm : m < U.length) (hU : ∀ i, i < n → U[i]? = some ((chain.take k).contains (i : Int))) : ∀ i, i < n → (U.set m true)[i]? = some ((chain.take (k + 1)).contains (i : Int)) := by
  intro i hi
  rw [List.take_succ_eq_append_getElem hk, List.contains_eq_mem, List.getElem?_set]
  by_cases e : m = i
  · subst e; simp [hm, hc]
  · rw [if_neg e, hU i hi]
    simp only [List.contains_eq_mem, List.mem_append, List.mem_singleton, hc, Option.some.injEq, decide_eq_decide]
    have : ¬ (i : Int) = (m : Int) := by omega
    simp [this]
set_option maxRecDepth 10000 in
set_option maxHeartbeats 16000000 in
theorem d113 (t : Tr) (chain p q : List Int) (hl : t.cells.length ≤ 9223372036854775807) (hr : t.root.length ≤ 9223372036854775807) (hk : chain.length ≤ 16777216) : DetH Try.prog 113 [.pv (encT t), .pv (zs chain), .pv (zs p), .pv (zs q)] [] [] (.pv (.tup [.sl ((chBoxes t chain p q).map iv), B (chainOk t chain p q)])) := by
  have cv := d24 t hl
  have cp := d86 t.root p hr
  have cq := d86 t.root q hr
  cases hv : validT t with
  | false =>
    obtain ⟨e1, e2, _⟩ := ch_no (t := t) (chain := chain) (p := p) (q := q) (by simp [chPre, hv])
    rw [e1, e2]
    rw [hv] at cv
    refine detP_of Try.func113 rfl (by kernel_rfl) (by simp [Try.f113]) rfl ?_
    intro C hP hN
    simp only [Try.f113] at hN ⊢
    repeat' (first
      | with_reducible refine WP.seq ?_
      | (with_reducible ((first | refine WP.region (hn := []) ?_ | refine xC_intro (cv) ?_ | refine WP.cond' ?_); simp -implicitDefEqProofs (maxSteps := 2000000) [hP, hN]))
      | (with_reducible ((first | refine WP.draw (hn := []) (by rw [hP]; kernel_rfl) (by kernel_rfl) ?_ | refine yC_intro (cv) ?_); simp -implicitDefEqProofs (maxSteps := 2000000) [hP, hN]; (try refine ⟨by kernel_rfl, ?_⟩)))
      | (with_reducible refine xB_split (by simp) (fun hgd => ?_) (fun hgd => ?_) <;> first | (exfalso; simp at hgd; done) | (exfalso; simp at hgd; omega) | simp -implicitDefEqProofs (maxSteps := 2000000) [hP, hN])
      | (with_reducible refine yB_split (by simp) (fun hgd => ?_) (fun hgd => ?_) <;> first | (exfalso; simp at hgd; done) | (exfalso; simp at hgd; omega) | (simp -implicitDefEqProofs (maxSteps := 2000000) [hP, hN] <;> (try refine ⟨by kernel_rfl, ?_⟩)))
      | with_reducible refine xTwo_intro ?_ ?_
      | (with_reducible refine xCond_split (fun hcd => ?_) (fun hcd => ?_) <;> (try (exfalso; clear hP hN; simp_all; done)) <;> (try (exfalso; simp at *; omega)))
      | with_reducible refine WP.block ?_
      | (with_reducible ((first | refine WP.skip ?_ | refine WP.exit ?_ | refine WP.ret ?_); simp)))
  | true =>
  rw [hv] at cv
  cases hp : hasC t.root p with
  | false =>
    obtain ⟨e1, e2, _⟩ := ch_no (t := t) (chain := chain) (p := p) (q := q) (by simp [chPre, hp])
    rw [e1, e2]
    rw [hp] at cp
    refine detP_of Try.func113 rfl (by kernel_rfl) (by simp [Try.f113]) rfl ?_
    intro C hP hN
    simp only [Try.f113] at hN ⊢
    repeat' (first
      | with_reducible refine WP.seq ?_
      | (with_reducible ((first | refine WP.region (hn := []) ?_ | refine xC_intro (cv) ?_ | refine xC_intro (cp) ?_ | refine WP.cond' ?_); simp -implicitDefEqProofs (maxSteps := 2000000) [hP, hN]))
      | (with_reducible ((first | refine WP.draw (hn := []) (by rw [hP]; kernel_rfl) (by kernel_rfl) ?_ | refine yC_intro (cv) ?_ | refine yC_intro (cp) ?_); simp -implicitDefEqProofs (maxSteps := 2000000) [hP, hN]; (try refine ⟨by kernel_rfl, ?_⟩)))
      | (with_reducible refine xB_split (by simp) (fun hgd => ?_) (fun hgd => ?_) <;> first | (exfalso; simp at hgd; done) | (exfalso; simp at hgd; omega) | simp -implicitDefEqProofs (maxSteps := 2000000) [hP, hN])
      | (with_reducible refine yB_split (by simp) (fun hgd => ?_) (fun hgd => ?_) <;> first | (exfalso; simp at hgd; done) | (exfalso; simp at hgd; omega) | (simp -implicitDefEqProofs (maxSteps := 2000000) [hP, hN] <;> (try refine ⟨by kernel_rfl, ?_⟩)))
      | with_reducible refine xTwo_intro ?_ ?_
      | (with_reducible refine xCond_split (fun hcd => ?_) (fun hcd => ?_) <;> (try (exfalso; clear hP hN; simp_all; done)) <;> (try (exfalso; simp at *; omega)))
      | with_reducible refine WP.block ?_
      | (with_reducible ((first | refine WP.skip ?_ | refine WP.exit ?_ | refine WP.ret ?_); simp)))
  | true =>
  rw [hp] at cp
  cases hq : hasC t.root q with
  | false =>
    obtain ⟨e1, e2, _⟩ := ch_no (t := t) (chain := chain) (p := p) (q := q) (by simp [chPre, hq])
    rw [e1, e2]
    rw [hq] at cq
    refine detP_of Try.func113 rfl (by kernel_rfl) (by simp [Try.f113]) rfl ?_
    intro C hP hN
    simp only [Try.f113] at hN ⊢
    repeat' (first
      | with_reducible refine WP.seq ?_
      | (with_reducible ((first | refine WP.region (hn := []) ?_ | refine xC_intro (cv) ?_ | refine xC_intro (cp) ?_ | refine xC_intro (cq) ?_ | refine WP.cond' ?_); simp -implicitDefEqProofs (maxSteps := 2000000) [hP, hN]))
      | (with_reducible ((first | refine WP.draw (hn := []) (by rw [hP]; kernel_rfl) (by kernel_rfl) ?_ | refine yC_intro (cv) ?_ | refine yC_intro (cp) ?_ | refine yC_intro (cq) ?_); simp -implicitDefEqProofs (maxSteps := 2000000) [hP, hN]; (try refine ⟨by kernel_rfl, ?_⟩)))
      | (with_reducible refine xB_split (by simp) (fun hgd => ?_) (fun hgd => ?_) <;> first | (exfalso; simp at hgd; done) | (exfalso; simp at hgd; omega) | simp -implicitDefEqProofs (maxSteps := 2000000) [hP, hN])
      | (with_reducible refine yB_split (by simp) (fun hgd => ?_) (fun hgd => ?_) <;> first | (exfalso; simp at hgd; done) | (exfalso; simp at hgd; omega) | (simp -implicitDefEqProofs (maxSteps := 2000000) [hP, hN] <;> (try refine ⟨by kernel_rfl, ?_⟩)))
      | with_reducible refine xTwo_intro ?_ ?_
      | (with_reducible refine xCond_split (fun hcd => ?_) (fun hcd => ?_) <;> (try (exfalso; clear hP hN; simp_all; done)) <;> (try (exfalso; simp at *; omega)))
      | with_reducible refine WP.block ?_
      | (with_reducible ((first | refine WP.skip ?_ | refine WP.exit ?_ | refine WP.ret ?_); simp)))
  | true =>
  rw [hq] at cq
  by_cases hne : chain = []
  · obtain ⟨e1, e2, _⟩ := ch_no (t := t) (chain := chain) (p := p) (q := q) (by simp [chPre, hne])
    rw [e1, e2]
    subst hne
    refine detP_of Try.func113 rfl (by kernel_rfl) (by simp [Try.f113]) rfl ?_
    intro C hP hN
    simp only [Try.f113] at hN ⊢
    repeat' (first
      | with_reducible refine WP.seq ?_
      | (with_reducible ((first | refine WP.region (hn := []) ?_ | refine xC_intro (cv) ?_ | refine xC_intro (cp) ?_ | refine xC_intro (cq) ?_ | refine WP.cond' ?_); simp -implicitDefEqProofs (maxSteps := 2000000) [hP, hN]))
      | (with_reducible ((first | refine WP.draw (hn := []) (by rw [hP]; kernel_rfl) (by kernel_rfl) ?_ | refine yC_intro (cv) ?_ | refine yC_intro (cp) ?_ | refine yC_intro (cq) ?_); simp -implicitDefEqProofs (maxSteps := 2000000) [hP, hN]; (try refine ⟨by kernel_rfl, ?_⟩)))
      | (with_reducible refine xB_split (by simp) (fun hgd => ?_) (fun hgd => ?_) <;> first | (exfalso; simp at hgd; done) | (exfalso; simp at hgd; omega) | simp -implicitDefEqProofs (maxSteps := 2000000) [hP, hN])
      | (with_reducible refine yB_split (by simp) (fun hgd => ?_) (fun hgd => ?_) <;> first | (exfalso; simp at hgd; done) | (exfalso; simp at hgd; omega) | (simp -implicitDefEqProofs (maxSteps := 2000000) [hP, hN] <;> (try refine ⟨by kernel_rfl, ?_⟩)))
      | with_reducible refine xTwo_intro ?_ ?_
      | (with_reducible refine xCond_split (fun hcd => ?_) (fun hcd => ?_) <;> (try (exfalso; clear hP hN; simp_all; done)) <;> (try (exfalso; simp at *; omega)))
      | with_reducible refine WP.block ?_
      | (with_reducible ((first | refine WP.skip ?_ | refine WP.exit ?_ | refine WP.ret ?_); simp)))
  have hne' : ((chain.length : Int) == 0) = false := by simp [hne]
  have cb := d164 t hv
  have hbl := boxesL_len hv
  have hz := sizeOk_iff.1 (valid_size hv)
  have hpos := List.length_pos_iff.2 hne
  refine detP_of Try.func113 rfl (by kernel_rfl) (by simp [Try.f113]) rfl ?_
  intro C hP hN
  simp only [Try.f113] at hN ⊢
  repeat' (first
    | with_reducible refine WP.seq ?_
    | (with_reducible ((first | refine WP.region (hn := [12]) ?_ | refine xC_intro (cv) ?_ | refine xC_intro (cp) ?_ | refine xC_intro (cq) ?_ | refine xC_intro (cb) ?_ | refine WP.cond' ?_); simp -implicitDefEqProofs (maxSteps := 2000000) [hP, hN, hne', hbl, show (1 : Int) * t.cells.length ≤ 281474976710656 by omega, show (t.cells.length : Int) ≤ 281474976710656 by omega, show (t.cells.length : Int) ≤ 9223372036854775807 by omega]))
    | (with_reducible ((first | refine WP.draw (hn := [12]) (by rw [hP]; kernel_rfl) (by kernel_rfl) ?_ | refine yC_intro (cv) ?_ | refine yC_intro (cp) ?_ | refine yC_intro (cq) ?_ | refine yC_intro (cb) ?_); simp -implicitDefEqProofs (maxSteps := 2000000) [hP, hN, hne', hbl, show (1 : Int) * t.cells.length ≤ 281474976710656 by omega, show (t.cells.length : Int) ≤ 281474976710656 by omega, show (t.cells.length : Int) ≤ 9223372036854775807 by omega]; (try refine ⟨by kernel_rfl, ?_⟩)))
    | (with_reducible refine xB_split (by simp [hne', hbl, show (1 : Int) * t.cells.length ≤ 281474976710656 by omega, show (t.cells.length : Int) ≤ 281474976710656 by omega, show (t.cells.length : Int) ≤ 9223372036854775807 by omega]) (fun hgd => ?_) (fun hgd => ?_) <;> first | (exfalso; simp at hgd; done) | (exfalso; simp at hgd; omega) | simp -implicitDefEqProofs (maxSteps := 2000000) [hP, hN, hne', hbl, show (1 : Int) * t.cells.length ≤ 281474976710656 by omega, show (t.cells.length : Int) ≤ 281474976710656 by omega, show (t.cells.length : Int) ≤ 9223372036854775807 by omega])
    | (with_reducible refine yB_split (by simp [hne', hbl, show (1 : Int) * t.cells.length ≤ 281474976710656 by omega, show (t.cells.length : Int) ≤ 281474976710656 by omega, show (t.cells.length : Int) ≤ 9223372036854775807 by omega]) (fun hgd => ?_) (fun hgd => ?_) <;> first | (exfalso; simp at hgd; done) | (exfalso; simp at hgd; omega) | (simp -implicitDefEqProofs (maxSteps := 2000000) [hP, hN, hne', hbl, show (1 : Int) * t.cells.length ≤ 281474976710656 by omega, show (t.cells.length : Int) ≤ 281474976710656 by omega, show (t.cells.length : Int) ≤ 9223372036854775807 by omega] <;> (try refine ⟨by kernel_rfl, ?_⟩)))
    | with_reducible refine xTwo_intro ?_ ?_
    | (with_reducible refine xCond_split (fun hcd => ?_) (fun hcd => ?_) <;> (try (exfalso; clear hP hN; simp_all; done)) <;> (try (exfalso; simp at *; omega)))
    | with_reducible refine WP.block ?_
    | (with_reducible ((first | refine WP.skip ?_ | refine WP.exit ?_ | refine WP.ret ?_); simp [hne', hbl, show (1 : Int) * t.cells.length ≤ 281474976710656 by omega, show (t.cells.length : Int) ≤ 281474976710656 by omega, show (t.cells.length : Int) ≤ 9223372036854775807 by omega])))
  refine WP.loopN [] chain.length (fun k st => st.t 2 = .pv (zs p) ∧ st.t 3 = .pv (zs q) ∧ st.t 4 = .ptr 4 0 ∧ st.h 4 = some (.box [.pv (iv t.root), .pv (.sl (t.cells.map encC))] true false) ∧ st.t 10 = .pv (.sl ((boxesL t).map iv)) ∧ st.t 11 = .arr 41 t.cells.length ∧ st.t 12 = .arr 12 k ∧ st.t 42 = .pv (zs chain) ∧ st.t 43 = .pv (Z chain.length) ∧ st.t 44 = .pv (Z k) ∧
    st.h 12 = some (.row 22 1 ((chain.map (ivA t)).take k) 0) ∧ chB t chain k = true ∧ ∃ U : List Bool, st.h 41 = some (.row 4 1 (U.map B) 0) ∧ U.length = t.cells.length ∧ ∀ i, i < t.cells.length → U[i]? = some ((chain.take k).contains (i : Int))) (by
      refine ⟨by simp, by simp, by simp, by simp, by simp, by simp, by simp, by simp, by simp, by simp, by simp, chB_zero _ _, List.replicate t.cells.length false, by simp, by simp, fun i hi => by simp [List.getElem?_replicate, hi]⟩) ?_
  rintro k st hi ⟨g2, g3, g4, hb4, g10, g11, g12, g42, g43, g44, hb12, hch, U, hb41, hUl, hU⟩
  have hzT : min k chain.length = k := by omega
  by_cases hlt : k < chain.length
  · have hw := wr_succ hlt (big hk)
    generalize hc : chain[k] = c at *
    have hci : chain[k]? = some c := by rw [List.getElem?_eq_getElem hlt, hc]
    have bad : chStep t chain k = false → chBoxes t chain p q = [] ∧ chainOk t chain p q = false := fun h => by
      have := ch_no (t := t) (chain := chain) (p := p) (q := q) (by simp [chPre, chB_false hlt h])
      exact ⟨this.1, this.2.1⟩
    have nbad : ¬ (0 ≤ c ∧ c < t.cells.length ∧ leafN t c.toNat = true ∧ c ∉ chain.take k ∧ (k = 0 ∨ touchC (boxAt t (chain[k - 1]?.getD 0)) (boxAt t c) = true)) → chBoxes t chain p q = [] ∧ chainOk t chain p q = false := fun h => bad (by
      cases hh : chStep t chain k with
      | false => rfl
      | true => exact absurd ((chStep_iff hci).1 hh) h)
    by_cases c1 : c < 0
    · obtain ⟨e1, e2⟩ := nbad (by omega)
      rw [e1, e2]
      repeat' (first
        | with_reducible refine WP.seq ?_
        | (with_reducible ((first | refine WP.region (hn := []) ?_ | refine WP.cond' ?_); simp -implicitDefEqProofs (maxSteps := 2000000) [hP, hN, g2, g3, g4, hb4, g10, g11, g12, g42, g43, g44, hb12, hb41, hlt, hw, hci, hc, c1]))
        | (with_reducible ((first | refine WP.draw (hn := []) (by rw [hP]; kernel_rfl) (by kernel_rfl) ?_); simp -implicitDefEqProofs (maxSteps := 2000000) [hP, hN, g2, g3, g4, hb4, g10, g11, g12, g42, g43, g44, hb12, hb41, hlt, hw, hci, hc, c1]; (try refine ⟨by kernel_rfl, ?_⟩)))
        | (with_reducible refine xB_split (by simp [g2, g3, g4, hb4, g10, g11, g12, g42, g43, g44, hb12, hb41, hlt, hw, hci, hc, c1]) (fun hgd => ?_) (fun hgd => ?_) <;> first | (exfalso; simp at hgd; done) | (exfalso; simp at hgd; omega) | simp -implicitDefEqProofs (maxSteps := 2000000) [hP, hN, g2, g3, g4, hb4, g10, g11, g12, g42, g43, g44, hb12, hb41, hlt, hw, hci, hc, c1])
        | (with_reducible refine yB_split (by simp [g2, g3, g4, hb4, g10, g11, g12, g42, g43, g44, hb12, hb41, hlt, hw, hci, hc, c1]) (fun hgd => ?_) (fun hgd => ?_) <;> first | (exfalso; simp at hgd; done) | (exfalso; simp at hgd; omega) | (simp -implicitDefEqProofs (maxSteps := 2000000) [hP, hN, g2, g3, g4, hb4, g10, g11, g12, g42, g43, g44, hb12, hb41, hlt, hw, hci, hc, c1] <;> (try refine ⟨by kernel_rfl, ?_⟩)))
        | with_reducible refine xTwo_intro ?_ ?_
        | (with_reducible refine xCond_split (fun hcd => ?_) (fun hcd => ?_) <;> (try (exfalso; clear hP hN; simp_all; done)) <;> (try (exfalso; simp at *; omega)))
        | with_reducible refine WP.block ?_
        | (with_reducible ((first | refine WP.skip ?_ | refine WP.exit ?_ | refine WP.ret ?_); simp [g2, g3, g4, hb4, g10, g11, g12, g42, g43, g44, hb12, hb41, hlt, hw, hci, hc, c1])))
    obtain ⟨m, rfl⟩ := Int.eq_ofNat_of_zero_le (show 0 ≤ c by omega)
    by_cases c2 : t.cells.length ≤ m
    · obtain ⟨e1, e2⟩ := nbad (by omega)
      rw [e1, e2]
      repeat' (first
        | with_reducible refine WP.seq ?_
        | (with_reducible ((first | refine WP.region (hn := []) ?_ | refine WP.cond' ?_); simp -implicitDefEqProofs (maxSteps := 2000000) [hP, hN, g2, g3, g4, hb4, g10, g11, g12, g42, g43, g44, hb12, hb41, hlt, hw, hci, hc, c1, c2, hbl]))
        | (with_reducible ((first | refine WP.draw (hn := []) (by rw [hP]; kernel_rfl) (by kernel_rfl) ?_); simp -implicitDefEqProofs (maxSteps := 2000000) [hP, hN, g2, g3, g4, hb4, g10, g11, g12, g42, g43, g44, hb12, hb41, hlt, hw, hci, hc, c1, c2, hbl]; (try refine ⟨by kernel_rfl, ?_⟩)))
        | (with_reducible refine xB_split (by simp [g2, g3, g4, hb4, g10, g11, g12, g42, g43, g44, hb12, hb41, hlt, hw, hci, hc, c1, c2, hbl]) (fun hgd => ?_) (fun hgd => ?_) <;> first | (exfalso; simp at hgd; done) | (exfalso; simp at hgd; omega) | simp -implicitDefEqProofs (maxSteps := 2000000) [hP, hN, g2, g3, g4, hb4, g10, g11, g12, g42, g43, g44, hb12, hb41, hlt, hw, hci, hc, c1, c2, hbl])
        | (with_reducible refine yB_split (by simp [g2, g3, g4, hb4, g10, g11, g12, g42, g43, g44, hb12, hb41, hlt, hw, hci, hc, c1, c2, hbl]) (fun hgd => ?_) (fun hgd => ?_) <;> first | (exfalso; simp at hgd; done) | (exfalso; simp at hgd; omega) | (simp -implicitDefEqProofs (maxSteps := 2000000) [hP, hN, g2, g3, g4, hb4, g10, g11, g12, g42, g43, g44, hb12, hb41, hlt, hw, hci, hc, c1, c2, hbl] <;> (try refine ⟨by kernel_rfl, ?_⟩)))
        | with_reducible refine xTwo_intro ?_ ?_
        | (with_reducible refine xCond_split (fun hcd => ?_) (fun hcd => ?_) <;> (try (exfalso; clear hP hN; simp_all; done)) <;> (try (exfalso; simp at *; omega)))
        | with_reducible refine WP.block ?_
        | (with_reducible ((first | refine WP.skip ?_ | refine WP.exit ?_ | refine WP.ret ?_); simp [g2, g3, g4, hb4, g10, g11, g12, g42, g43, g44, hb12, hb41, hlt, hw, hci, hc, c1, c2, hbl])))
    have hm : m < t.cells.length := by omega
    have hmU : m < U.length := by omega
    have hmB : m < (boxesL t).length := by omega
    generalize hd : t.cells[m] = d at *
    have hdi : t.cells[m]? = some d := by rw [List.getElem?_eq_getElem hm, hd]
    have hlow := (cell_low hv hdi).1
    cases hlf : leafB d with
    | false =>
      have hlo : (d.low != -1) = true := by rw [hlf] at hlow; simp [bne, hlow]
      obtain ⟨e1, e2⟩ := nbad (by rintro ⟨_, _, h3, _⟩; simp [leafN, hdi, hlf] at h3)
      rw [e1, e2]
      repeat' (first
        | with_reducible refine WP.seq ?_
        | (with_reducible ((first | refine WP.region (hn := []) ?_ | refine WP.cond' ?_); simp -implicitDefEqProofs (maxSteps := 2000000) [hP, hN, g2, g3, g4, hb4, g10, g11, g12, g42, g43, g44, hb12, hb41, hlt, hw, hci, hc, c1, c2, hbl, hm, hdi, hd, hlo]))
        | (with_reducible ((first | refine WP.draw (hn := []) (by rw [hP]; kernel_rfl) (by kernel_rfl) ?_); simp -implicitDefEqProofs (maxSteps := 2000000) [hP, hN, g2, g3, g4, hb4, g10, g11, g12, g42, g43, g44, hb12, hb41, hlt, hw, hci, hc, c1, c2, hbl, hm, hdi, hd, hlo]; (try refine ⟨by kernel_rfl, ?_⟩)))
        | (with_reducible refine xB_split (by simp [g2, g3, g4, hb4, g10, g11, g12, g42, g43, g44, hb12, hb41, hlt, hw, hci, hc, c1, c2, hbl, hm, hdi, hd, hlo]) (fun hgd => ?_) (fun hgd => ?_) <;> first | (exfalso; simp at hgd; done) | (exfalso; simp at hgd; omega) | simp -implicitDefEqProofs (maxSteps := 2000000) [hP, hN, g2, g3, g4, hb4, g10, g11, g12, g42, g43, g44, hb12, hb41, hlt, hw, hci, hc, c1, c2, hbl, hm, hdi, hd, hlo])
        | (with_reducible refine yB_split (by simp [g2, g3, g4, hb4, g10, g11, g12, g42, g43, g44, hb12, hb41, hlt, hw, hci, hc, c1, c2, hbl, hm, hdi, hd, hlo]) (fun hgd => ?_) (fun hgd => ?_) <;> first | (exfalso; simp at hgd; done) | (exfalso; simp at hgd; omega) | (simp -implicitDefEqProofs (maxSteps := 2000000) [hP, hN, g2, g3, g4, hb4, g10, g11, g12, g42, g43, g44, hb12, hb41, hlt, hw, hci, hc, c1, c2, hbl, hm, hdi, hd, hlo] <;> (try refine ⟨by kernel_rfl, ?_⟩)))
        | with_reducible refine xTwo_intro ?_ ?_
        | (with_reducible refine xCond_split (fun hcd => ?_) (fun hcd => ?_) <;> (try (exfalso; clear hP hN; simp_all; done)) <;> (try (exfalso; simp at *; omega)))
        | with_reducible refine WP.block ?_
        | (with_reducible ((first | refine WP.skip ?_ | refine WP.exit ?_ | refine WP.ret ?_); simp [g2, g3, g4, hb4, g10, g11, g12, g42, g43, g44, hb12, hb41, hlt, hw, hci, hc, c1, c2, hbl, hm, hdi, hd, hlo])))
    | true =>
    have hlo : (d.low != -1) = false := by rw [hlf] at hlow; simp [bne, hlow]
    have hUm := hU m hm
    cases hct : (chain.take k).contains (m : Int) with
    | true =>
      rw [hct] at hUm
      have hUm' := get_of hUm hmU
      obtain ⟨e1, e2⟩ := nbad (by rintro ⟨_, _, _, h4, _⟩; simp at hct; exact h4 hct)
      rw [e1, e2]
      repeat' (first
        | with_reducible refine WP.seq ?_
        | (with_reducible ((first | refine WP.region (hn := []) ?_ | refine WP.cond' ?_); simp -implicitDefEqProofs (maxSteps := 2000000) [hP, hN, g2, g3, g4, hb4, g10, g11, g12, g42, g43, g44, hb12, hb41, hlt, hw, hci, hc, c1, c2, hbl, hm, hdi, hd, hlo, hUm, hUm', hUl, hmU]))
        | (with_reducible ((first | refine WP.draw (hn := []) (by rw [hP]; kernel_rfl) (by kernel_rfl) ?_); simp -implicitDefEqProofs (maxSteps := 2000000) [hP, hN, g2, g3, g4, hb4, g10, g11, g12, g42, g43, g44, hb12, hb41, hlt, hw, hci, hc, c1, c2, hbl, hm, hdi, hd, hlo, hUm, hUm', hUl, hmU]; (try refine ⟨by kernel_rfl, ?_⟩)))
        | (with_reducible refine xB_split (by simp [g2, g3, g4, hb4, g10, g11, g12, g42, g43, g44, hb12, hb41, hlt, hw, hci, hc, c1, c2, hbl, hm, hdi, hd, hlo, hUm, hUm', hUl, hmU]) (fun hgd => ?_) (fun hgd => ?_) <;> first | (exfalso; simp at hgd; done) | (exfalso; simp at hgd; omega) | simp -implicitDefEqProofs (maxSteps := 2000000) [hP, hN, g2, g3, g4, hb4, g10, g11, g12, g42, g43, g44, hb12, hb41, hlt, hw, hci, hc, c1, c2, hbl, hm, hdi, hd, hlo, hUm, hUm', hUl, hmU])
        | (with_reducible refine yB_split (by simp [g2, g3, g4, hb4, g10, g11, g12, g42, g43, g44, hb12, hb41, hlt, hw, hci, hc, c1, c2, hbl, hm, hdi, hd, hlo, hUm, hUm', hUl, hmU]) (fun hgd => ?_) (fun hgd => ?_) <;> first | (exfalso; simp at hgd; done) | (exfalso; simp at hgd; omega) | (simp -implicitDefEqProofs (maxSteps := 2000000) [hP, hN, g2, g3, g4, hb4, g10, g11, g12, g42, g43, g44, hb12, hb41, hlt, hw, hci, hc, c1, c2, hbl, hm, hdi, hd, hlo, hUm, hUm', hUl, hmU] <;> (try refine ⟨by kernel_rfl, ?_⟩)))
        | with_reducible refine xTwo_intro ?_ ?_
        | (with_reducible refine xCond_split (fun hcd => ?_) (fun hcd => ?_) <;> (try (exfalso; clear hP hN; simp_all; done)) <;> (try (exfalso; simp at *; omega)))
        | with_reducible refine WP.block ?_
        | (with_reducible ((first | refine WP.skip ?_ | refine WP.exit ?_ | refine WP.ret ?_); simp [g2, g3, g4, hb4, g10, g11, g12, g42, g43, g44, hb12, hb41, hlt, hw, hci, hc, c1, c2, hbl, hm, hdi, hd, hlo, hUm, hUm', hUl, hmU])))
    | false =>
    rw [hct] at hUm
    have hUm' := get_of hUm hmU
    have hbx : (boxesL t)[m]? = some (boxAt t m) := (boxAt_ok hv (c := (m : Int)) hm).1
    have hbx' := (List.getElem?_eq_some_iff.1 hbx).2
    have hblen := (boxAt_ok hv (c := (m : Int)) hm).2.1
    have hnm : (m : Int) ∉ chain.take k := by intro h; simp [h] at hct
    have hUs := contains_step hlt hc hmU hU
    have hstp : (chain.map (ivA t)).take k ++ [iv (boxAt t m)] = (chain.map (ivA t)).take (k + 1) := by
      rw [List.take_succ_eq_append_getElem (by simpa using hlt)]; simp [hc]
    have hA1 : (k + 1) * 24 ≤ 140737488355328 := by omega
    have hA2 : k + 1 ≤ 9223372036854775807 := by omega
    have hlm : k < ((chain.map (ivA t)).take (k + 1)).length := by simp; omega
    have hsl : min (k + 1) chain.length = k + 1 := by omega
    have hfin : ∀ (X : List PV), X = (chain.map (ivA t)).take k ++ [iv (boxAt t m)] → chB t chain (k + 1) = true → X = (chain.map (ivA t)).take (k + 1) ∧ chB t chain (k + 1) = true ∧ ∃ U_1 : List Bool, (U.map B).set m (PV.val (Value.bool true)) = U_1.map B ∧ U_1.length = t.cells.length ∧ ∀ (i : Nat), i < t.cells.length → U_1[i]? = some (decide ((i : Int) ∈ chain.take (k + 1))) := by
      intro X hX hnx
      refine ⟨by rw [hX, hstp], hnx, U.set m true, by simp [List.map_set], by simpa using hUl, ?_⟩
      simpa using hUs
    by_cases hk0 : k = 0
    · have hk0' : ¬ (0 : Int) < k := by omega
      have hk0n : ¬ 0 < k := by omega
      have hnx := chB_step hch ((chStep_iff hci).2 ⟨by omega, by omega, by simp [leafN, hdi, hlf], hnm, .inl hk0⟩)
      repeat' (first
        | with_reducible refine WP.seq ?_
        | (with_reducible ((first | refine WP.region (hn := []) ?_ | refine WP.cond' ?_); simp -implicitDefEqProofs (maxSteps := 2000000) [hP, hN, g2, g3, g4, hb4, g10, g11, g12, g42, g43, g44, hb12, hb41, hlt, hw, hci, hc, c1, c2, hbl, hm, hdi, hd, hlo, hUm, hUm', hUl, hmU, hbx, hbx', hmB, hzT, hA1, hA2, hk0', hk0n]))
        | (with_reducible ((first | refine WP.draw (hn := []) (by rw [hP]; kernel_rfl) (by kernel_rfl) ?_); simp -implicitDefEqProofs (maxSteps := 2000000) [hP, hN, g2, g3, g4, hb4, g10, g11, g12, g42, g43, g44, hb12, hb41, hlt, hw, hci, hc, c1, c2, hbl, hm, hdi, hd, hlo, hUm, hUm', hUl, hmU, hbx, hbx', hmB, hzT, hA1, hA2, hk0', hk0n]; (try refine ⟨by kernel_rfl, ?_⟩)))
        | (with_reducible refine xB_split (by simp [g2, g3, g4, hb4, g10, g11, g12, g42, g43, g44, hb12, hb41, hlt, hw, hci, hc, c1, c2, hbl, hm, hdi, hd, hlo, hUm, hUm', hUl, hmU, hbx, hbx', hmB, hzT, hA1, hA2, hk0', hk0n]) (fun hgd => ?_) (fun hgd => ?_) <;> first | (exfalso; simp at hgd; done) | (exfalso; simp at hgd; omega) | simp -implicitDefEqProofs (maxSteps := 2000000) [hP, hN, g2, g3, g4, hb4, g10, g11, g12, g42, g43, g44, hb12, hb41, hlt, hw, hci, hc, c1, c2, hbl, hm, hdi, hd, hlo, hUm, hUm', hUl, hmU, hbx, hbx', hmB, hzT, hA1, hA2, hk0', hk0n])
        | (with_reducible refine yB_split (by simp [g2, g3, g4, hb4, g10, g11, g12, g42, g43, g44, hb12, hb41, hlt, hw, hci, hc, c1, c2, hbl, hm, hdi, hd, hlo, hUm, hUm', hUl, hmU, hbx, hbx', hmB, hzT, hA1, hA2, hk0', hk0n]) (fun hgd => ?_) (fun hgd => ?_) <;> first | (exfalso; simp at hgd; done) | (exfalso; simp at hgd; omega) | (simp -implicitDefEqProofs (maxSteps := 2000000) [hP, hN, g2, g3, g4, hb4, g10, g11, g12, g42, g43, g44, hb12, hb41, hlt, hw, hci, hc, c1, c2, hbl, hm, hdi, hd, hlo, hUm, hUm', hUl, hmU, hbx, hbx', hmB, hzT, hA1, hA2, hk0', hk0n] <;> (try refine ⟨by kernel_rfl, ?_⟩)))
        | with_reducible refine xTwo_intro ?_ ?_
        | (with_reducible refine xCond_split (fun hcd => ?_) (fun hcd => ?_) <;> (try (exfalso; clear hP hN; simp_all; done)) <;> (try (exfalso; simp at *; omega)))
        | with_reducible refine WP.block ?_
        | (with_reducible ((first | refine WP.skip ?_ | refine WP.exit ?_ | refine WP.ret ?_); simp [g2, g3, g4, hb4, g10, g11, g12, g42, g43, g44, hb12, hb41, hlt, hw, hci, hc, c1, c2, hbl, hm, hdi, hd, hlo, hUm, hUm', hUl, hmU, hbx, hbx', hmB, hzT, hA1, hA2, hk0', hk0n])))
      all_goals exact hfin _ rfl hnx
    · have hk0' : (0 : Int) < k := by omega
      have hk0n : 0 < k := by omega
      have hj : k - 1 < chain.length := by omega
      have hjw : IntKind.i64.wrap ((k : Int) - 1) = ((k - 1 : Nat) : Int) := by rw [show (k : Int) - 1 = ((k - 1 : Nat) : Int) by omega]; exact wr_id (by omega) (by omega)
      have ct := d104 (boxAt t (chain[k - 1])) (boxAt t m) (by
        have := ((chB_iff.1 hch) (k - 1) (by omega))
        have := (chStep_iff (List.getElem?_eq_getElem hj)).1 this
        have := (boxAt_ok hv (c := chain[k - 1]) (by omega)).2.1
        omega)
      have hgj : chain[k - 1]?.getD 0 = chain[k - 1] := by rw [List.getElem?_eq_getElem hj]; rfl
      have hlk : k - 1 < k + 1 := by omega
      cases htc : touchC (boxAt t (chain[k - 1])) (boxAt t m) with
      | true =>
        rw [htc] at ct
        have hnx := chB_step hch ((chStep_iff hci).2 ⟨by omega, by omega, by simp [leafN, hdi, hlf], hnm, .inr (by rw [hgj]; exact htc)⟩)
        repeat' (first
          | with_reducible refine WP.seq ?_
          | (with_reducible ((first | refine WP.region (hn := []) ?_ | refine xC_intro (ct) ?_ | refine WP.cond' ?_); simp -implicitDefEqProofs (maxSteps := 2000000) [hP, hN, g2, g3, g4, hb4, g10, g11, g12, g42, g43, g44, hb12, hb41, hlt, hw, hci, hc, c1, c2, hbl, hm, hdi, hd, hlo, hUm, hUm', hUl, hmU, hbx, hbx', hmB, hzT, hstp, hj, hjw, hA1, hA2, hk0', hk0n, hlm, hsl, hlk]))
          | (with_reducible ((first | refine WP.draw (hn := []) (by rw [hP]; kernel_rfl) (by kernel_rfl) ?_ | refine yC_intro (ct) ?_); simp -implicitDefEqProofs (maxSteps := 2000000) [hP, hN, g2, g3, g4, hb4, g10, g11, g12, g42, g43, g44, hb12, hb41, hlt, hw, hci, hc, c1, c2, hbl, hm, hdi, hd, hlo, hUm, hUm', hUl, hmU, hbx, hbx', hmB, hzT, hstp, hj, hjw, hA1, hA2, hk0', hk0n, hlm, hsl, hlk]; (try refine ⟨by kernel_rfl, ?_⟩)))
          | (with_reducible refine xB_split (by simp [g2, g3, g4, hb4, g10, g11, g12, g42, g43, g44, hb12, hb41, hlt, hw, hci, hc, c1, c2, hbl, hm, hdi, hd, hlo, hUm, hUm', hUl, hmU, hbx, hbx', hmB, hzT, hstp, hj, hjw, hA1, hA2, hk0', hk0n, hlm, hsl, hlk]) (fun hgd => ?_) (fun hgd => ?_) <;> first | (exfalso; simp at hgd; done) | (exfalso; simp at hgd; omega) | simp -implicitDefEqProofs (maxSteps := 2000000) [hP, hN, g2, g3, g4, hb4, g10, g11, g12, g42, g43, g44, hb12, hb41, hlt, hw, hci, hc, c1, c2, hbl, hm, hdi, hd, hlo, hUm, hUm', hUl, hmU, hbx, hbx', hmB, hzT, hstp, hj, hjw, hA1, hA2, hk0', hk0n, hlm, hsl, hlk])
          | (with_reducible refine yB_split (by simp [g2, g3, g4, hb4, g10, g11, g12, g42, g43, g44, hb12, hb41, hlt, hw, hci, hc, c1, c2, hbl, hm, hdi, hd, hlo, hUm, hUm', hUl, hmU, hbx, hbx', hmB, hzT, hstp, hj, hjw, hA1, hA2, hk0', hk0n, hlm, hsl, hlk]) (fun hgd => ?_) (fun hgd => ?_) <;> first | (exfalso; simp at hgd; done) | (exfalso; simp at hgd; omega) | (simp -implicitDefEqProofs (maxSteps := 2000000) [hP, hN, g2, g3, g4, hb4, g10, g11, g12, g42, g43, g44, hb12, hb41, hlt, hw, hci, hc, c1, c2, hbl, hm, hdi, hd, hlo, hUm, hUm', hUl, hmU, hbx, hbx', hmB, hzT, hstp, hj, hjw, hA1, hA2, hk0', hk0n, hlm, hsl, hlk] <;> (try refine ⟨by kernel_rfl, ?_⟩)))
          | with_reducible refine xTwo_intro ?_ ?_
          | (with_reducible refine xCond_split (fun hcd => ?_) (fun hcd => ?_) <;> (try (exfalso; clear hP hN; simp_all; done)) <;> (try (exfalso; simp at *; omega)))
          | with_reducible refine WP.block ?_
          | (with_reducible ((first | refine WP.skip ?_ | refine WP.exit ?_ | refine WP.ret ?_); simp [g2, g3, g4, hb4, g10, g11, g12, g42, g43, g44, hb12, hb41, hlt, hw, hci, hc, c1, c2, hbl, hm, hdi, hd, hlo, hUm, hUm', hUl, hmU, hbx, hbx', hmB, hzT, hstp, hj, hjw, hA1, hA2, hk0', hk0n, hlm, hsl, hlk])))
        all_goals first | exact (hfin _ hstp.symm hnx).2 | exact hfin _ hstp.symm hnx
      | false =>
        rw [htc] at ct
        obtain ⟨e1, e2⟩ := nbad (by rintro ⟨_, _, _, _, h5⟩; rcases h5 with h5 | h5; omega; rw [hgj, htc] at h5; cases h5)
        rw [e1, e2]
        repeat' (first
          | with_reducible refine WP.seq ?_
          | (with_reducible ((first | refine WP.region (hn := []) ?_ | refine xC_intro (ct) ?_ | refine WP.cond' ?_); simp -implicitDefEqProofs (maxSteps := 2000000) [hP, hN, g2, g3, g4, hb4, g10, g11, g12, g42, g43, g44, hb12, hb41, hlt, hw, hci, hc, c1, c2, hbl, hm, hdi, hd, hlo, hUm, hUm', hUl, hmU, hbx, hbx', hmB, hzT, hstp, hj, hjw, hA1, hA2, hk0', hk0n, hlm, hsl, hlk]))
          | (with_reducible ((first | refine WP.draw (hn := []) (by rw [hP]; kernel_rfl) (by kernel_rfl) ?_ | refine yC_intro (ct) ?_); simp -implicitDefEqProofs (maxSteps := 2000000) [hP, hN, g2, g3, g4, hb4, g10, g11, g12, g42, g43, g44, hb12, hb41, hlt, hw, hci, hc, c1, c2, hbl, hm, hdi, hd, hlo, hUm, hUm', hUl, hmU, hbx, hbx', hmB, hzT, hstp, hj, hjw, hA1, hA2, hk0', hk0n, hlm, hsl, hlk]; (try refine ⟨by kernel_rfl, ?_⟩)))
          | (with_reducible refine xB_split (by simp [g2, g3, g4, hb4, g10, g11, g12, g42, g43, g44, hb12, hb41, hlt, hw, hci, hc, c1, c2, hbl, hm, hdi, hd, hlo, hUm, hUm', hUl, hmU, hbx, hbx', hmB, hzT, hstp, hj, hjw, hA1, hA2, hk0', hk0n, hlm, hsl, hlk]) (fun hgd => ?_) (fun hgd => ?_) <;> first | (exfalso; simp at hgd; done) | (exfalso; simp at hgd; omega) | simp -implicitDefEqProofs (maxSteps := 2000000) [hP, hN, g2, g3, g4, hb4, g10, g11, g12, g42, g43, g44, hb12, hb41, hlt, hw, hci, hc, c1, c2, hbl, hm, hdi, hd, hlo, hUm, hUm', hUl, hmU, hbx, hbx', hmB, hzT, hstp, hj, hjw, hA1, hA2, hk0', hk0n, hlm, hsl, hlk])
          | (with_reducible refine yB_split (by simp [g2, g3, g4, hb4, g10, g11, g12, g42, g43, g44, hb12, hb41, hlt, hw, hci, hc, c1, c2, hbl, hm, hdi, hd, hlo, hUm, hUm', hUl, hmU, hbx, hbx', hmB, hzT, hstp, hj, hjw, hA1, hA2, hk0', hk0n, hlm, hsl, hlk]) (fun hgd => ?_) (fun hgd => ?_) <;> first | (exfalso; simp at hgd; done) | (exfalso; simp at hgd; omega) | (simp -implicitDefEqProofs (maxSteps := 2000000) [hP, hN, g2, g3, g4, hb4, g10, g11, g12, g42, g43, g44, hb12, hb41, hlt, hw, hci, hc, c1, c2, hbl, hm, hdi, hd, hlo, hUm, hUm', hUl, hmU, hbx, hbx', hmB, hzT, hstp, hj, hjw, hA1, hA2, hk0', hk0n, hlm, hsl, hlk] <;> (try refine ⟨by kernel_rfl, ?_⟩)))
          | with_reducible refine xTwo_intro ?_ ?_
          | (with_reducible refine xCond_split (fun hcd => ?_) (fun hcd => ?_) <;> (try (exfalso; clear hP hN; simp_all; done)) <;> (try (exfalso; simp at *; omega)))
          | with_reducible refine WP.block ?_
          | (with_reducible ((first | refine WP.skip ?_ | refine WP.exit ?_ | refine WP.ret ?_); simp [g2, g3, g4, hb4, g10, g11, g12, g42, g43, g44, hb12, hb41, hlt, hw, hci, hc, c1, c2, hbl, hm, hdi, hd, hlo, hUm, hUm', hUl, hmU, hbx, hbx', hmB, hzT, hstp, hj, hjw, hA1, hA2, hk0', hk0n, hlm, hsl, hlk])))
  · have hk' : k = chain.length := by omega
    subst hk'
    have hpre : chPre t chain p q = true := chPre_iff.2 ⟨hv, hp, hq, hne, chB_iff.1 hch⟩
    have hC := chPre_iff.1 hpre
    have e1 : (chBoxes t chain p q).map iv = chain.map (ivA t) := by simp [chBoxes, hpre]
    have hl1 : chain.length - 1 < chain.length := by omega
    have e2 : chainOk t chain p q = (hasC (boxAt t chain[0]) p && hasC (boxAt t (chain[chain.length - 1])) q) := by
      simp [chainOk, hpre, chEnds, List.getElem?_eq_getElem hpos, List.getElem?_eq_getElem hl1]
    rw [e1, e2]
    have htk : (chain.map (ivA t)).take chain.length = chain.map (ivA t) := List.take_of_length_le (by simp)
    have ca := d86 (boxAt t chain[0]) p (by have := (hC.box hpos).2.1; omega)
    have cz := d86 (boxAt t (chain[chain.length - 1])) q (by have := (hC.box hl1).2.1; omega)
    have hw1 : IntKind.i64.wrap ((chain.length : Int) - 1) = ((chain.length - 1 : Nat) : Int) := by rw [show (chain.length : Int) - 1 = ((chain.length - 1 : Nat) : Int) by omega]; exact wr_id (by omega) (by omega)
    cases hA : hasC (boxAt t chain[0]) p with
    | false =>
      rw [hA] at ca
      repeat' (first
        | with_reducible refine WP.seq ?_
        | (with_reducible ((first | refine WP.region (hn := []) ?_ | refine xC_intro (ca) ?_ | refine WP.cond' ?_); simp -implicitDefEqProofs (maxSteps := 2000000) [hP, hN, g2, g3, g4, hb4, g10, g11, g12, g42, g43, g44, hb12, hb41, hlt, htk, hzT, hpos, hl1, hw1]))
        | (with_reducible ((first | refine WP.draw (hn := []) (by rw [hP]; kernel_rfl) (by kernel_rfl) ?_ | refine yC_intro (ca) ?_); simp -implicitDefEqProofs (maxSteps := 2000000) [hP, hN, g2, g3, g4, hb4, g10, g11, g12, g42, g43, g44, hb12, hb41, hlt, htk, hzT, hpos, hl1, hw1]; (try refine ⟨by kernel_rfl, ?_⟩)))
        | (with_reducible refine xB_split (by simp [g2, g3, g4, hb4, g10, g11, g12, g42, g43, g44, hb12, hb41, hlt, htk, hzT, hpos, hl1, hw1]) (fun hgd => ?_) (fun hgd => ?_) <;> first | (exfalso; simp at hgd; done) | (exfalso; simp at hgd; omega) | simp -implicitDefEqProofs (maxSteps := 2000000) [hP, hN, g2, g3, g4, hb4, g10, g11, g12, g42, g43, g44, hb12, hb41, hlt, htk, hzT, hpos, hl1, hw1])
        | (with_reducible refine yB_split (by simp [g2, g3, g4, hb4, g10, g11, g12, g42, g43, g44, hb12, hb41, hlt, htk, hzT, hpos, hl1, hw1]) (fun hgd => ?_) (fun hgd => ?_) <;> first | (exfalso; simp at hgd; done) | (exfalso; simp at hgd; omega) | (simp -implicitDefEqProofs (maxSteps := 2000000) [hP, hN, g2, g3, g4, hb4, g10, g11, g12, g42, g43, g44, hb12, hb41, hlt, htk, hzT, hpos, hl1, hw1] <;> (try refine ⟨by kernel_rfl, ?_⟩)))
        | with_reducible refine xTwo_intro ?_ ?_
        | (with_reducible refine xCond_split (fun hcd => ?_) (fun hcd => ?_) <;> (try (exfalso; clear hP hN; simp_all; done)) <;> (try (exfalso; simp at *; omega)))
        | with_reducible refine WP.block ?_
        | (with_reducible ((first | refine WP.skip ?_ | refine WP.exit ?_ | refine WP.ret ?_); simp [g2, g3, g4, hb4, g10, g11, g12, g42, g43, g44, hb12, hb41, hlt, htk, hzT, hpos, hl1, hw1])))
    | true =>
      rw [hA] at ca
      generalize hasC (boxAt t (chain[chain.length - 1])) q = Z9 at *
      repeat' (first
        | with_reducible refine WP.seq ?_
        | (with_reducible ((first | refine WP.region (hn := []) ?_ | refine xC_intro (ca) ?_ | refine xC_intro (cz) ?_ | refine WP.cond' ?_); simp -implicitDefEqProofs (maxSteps := 2000000) [hP, hN, g2, g3, g4, hb4, g10, g11, g12, g42, g43, g44, hb12, hb41, hlt, htk, hzT, hpos, hl1, hw1]))
        | (with_reducible ((first | refine WP.draw (hn := []) (by rw [hP]; kernel_rfl) (by kernel_rfl) ?_ | refine yC_intro (ca) ?_ | refine yC_intro (cz) ?_); simp -implicitDefEqProofs (maxSteps := 2000000) [hP, hN, g2, g3, g4, hb4, g10, g11, g12, g42, g43, g44, hb12, hb41, hlt, htk, hzT, hpos, hl1, hw1]; (try refine ⟨by kernel_rfl, ?_⟩)))
        | (with_reducible refine xB_split (by simp [g2, g3, g4, hb4, g10, g11, g12, g42, g43, g44, hb12, hb41, hlt, htk, hzT, hpos, hl1, hw1]) (fun hgd => ?_) (fun hgd => ?_) <;> first | (exfalso; simp at hgd; done) | (exfalso; simp at hgd; omega) | simp -implicitDefEqProofs (maxSteps := 2000000) [hP, hN, g2, g3, g4, hb4, g10, g11, g12, g42, g43, g44, hb12, hb41, hlt, htk, hzT, hpos, hl1, hw1])
        | (with_reducible refine yB_split (by simp [g2, g3, g4, hb4, g10, g11, g12, g42, g43, g44, hb12, hb41, hlt, htk, hzT, hpos, hl1, hw1]) (fun hgd => ?_) (fun hgd => ?_) <;> first | (exfalso; simp at hgd; done) | (exfalso; simp at hgd; omega) | (simp -implicitDefEqProofs (maxSteps := 2000000) [hP, hN, g2, g3, g4, hb4, g10, g11, g12, g42, g43, g44, hb12, hb41, hlt, htk, hzT, hpos, hl1, hw1] <;> (try refine ⟨by kernel_rfl, ?_⟩)))
        | with_reducible refine xTwo_intro ?_ ?_
        | (with_reducible refine xCond_split (fun hcd => ?_) (fun hcd => ?_) <;> (try (exfalso; clear hP hN; simp_all; done)) <;> (try (exfalso; simp at *; omega)))
        | with_reducible refine WP.block ?_
        | (with_reducible ((first | refine WP.skip ?_ | refine WP.exit ?_ | refine WP.ret ?_); simp [g2, g3, g4, hb4, g10, g11, g12, g42, g43, g44, hb12, hb41, hlt, htk, hzT, hpos, hl1, hw1])))
end Go.Ab
