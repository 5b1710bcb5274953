/- Contracts: floods. -/
import Derived.Test.YtagmnknighofeaaTrE
import Derived.Test.YtagmnknighofeaaCu1
import Derived.Test.YtagmnknighofeaaAb26
set_option linter.all false
namespace Go.Ab
open Go.Proofs
theorem d172 (c : Cel) : DetH Try.prog 172 [.pv (encC c)] [] [] (.pv (B (leafB c))) := by
  refine detP_of Try.func172 rfl (by kernel_rfl) (by simp [Try.f172]) rfl ?_
  intro C hP hN
  simp only [Try.f172] at hN ⊢
  repeat' (first
    | with_reducible refine WP.seq ?_
    | (with_reducible ((first | refine WP.region (hn := []) ?_ | refine WP.cond' ?_); simp -implicitDefEqProofs (maxSteps := 2000000) [hP, hN]))
    | (with_reducible ((first | refine WP.draw (hn := []) (by rw [hP]; kernel_rfl) (by kernel_rfl) ?_); simp -implicitDefEqProofs (maxSteps := 2000000) [hP, hN]; (try refine ⟨by kernel_rfl, ?_⟩)))
    | (with_reducible refine xB_split (by simp) (fun hgd => ?_) (fun hgd => ?_) <;> first | (exfalso; simp at hgd; done) | (exfalso; simp at hgd; omega) | simp -implicitDefEqProofs (maxSteps := 2000000) [hP, hN])
    | (with_reducible refine yB_split (by simp) (fun hgd => ?_) (fun hgd => ?_) <;> first | (exfalso; simp at hgd; done) | (exfalso; simp at hgd; omega) | (simp -implicitDefEqProofs (maxSteps := 2000000) [hP, hN] <;> (try refine ⟨by kernel_rfl, ?_⟩)))
    | with_reducible refine xTwo_intro ?_ ?_
    | (with_reducible refine xCond_split (fun hcd => ?_) (fun hcd => ?_) <;> (try (exfalso; clear hP hN; simp_all; done)) <;> (try (exfalso; simp at *; omega)))
    | with_reducible refine WP.block ?_
    | (with_reducible ((first | refine WP.skip ?_ | refine WP.exit ?_ | refine WP.ret ?_); simp)))
  all_goals (simp_all [leafB])
theorem d134 (c : Cel) : DetH Try.prog 134 [.pv (encC c)] [] [] (.pv (B (colB c))) := by
  have cl := d172 c
  refine detP_of Try.func134 rfl (by kernel_rfl) (by simp [Try.f134]) rfl ?_
  intro C hP hN
  simp only [Try.f134] at hN ⊢
  repeat' (first
    | with_reducible refine WP.seq ?_
    | (with_reducible ((first | refine WP.region (hn := []) ?_ | refine xC_intro (cl) ?_ | refine WP.cond' ?_); simp -implicitDefEqProofs (maxSteps := 2000000) [hP, hN]))
    | (with_reducible ((first | refine WP.draw (hn := []) (by rw [hP]; kernel_rfl) (by kernel_rfl) ?_ | refine yC_intro (cl) ?_); simp -implicitDefEqProofs (maxSteps := 2000000) [hP, hN]; (try refine ⟨by kernel_rfl, ?_⟩)))
    | (with_reducible refine xB_split (by simp) (fun hgd => ?_) (fun hgd => ?_) <;> first | (exfalso; simp at hgd; done) | (exfalso; simp at hgd; omega) | simp -implicitDefEqProofs (maxSteps := 2000000) [hP, hN])
    | (with_reducible refine yB_split (by simp) (fun hgd => ?_) (fun hgd => ?_) <;> first | (exfalso; simp at hgd; done) | (exfalso; simp at hgd; omega) | (simp -implicitDefEqProofs (maxSteps := 2000000) [hP, hN] <;> (try refine ⟨by kernel_rfl, ?_⟩)))
    | with_reducible refine xTwo_intro ?_ ?_
    | (with_reducible refine xCond_split (fun hcd => ?_) (fun hcd => ?_) <;> (try (exfalso; clear hP hN; simp_all; done)) <;> (try (exfalso; simp at *; omega)))
    | with_reducible refine WP.block ?_
    | (with_reducible ((first | refine WP.skip ?_ | refine WP.exit ?_ | refine WP.ret ?_); simp)))
  all_goals (simp_all [colB])
set_option maxRecDepth 10000 in
set_option maxHeartbeats 8000000 in
theorem d133 (t : Tr) (hv : validT t = true) : DetH Try.prog 133 [.pv (encT t)] [] [] (.pv (.sl ((boxesL t).map iv))) := by
  have hs := valid_size hv
  obtain ⟨z1, z2, z3, z4, z5⟩ := sizeOk_iff.1 hs
  have hl : t.cells.length ≤ 9223372036854775807 := by omega
  have hin := init_row z1
  refine detP_of Try.func133 rfl (by kernel_rfl) (by simp [Try.f133]) rfl ?_
  intro C hP hN
  simp only [Try.f133] at hN ⊢
  repeat' (first
    | with_reducible refine WP.seq ?_
    | (with_reducible ((first | refine WP.region (hn := []) ?_ | refine WP.cond' ?_); simp -implicitDefEqProofs (maxSteps := 2000000) [hP, hN, hin, show (24 : Int) * t.cells.length ≤ 281474976710656 by omega, show (t.cells.length : Int) ≤ 9223372036854775807 by omega, show 0 < t.cells.length by omega]))
    | (with_reducible ((first | refine WP.draw (hn := []) (by rw [hP]; kernel_rfl) (by kernel_rfl) ?_); simp -implicitDefEqProofs (maxSteps := 2000000) [hP, hN, hin, show (24 : Int) * t.cells.length ≤ 281474976710656 by omega, show (t.cells.length : Int) ≤ 9223372036854775807 by omega, show 0 < t.cells.length by omega]; (try refine ⟨by kernel_rfl, ?_⟩)))
    | (with_reducible refine xB_split (by simp [hin, show (24 : Int) * t.cells.length ≤ 281474976710656 by omega, show (t.cells.length : Int) ≤ 9223372036854775807 by omega, show 0 < t.cells.length by omega]) (fun hgd => ?_) (fun hgd => ?_) <;> first | (exfalso; simp at hgd; done) | (exfalso; simp at hgd; omega) | simp -implicitDefEqProofs (maxSteps := 2000000) [hP, hN, hin, show (24 : Int) * t.cells.length ≤ 281474976710656 by omega, show (t.cells.length : Int) ≤ 9223372036854775807 by omega, show 0 < t.cells.length by omega])
    | (with_reducible refine yB_split (by simp [hin, show (24 : Int) * t.cells.length ≤ 281474976710656 by omega, show (t.cells.length : Int) ≤ 9223372036854775807 by omega, show 0 < t.cells.length by omega]) (fun hgd => ?_) (fun hgd => ?_) <;> first | (exfalso; simp at hgd; done) | (exfalso; simp at hgd; omega) | (simp -implicitDefEqProofs (maxSteps := 2000000) [hP, hN, hin, show (24 : Int) * t.cells.length ≤ 281474976710656 by omega, show (t.cells.length : Int) ≤ 9223372036854775807 by omega, show 0 < t.cells.length by omega] <;> (try refine ⟨by kernel_rfl, ?_⟩)))
    | with_reducible refine xTwo_intro ?_ ?_
    | (with_reducible refine xCond_split (fun hcd => ?_) (fun hcd => ?_) <;> (try (exfalso; clear hP hN; simp_all; done)) <;> (try (exfalso; simp at *; omega)))
    | with_reducible refine WP.block ?_
    | (with_reducible ((first | refine WP.skip ?_ | refine WP.exit ?_ | refine WP.ret ?_); simp [hin, show (24 : Int) * t.cells.length ≤ 281474976710656 by omega, show (t.cells.length : Int) ≤ 9223372036854775807 by omega, show 0 < t.cells.length by omega])))
  refine WP.loopN [5] t.cells.length (fun i st => ∃ L, BInv t i L ∧ st.t 3 = .arr 9 t.cells.length ∧ st.t 15 = .pv (.sl (t.cells.map encC)) ∧ st.t 16 = .pv (Z t.cells.length) ∧ st.t 17 = .pv (Z i) ∧ st.h 5 = none ∧ st.h 9 = some (.row 22 1 (L.map encO) 0)) (by exact ⟨bInit t, binv_init hs, by simp [hin]⟩) ?_
  rintro i st hi ⟨L, hB, g3, g15, g16, g17, hb5, hb9⟩
  have hLl := hB.bok.len
  by_cases hlt : i < t.cells.length
  · have hw := wr_succ hlt hl
    have hlL : i < L.length := by omega
    generalize hc : t.cells[i] = c at *
    have hci : t.cells[i]? = some c := by rw [List.getElem?_eq_getElem hlt, hc]
    have cl := d172 c
    cases hst : bStep t.cells.length i c L with
    | none =>
      have := binv_none hB hlt (by rw [hc]; exact hst)
      rw [validT, this] at hv; cases hv
    | some L' =>
      have hnx := binv_step hB hlt (by rw [hc]; exact hst)
      obtain ⟨b, hx, ⟨hlf, _, rfl⟩ | ⟨hlf, hi', hh, ha, hz, rfl⟩⟩ := bStep_some hst
      · rw [hlf] at cl
        repeat' (first
          | with_reducible refine WP.seq ?_
          | (with_reducible ((first | refine WP.region (hn := []) ?_ | refine xC_intro (cl) ?_ | refine WP.cond' ?_); simp -implicitDefEqProofs (maxSteps := 2000000) [hP, hN, g3, g15, g16, g17, hb5, hb9, hlt, hw, hci, hc, hLl]))
          | (with_reducible ((first | refine WP.draw (hn := []) (by rw [hP]; kernel_rfl) (by kernel_rfl) ?_ | refine yC_intro (cl) ?_); simp -implicitDefEqProofs (maxSteps := 2000000) [hP, hN, g3, g15, g16, g17, hb5, hb9, hlt, hw, hci, hc, hLl]; (try refine ⟨by kernel_rfl, ?_⟩)))
          | (with_reducible refine xB_split (by simp [g3, g15, g16, g17, hb5, hb9, hlt, hw, hci, hc, hLl]) (fun hgd => ?_) (fun hgd => ?_) <;> first | (exfalso; simp at hgd; done) | (exfalso; simp at hgd; omega) | simp -implicitDefEqProofs (maxSteps := 2000000) [hP, hN, g3, g15, g16, g17, hb5, hb9, hlt, hw, hci, hc, hLl])
          | (with_reducible refine yB_split (by simp [g3, g15, g16, g17, hb5, hb9, hlt, hw, hci, hc, hLl]) (fun hgd => ?_) (fun hgd => ?_) <;> first | (exfalso; simp at hgd; done) | (exfalso; simp at hgd; omega) | (simp -implicitDefEqProofs (maxSteps := 2000000) [hP, hN, g3, g15, g16, g17, hb5, hb9, hlt, hw, hci, hc, hLl] <;> (try refine ⟨by kernel_rfl, ?_⟩)))
          | with_reducible refine xTwo_intro ?_ ?_
          | (with_reducible refine xCond_split (fun hcd => ?_) (fun hcd => ?_) <;> (try (exfalso; clear hP hN; simp_all; done)) <;> (try (exfalso; simp at *; omega)))
          | with_reducible refine WP.block ?_
          | (with_reducible ((first | refine WP.skip ?_ | refine WP.exit ?_ | refine WP.ret ?_); simp [g3, g15, g16, g17, hb5, hb9, hlt, hw, hci, hc, hLl])))
        all_goals exact ⟨L', hnx, rfl⟩
      · rw [hlf] at cl
        have hx' := get_of hx hlL
        obtain ⟨i1, i2, i3, i4, i5, i6⟩ := innerB_iff.1 hi'
        obtain ⟨hbl, hbv⟩ := hB.bok.ok i b hx
        have ch := d93 b c.joint (by omega)
        have k1 : c.low.toNat < t.cells.length := by omega
        have k2 : c.high.toNat < t.cells.length := by omega
        have k3 : 0 ≤ c.low := by omega
        have k4 : 0 ≤ c.high := by omega
        repeat' (first
          | with_reducible refine WP.seq ?_
          | (with_reducible ((first | refine WP.region (hn := []) ?_ | refine xC_intro (cl) ?_ | refine xC_intro (ch) ?_ | refine WP.cond' ?_); simp -implicitDefEqProofs (maxSteps := 2000000) [hP, hN, g3, g15, g16, g17, hb5, hb9, hlt, hw, hx, hx', encO_none, encO_some, hci, hc, hLl, k1, k2, k3, k4]))
          | (with_reducible ((first | refine WP.draw (hn := []) (by rw [hP]; kernel_rfl) (by kernel_rfl) ?_ | refine yC_intro (cl) ?_ | refine yC_intro (ch) ?_); simp -implicitDefEqProofs (maxSteps := 2000000) [hP, hN, g3, g15, g16, g17, hb5, hb9, hlt, hw, hx, hx', encO_none, encO_some, hci, hc, hLl, k1, k2, k3, k4]; (try refine ⟨by kernel_rfl, ?_⟩)))
          | (with_reducible refine xB_split (by simp [g3, g15, g16, g17, hb5, hb9, hlt, hw, hx, hx', encO_none, encO_some, hci, hc, hLl, k1, k2, k3, k4]) (fun hgd => ?_) (fun hgd => ?_) <;> first | (exfalso; simp at hgd; done) | (exfalso; simp at hgd; omega) | simp -implicitDefEqProofs (maxSteps := 2000000) [hP, hN, g3, g15, g16, g17, hb5, hb9, hlt, hw, hx, hx', encO_none, encO_some, hci, hc, hLl, k1, k2, k3, k4])
          | (with_reducible refine yB_split (by simp [g3, g15, g16, g17, hb5, hb9, hlt, hw, hx, hx', encO_none, encO_some, hci, hc, hLl, k1, k2, k3, k4]) (fun hgd => ?_) (fun hgd => ?_) <;> first | (exfalso; simp at hgd; done) | (exfalso; simp at hgd; omega) | (simp -implicitDefEqProofs (maxSteps := 2000000) [hP, hN, g3, g15, g16, g17, hb5, hb9, hlt, hw, hx, hx', encO_none, encO_some, hci, hc, hLl, k1, k2, k3, k4] <;> (try refine ⟨by kernel_rfl, ?_⟩)))
          | with_reducible refine xTwo_intro ?_ ?_
          | (with_reducible refine xCond_split (fun hcd => ?_) (fun hcd => ?_) <;> (try (exfalso; clear hP hN; simp_all; done)) <;> (try (exfalso; simp at *; omega)))
          | with_reducible refine WP.block ?_
          | (with_reducible ((first | refine WP.skip ?_ | refine WP.exit ?_ | refine WP.ret ?_); simp [g3, g15, g16, g17, hb5, hb9, hlt, hw, hx, hx', encO_none, encO_some, hci, hc, hLl, k1, k2, k3, k4])))
        all_goals exact ⟨_, hnx, set_row⟩
  · have hdn := binv_done hB hlt
    have hmap := encO_map hdn
    rw [← hmap]
    repeat' (first
      | with_reducible refine WP.seq ?_
      | (with_reducible ((first | refine WP.region (hn := []) ?_ | refine WP.cond' ?_); simp -implicitDefEqProofs (maxSteps := 2000000) [hP, hN, g3, g15, g16, g17, hb5, hb9, hlt, hLl]))
      | (with_reducible ((first | refine WP.draw (hn := []) (by rw [hP]; kernel_rfl) (by kernel_rfl) ?_); simp -implicitDefEqProofs (maxSteps := 2000000) [hP, hN, g3, g15, g16, g17, hb5, hb9, hlt, hLl]; (try refine ⟨by kernel_rfl, ?_⟩)))
      | (with_reducible refine xB_split (by simp [g3, g15, g16, g17, hb5, hb9, hlt, hLl]) (fun hgd => ?_) (fun hgd => ?_) <;> first | (exfalso; simp at hgd; done) | (exfalso; simp at hgd; omega) | simp -implicitDefEqProofs (maxSteps := 2000000) [hP, hN, g3, g15, g16, g17, hb5, hb9, hlt, hLl])
      | (with_reducible refine yB_split (by simp [g3, g15, g16, g17, hb5, hb9, hlt, hLl]) (fun hgd => ?_) (fun hgd => ?_) <;> first | (exfalso; simp at hgd; done) | (exfalso; simp at hgd; omega) | (simp -implicitDefEqProofs (maxSteps := 2000000) [hP, hN, g3, g15, g16, g17, hb5, hb9, hlt, hLl] <;> (try refine ⟨by kernel_rfl, ?_⟩)))
      | with_reducible refine xTwo_intro ?_ ?_
      | (with_reducible refine xCond_split (fun hcd => ?_) (fun hcd => ?_) <;> (try (exfalso; clear hP hN; simp_all; done)) <;> (try (exfalso; simp at *; omega)))
      | with_reducible refine WP.block ?_
      | (with_reducible ((first | refine WP.skip ?_ | refine WP.exit ?_ | refine WP.ret ?_); simp [g3, g15, g16, g17, hb5, hb9, hlt, hLl])))
abbrev encLand (bs : List Bx) (op : List Bool) : PV := .agg [.sl (bs.map iv), .sl (op.map B)]
def opU (t : Tr) (i : Nat) : List Bool := (t.cells.map opnB).take i ++ List.replicate (t.cells.length - i) false
theorem opU_len {t : Tr} {i : Nat} (h : i ≤ t.cells.length) : (opU t i).length = t.cells.length := by simp [opU]; omega
theorem opU_zero (t : Tr) : opU t 0 = List.replicate t.cells.length false := by simp [opU]
theorem opU_all (t : Tr) : opU t t.cells.length = t.cells.map opnB := by rw [opU, List.take_of_length_le (by simp)]; simp
theorem opU_step {t : Tr} {i : Nat} {c : Cel} (hlt : i < t.cells.length) (hci : t.cells[i]? = some c) : (opU t i).set i (opnB c) = opU t (i + 1) := by
  obtain ⟨m, hm⟩ : ∃ m, t.cells.length - i = m + 1 := ⟨t.cells.length - i - 1, by omega⟩
  have hm' : t.cells.length - (i + 1) = m := by omega
  have hl : ((t.cells.map opnB).take i).length = i := by simp; omega
  obtain ⟨_, e⟩ := List.getElem?_eq_some_iff.1 hci
  unfold opU
  rw [hm, hm', List.replicate_succ, List.set_append_right _ _ (by rw [hl]; exact Nat.le_refl _), hl, Nat.sub_self, List.set_cons_zero, List.take_succ_eq_append_getElem (by simpa using hlt)]
  simp [e]
set_option maxRecDepth 10000 in
set_option maxHeartbeats 8000000 in
theorem d130 (t : Tr) (hv : validT t = true) : DetH Try.prog 130 [.pv (encT t)] [] [] (.pv (encLand (boxesL t) (t.cells.map opnB))) := by
  have hs := valid_size hv
  obtain ⟨z1, z2, z3, z4, z5⟩ := sizeOk_iff.1 hs
  have cb := d133 t hv
  refine detP_of Try.func130 rfl (by kernel_rfl) (by simp [Try.f130]) rfl ?_
  intro C hP hN
  simp only [Try.f130] at hN ⊢
  repeat' (first
    | with_reducible refine WP.seq ?_
    | (with_reducible ((first | refine WP.region (hn := []) ?_ | refine xC_intro (cb) ?_ | refine WP.cond' ?_); simp -implicitDefEqProofs (maxSteps := 2000000) [hP, hN, show (1 : Int) * t.cells.length ≤ 281474976710656 by omega, show (t.cells.length : Int) ≤ 281474976710656 by omega, show (t.cells.length : Int) ≤ 9223372036854775807 by omega, show 0 < t.cells.length by omega]))
    | (with_reducible ((first | refine WP.draw (hn := []) (by rw [hP]; kernel_rfl) (by kernel_rfl) ?_ | refine yC_intro (cb) ?_); simp -implicitDefEqProofs (maxSteps := 2000000) [hP, hN, show (1 : Int) * t.cells.length ≤ 281474976710656 by omega, show (t.cells.length : Int) ≤ 281474976710656 by omega, show (t.cells.length : Int) ≤ 9223372036854775807 by omega, show 0 < t.cells.length by omega]; (try refine ⟨by kernel_rfl, ?_⟩)))
    | (with_reducible refine xB_split (by simp [show (1 : Int) * t.cells.length ≤ 281474976710656 by omega, show (t.cells.length : Int) ≤ 281474976710656 by omega, show (t.cells.length : Int) ≤ 9223372036854775807 by omega, show 0 < t.cells.length by omega]) (fun hgd => ?_) (fun hgd => ?_) <;> first | (exfalso; simp at hgd; done) | (exfalso; simp at hgd; omega) | simp -implicitDefEqProofs (maxSteps := 2000000) [hP, hN, show (1 : Int) * t.cells.length ≤ 281474976710656 by omega, show (t.cells.length : Int) ≤ 281474976710656 by omega, show (t.cells.length : Int) ≤ 9223372036854775807 by omega, show 0 < t.cells.length by omega])
    | (with_reducible refine yB_split (by simp [show (1 : Int) * t.cells.length ≤ 281474976710656 by omega, show (t.cells.length : Int) ≤ 281474976710656 by omega, show (t.cells.length : Int) ≤ 9223372036854775807 by omega, show 0 < t.cells.length by omega]) (fun hgd => ?_) (fun hgd => ?_) <;> first | (exfalso; simp at hgd; done) | (exfalso; simp at hgd; omega) | (simp -implicitDefEqProofs (maxSteps := 2000000) [hP, hN, show (1 : Int) * t.cells.length ≤ 281474976710656 by omega, show (t.cells.length : Int) ≤ 281474976710656 by omega, show (t.cells.length : Int) ≤ 9223372036854775807 by omega, show 0 < t.cells.length by omega] <;> (try refine ⟨by kernel_rfl, ?_⟩)))
    | with_reducible refine xTwo_intro ?_ ?_
    | (with_reducible refine xCond_split (fun hcd => ?_) (fun hcd => ?_) <;> (try (exfalso; clear hP hN; simp_all; done)) <;> (try (exfalso; simp at *; omega)))
    | with_reducible refine WP.block ?_
    | (with_reducible ((first | refine WP.skip ?_ | refine WP.exit ?_ | refine WP.ret ?_); simp [show (1 : Int) * t.cells.length ≤ 281474976710656 by omega, show (t.cells.length : Int) ≤ 281474976710656 by omega, show (t.cells.length : Int) ≤ 9223372036854775807 by omega, show 0 < t.cells.length by omega])))
  refine WP.loopN [5] t.cells.length (fun i st => st.t 2 = .ptr 2 0 ∧ st.t 3 = .ptr 3 0 ∧ st.t 14 = .pv (.sl (t.cells.map encC)) ∧ st.t 15 = .pv (Z t.cells.length) ∧ st.t 16 = .pv (Z i) ∧ st.h 5 = none ∧ st.h 3 = some (.box [.pv (.sl ((boxesL t).map iv)), .arr 11 t.cells.length] true false) ∧ st.h 2 = some (.box [.pv (.val (.slice none 0 0)), .pv (.val (.slice none 0 0))] true false) ∧ st.h 11 = some (.row 4 1 ((opU t i).map B) 0)) (by simp [opU_zero]) ?_
  rintro i st hi ⟨g2, g3, g14, g15, g16, hb5, hb3, hb2, hb11⟩
  have hUl := opU_len hi
  by_cases hlt : i < t.cells.length
  · have hw := wr_succ hlt (by omega)
    generalize hc : t.cells[i] = c at *
    have hci : t.cells[i]? = some c := by rw [List.getElem?_eq_getElem hlt, hc]
    have cl := d172 c
    have cc := d134 c
    have hst := opU_step hlt hci
    have hop : opnB c = (leafB c && !(colB c)) := rfl
    generalize opU t i = U at *
    generalize opU t (i + 1) = U' at *
    have hiU : i < U.length := by omega
    cases hlf : leafB c with
    | false =>
      rw [hlf] at cl
      rw [hlf, Bool.false_and] at hop
      rw [hop] at hst
      repeat' (first
        | with_reducible refine WP.seq ?_
        | (with_reducible ((first | refine WP.region (hn := []) ?_ | refine xC_intro (cl) ?_ | refine WP.cond' ?_); simp -implicitDefEqProofs (maxSteps := 2000000) [hP, hN, g2, g3, g14, g15, g16, hb5, hb3, hb2, hb11, hlt, hw, hci, hc, hUl, hiU]))
        | (with_reducible ((first | refine WP.draw (hn := []) (by rw [hP]; kernel_rfl) (by kernel_rfl) ?_ | refine yC_intro (cl) ?_); simp -implicitDefEqProofs (maxSteps := 2000000) [hP, hN, g2, g3, g14, g15, g16, hb5, hb3, hb2, hb11, hlt, hw, hci, hc, hUl, hiU]; (try refine ⟨by kernel_rfl, ?_⟩)))
        | (with_reducible refine xB_split (by simp [g2, g3, g14, g15, g16, hb5, hb3, hb2, hb11, hlt, hw, hci, hc, hUl, hiU]) (fun hgd => ?_) (fun hgd => ?_) <;> first | (exfalso; simp at hgd; done) | (exfalso; simp at hgd; omega) | simp -implicitDefEqProofs (maxSteps := 2000000) [hP, hN, g2, g3, g14, g15, g16, hb5, hb3, hb2, hb11, hlt, hw, hci, hc, hUl, hiU])
        | (with_reducible refine yB_split (by simp [g2, g3, g14, g15, g16, hb5, hb3, hb2, hb11, hlt, hw, hci, hc, hUl, hiU]) (fun hgd => ?_) (fun hgd => ?_) <;> first | (exfalso; simp at hgd; done) | (exfalso; simp at hgd; omega) | (simp -implicitDefEqProofs (maxSteps := 2000000) [hP, hN, g2, g3, g14, g15, g16, hb5, hb3, hb2, hb11, hlt, hw, hci, hc, hUl, hiU] <;> (try refine ⟨by kernel_rfl, ?_⟩)))
        | with_reducible refine xTwo_intro ?_ ?_
        | (with_reducible refine xCond_split (fun hcd => ?_) (fun hcd => ?_) <;> (try (exfalso; clear hP hN; simp_all; done)) <;> (try (exfalso; simp at *; omega)))
        | with_reducible refine WP.block ?_
        | (with_reducible ((first | refine WP.skip ?_ | refine WP.exit ?_ | refine WP.ret ?_); simp [g2, g3, g14, g15, g16, hb5, hb3, hb2, hb11, hlt, hw, hci, hc, hUl, hiU])))
      all_goals simp [← hst, List.map_set]
    | true =>
      rw [hlf] at cl
      rw [hlf, Bool.true_and] at hop
      rw [hop] at hst
      generalize colB c = cb9 at *
      repeat' (first
        | with_reducible refine WP.seq ?_
        | (with_reducible ((first | refine WP.region (hn := []) ?_ | refine xC_intro (cl) ?_ | refine xC_intro (cc) ?_ | refine WP.cond' ?_); simp -implicitDefEqProofs (maxSteps := 2000000) [hP, hN, g2, g3, g14, g15, g16, hb5, hb3, hb2, hb11, hlt, hw, hci, hc, hUl, hiU]))
        | (with_reducible ((first | refine WP.draw (hn := []) (by rw [hP]; kernel_rfl) (by kernel_rfl) ?_ | refine yC_intro (cl) ?_ | refine yC_intro (cc) ?_); simp -implicitDefEqProofs (maxSteps := 2000000) [hP, hN, g2, g3, g14, g15, g16, hb5, hb3, hb2, hb11, hlt, hw, hci, hc, hUl, hiU]; (try refine ⟨by kernel_rfl, ?_⟩)))
        | (with_reducible refine xB_split (by simp [g2, g3, g14, g15, g16, hb5, hb3, hb2, hb11, hlt, hw, hci, hc, hUl, hiU]) (fun hgd => ?_) (fun hgd => ?_) <;> first | (exfalso; simp at hgd; done) | (exfalso; simp at hgd; omega) | simp -implicitDefEqProofs (maxSteps := 2000000) [hP, hN, g2, g3, g14, g15, g16, hb5, hb3, hb2, hb11, hlt, hw, hci, hc, hUl, hiU])
        | (with_reducible refine yB_split (by simp [g2, g3, g14, g15, g16, hb5, hb3, hb2, hb11, hlt, hw, hci, hc, hUl, hiU]) (fun hgd => ?_) (fun hgd => ?_) <;> first | (exfalso; simp at hgd; done) | (exfalso; simp at hgd; omega) | (simp -implicitDefEqProofs (maxSteps := 2000000) [hP, hN, g2, g3, g14, g15, g16, hb5, hb3, hb2, hb11, hlt, hw, hci, hc, hUl, hiU] <;> (try refine ⟨by kernel_rfl, ?_⟩)))
        | with_reducible refine xTwo_intro ?_ ?_
        | (with_reducible refine xCond_split (fun hcd => ?_) (fun hcd => ?_) <;> (try (exfalso; clear hP hN; simp_all; done)) <;> (try (exfalso; simp at *; omega)))
        | with_reducible refine WP.block ?_
        | (with_reducible ((first | refine WP.skip ?_ | refine WP.exit ?_ | refine WP.ret ?_); simp [g2, g3, g14, g15, g16, hb5, hb3, hb2, hb11, hlt, hw, hci, hc, hUl, hiU])))
      all_goals simp [← hst, List.map_set]
  · have hi' : i = t.cells.length := by omega
    subst hi'
    rw [opU_all] at hb11
    repeat' (first
      | with_reducible refine WP.seq ?_
      | (with_reducible ((first | refine WP.region (hn := []) ?_ | refine WP.cond' ?_); simp -implicitDefEqProofs (maxSteps := 2000000) [hP, hN, g2, g3, g14, g15, g16, hb5, hb3, hb2, hb11, hlt]))
      | (with_reducible ((first | refine WP.draw (hn := []) (by rw [hP]; kernel_rfl) (by kernel_rfl) ?_); simp -implicitDefEqProofs (maxSteps := 2000000) [hP, hN, g2, g3, g14, g15, g16, hb5, hb3, hb2, hb11, hlt]; (try refine ⟨by kernel_rfl, ?_⟩)))
      | (with_reducible refine xB_split (by simp [g2, g3, g14, g15, g16, hb5, hb3, hb2, hb11, hlt]) (fun hgd => ?_) (fun hgd => ?_) <;> first | (exfalso; simp at hgd; done) | (exfalso; simp at hgd; omega) | simp -implicitDefEqProofs (maxSteps := 2000000) [hP, hN, g2, g3, g14, g15, g16, hb5, hb3, hb2, hb11, hlt])
      | (with_reducible refine yB_split (by simp [g2, g3, g14, g15, g16, hb5, hb3, hb2, hb11, hlt]) (fun hgd => ?_) (fun hgd => ?_) <;> first | (exfalso; simp at hgd; done) | (exfalso; simp at hgd; omega) | (simp -implicitDefEqProofs (maxSteps := 2000000) [hP, hN, g2, g3, g14, g15, g16, hb5, hb3, hb2, hb11, hlt] <;> (try refine ⟨by kernel_rfl, ?_⟩)))
      | with_reducible refine xTwo_intro ?_ ?_
      | (with_reducible refine xCond_split (fun hcd => ?_) (fun hcd => ?_) <;> (try (exfalso; clear hP hN; simp_all; done)) <;> (try (exfalso; simp at *; omega)))
      | with_reducible refine WP.block ?_
      | (with_reducible ((first | refine WP.skip ?_ | refine WP.exit ?_ | refine WP.ret ?_); simp [g2, g3, g14, g15, g16, hb5, hb3, hb2, hb11, hlt])))
end Go.Ab
