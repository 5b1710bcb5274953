/- Tr5, Tr6: as one text. -/
import Derived.Test.YtagmnknighofeaaTr4
import Derived.Test.YtagmnknighofeaaTrA
set_option linter.all false
/- Contracts: valid trees, leaves, splitting, settling. -/
namespace Go.Ab
open Go.Proofs
abbrev zN (n : Nat) : PV := Z (n : Int)
abbrev ns (l : List Nat) : PV := .sl (l.map zN)
theorem d24 (t : Tr) (hl : t.cells.length ≤ 9223372036854775807) : DetH Try.prog 24 [.pv (encT t)] [] [] (.pv (B (validT t))) := by
  have cb := d77 t hl
  refine detP_of Try.func24 rfl (by kernel_rfl) (by simp [Try.f24]) rfl ?_
  intro C hP hN
  simp only [Try.f24] at hN ⊢
  repeat' (first
    | with_reducible refine WP.seq ?_
    | (with_reducible ((first | refine WP.region (hn := []) ?_ | refine xC_intro (cb) ?_ | refine WP.cond' ?_); simp -implicitDefEqProofs (maxSteps := 2000000) [hP, hN]))
    | (with_reducible ((first | refine WP.draw (hn := []) (by rw [hP]; kernel_rfl) (by kernel_rfl) ?_ | refine yC_intro (cb) ?_); simp -implicitDefEqProofs (maxSteps := 2000000) [hP, hN]; (try refine ⟨by kernel_rfl, ?_⟩)))
    | (with_reducible refine xB_split (by simp) (fun hgd => ?_) (fun hgd => ?_) <;> first | (exfalso; simp at hgd; done) | (exfalso; simp at hgd; omega) | simp -implicitDefEqProofs (maxSteps := 2000000) [hP, hN])
    | (with_reducible refine yB_split (by simp) (fun hgd => ?_) (fun hgd => ?_) <;> first | (exfalso; simp at hgd; done) | (exfalso; simp at hgd; omega) | (simp -implicitDefEqProofs (maxSteps := 2000000) [hP, hN] <;> (try refine ⟨by kernel_rfl, ?_⟩)))
    | with_reducible refine xTwo_intro ?_ ?_
    | (with_reducible refine xCond_split (fun hcd => ?_) (fun hcd => ?_) <;> (try (exfalso; clear hP hN; simp_all; done)) <;> (try (exfalso; simp at *; omega)))
    | with_reducible refine WP.block ?_
    | (with_reducible ((first | refine WP.skip ?_ | refine WP.exit ?_ | refine WP.ret ?_); simp)))
theorem d25 (t : Tr) (hl : t.cells.length ≤ 9223372036854775807) : DetH Try.prog 25 [.pv (encT t)] [] [] (.pv (B (validT t))) := by
  have cb := d52 t hl
  refine detP_of Try.func25 rfl (by kernel_rfl) (by simp [Try.f25]) rfl ?_
  intro C hP hN
  simp only [Try.f25] at hN ⊢
  repeat' (first
    | with_reducible refine WP.seq ?_
    | (with_reducible ((first | refine WP.region (hn := []) ?_ | refine xC_intro (cb) ?_ | refine WP.cond' ?_); simp -implicitDefEqProofs (maxSteps := 2000000) [hP, hN]))
    | (with_reducible ((first | refine WP.draw (hn := []) (by rw [hP]; kernel_rfl) (by kernel_rfl) ?_ | refine yC_intro (cb) ?_); simp -implicitDefEqProofs (maxSteps := 2000000) [hP, hN]; (try refine ⟨by kernel_rfl, ?_⟩)))
    | (with_reducible refine xB_split (by simp) (fun hgd => ?_) (fun hgd => ?_) <;> first | (exfalso; simp at hgd; done) | (exfalso; simp at hgd; omega) | simp -implicitDefEqProofs (maxSteps := 2000000) [hP, hN])
    | (with_reducible refine yB_split (by simp) (fun hgd => ?_) (fun hgd => ?_) <;> first | (exfalso; simp at hgd; done) | (exfalso; simp at hgd; omega) | (simp -implicitDefEqProofs (maxSteps := 2000000) [hP, hN] <;> (try refine ⟨by kernel_rfl, ?_⟩)))
    | with_reducible refine xTwo_intro ?_ ?_
    | (with_reducible refine xCond_split (fun hcd => ?_) (fun hcd => ?_) <;> (try (exfalso; clear hP hN; simp_all; done)) <;> (try (exfalso; simp at *; omega)))
    | with_reducible refine WP.block ?_
    | (with_reducible ((first | refine WP.skip ?_ | refine WP.exit ?_ | refine WP.ret ?_); simp)))
theorem d72 (r : List (Int × Int)) : DetH Try.prog 72 [.pv (iv r)] [] [] (.pv (.tup [encT (newT r), B (rootOk r)])) := by
  have cv : DetH Try.prog 25 [.pv (.agg [iv r, .sl [.agg [Z (-1), Z (-1), Z (-1), Z 0, .sl [], Z 0, .sl [], .sl []]]])] [] [] (.pv (B (rootOk r))) := by
    have := d25 ⟨r, [leafC zeroV]⟩ (by simp)
    rw [new_valid] at this; exact this
  cases h : rootOk r with
  | true =>
    rw [h] at cv
    refine detP_of Try.func72 rfl (by kernel_rfl) (by simp [Try.f72]) rfl ?_
    intro C hP hN
    simp only [Try.f72] at hN ⊢
    repeat' (first
      | with_reducible refine WP.seq ?_
      | (with_reducible ((first | refine WP.region (hn := []) ?_ | refine xC_intro (cv) ?_ | refine WP.cond' ?_); simp -implicitDefEqProofs (maxSteps := 2000000) [hP, hN]))
      | (with_reducible ((first | refine WP.draw (hn := []) (by rw [hP]; kernel_rfl) (by kernel_rfl) ?_ | refine yC_intro (cv) ?_); simp -implicitDefEqProofs (maxSteps := 2000000) [hP, hN]; (try refine ⟨by kernel_rfl, ?_⟩)))
      | (with_reducible refine xB_split (by simp) (fun hgd => ?_) (fun hgd => ?_) <;> first | (exfalso; simp at hgd; done) | (exfalso; simp at hgd; omega) | simp -implicitDefEqProofs (maxSteps := 2000000) [hP, hN])
      | (with_reducible refine yB_split (by simp) (fun hgd => ?_) (fun hgd => ?_) <;> first | (exfalso; simp at hgd; done) | (exfalso; simp at hgd; omega) | (simp -implicitDefEqProofs (maxSteps := 2000000) [hP, hN] <;> (try refine ⟨by kernel_rfl, ?_⟩)))
      | with_reducible refine xTwo_intro ?_ ?_
      | (with_reducible refine xCond_split (fun hcd => ?_) (fun hcd => ?_) <;> (try (exfalso; clear hP hN; simp_all; done)) <;> (try (exfalso; simp at *; omega)))
      | with_reducible refine WP.block ?_
      | (with_reducible ((first | refine WP.skip ?_ | refine WP.exit ?_ | refine WP.ret ?_); simp)))
    all_goals simp [newT, h, leafC, zeroV]
  | false =>
    rw [h] at cv
    refine detP_of Try.func72 rfl (by kernel_rfl) (by simp [Try.f72]) rfl ?_
    intro C hP hN
    simp only [Try.f72] at hN ⊢
    repeat' (first
      | with_reducible refine WP.seq ?_
      | (with_reducible ((first | refine WP.region (hn := []) ?_ | refine xC_intro (cv) ?_ | refine WP.cond' ?_); simp -implicitDefEqProofs (maxSteps := 2000000) [hP, hN]))
      | (with_reducible ((first | refine WP.draw (hn := []) (by rw [hP]; kernel_rfl) (by kernel_rfl) ?_ | refine yC_intro (cv) ?_); simp -implicitDefEqProofs (maxSteps := 2000000) [hP, hN]; (try refine ⟨by kernel_rfl, ?_⟩)))
      | (with_reducible refine xB_split (by simp) (fun hgd => ?_) (fun hgd => ?_) <;> first | (exfalso; simp at hgd; done) | (exfalso; simp at hgd; omega) | simp -implicitDefEqProofs (maxSteps := 2000000) [hP, hN])
      | (with_reducible refine yB_split (by simp) (fun hgd => ?_) (fun hgd => ?_) <;> first | (exfalso; simp at hgd; done) | (exfalso; simp at hgd; omega) | (simp -implicitDefEqProofs (maxSteps := 2000000) [hP, hN] <;> (try refine ⟨by kernel_rfl, ?_⟩)))
      | with_reducible refine xTwo_intro ?_ ?_
      | (with_reducible refine xCond_split (fun hcd => ?_) (fun hcd => ?_) <;> (try (exfalso; clear hP hN; simp_all; done)) <;> (try (exfalso; simp at *; omega)))
      | with_reducible refine WP.block ?_
      | (with_reducible ((first | refine WP.skip ?_ | refine WP.exit ?_ | refine WP.ret ?_); simp)))
    all_goals simp [newT, h]
theorem leaves_step {t : Tr} {i : Nat} {c : Cel} (hc : t.cells[i]? = some c) : leavesN t (i + 1) = if leafB c then leavesN t i ++ [i] else leavesN t i := by
  rw [leavesN_succ]; simp [leafN, hc]
set_option maxHeartbeats 4000000 in
theorem d100 (t : Tr) (hl : t.cells.length ≤ 9223372036854775807) : DetH Try.prog 100 [.pv (encT t)] [] [] (.pv (ns (leavesL t))) := by
  have cv := d25 t hl
  cases hv : validT t with
  | false =>
    have e : leavesL t = [] := by simp [leavesL, hv]
    rw [hv] at cv
    rw [e]
    refine detP_of Try.func100 rfl (by kernel_rfl) (by simp [Try.f100]) rfl ?_
    intro C hP hN
    simp only [Try.f100] at hN ⊢
    repeat' (first
      | with_reducible refine WP.seq ?_
      | (with_reducible ((first | refine WP.region (hn := []) ?_ | refine xC_intro (cv) ?_ | refine WP.cond' ?_); simp -implicitDefEqProofs (maxSteps := 2000000) [hP, hN]))
      | (with_reducible ((first | refine WP.draw (hn := []) (by rw [hP]; kernel_rfl) (by kernel_rfl) ?_ | refine yC_intro (cv) ?_); simp -implicitDefEqProofs (maxSteps := 2000000) [hP, hN]; (try refine ⟨by kernel_rfl, ?_⟩)))
      | (with_reducible refine xB_split (by simp) (fun hgd => ?_) (fun hgd => ?_) <;> first | (exfalso; simp at hgd; done) | (exfalso; simp at hgd; omega) | simp -implicitDefEqProofs (maxSteps := 2000000) [hP, hN])
      | (with_reducible refine yB_split (by simp) (fun hgd => ?_) (fun hgd => ?_) <;> first | (exfalso; simp at hgd; done) | (exfalso; simp at hgd; omega) | (simp -implicitDefEqProofs (maxSteps := 2000000) [hP, hN] <;> (try refine ⟨by kernel_rfl, ?_⟩)))
      | with_reducible refine xTwo_intro ?_ ?_
      | (with_reducible refine xCond_split (fun hcd => ?_) (fun hcd => ?_) <;> (try (exfalso; clear hP hN; simp_all; done)) <;> (try (exfalso; simp at *; omega)))
      | with_reducible refine WP.block ?_
      | (with_reducible ((first | refine WP.skip ?_ | refine WP.exit ?_ | refine WP.ret ?_); simp)))
  | true =>
    have hz := sizeOk_iff.1 (valid_size hv)
    have e : leavesL t = leavesN t t.cells.length := by simp [leavesL, hv]
    rw [hv] at cv
    rw [e]
    refine detP_of Try.func100 rfl (by kernel_rfl) (by simp [Try.f100]) rfl ?_
    intro C hP hN
    simp only [Try.f100] at hN ⊢
    repeat' (first
      | with_reducible refine WP.seq ?_
      | (with_reducible ((first | refine WP.region (hn := [3]) ?_ | refine xC_intro (cv) ?_ | refine WP.cond' ?_); simp -implicitDefEqProofs (maxSteps := 2000000) [hP, hN]))
      | (with_reducible ((first | refine WP.draw (hn := [3]) (by rw [hP]; kernel_rfl) (by kernel_rfl) ?_ | refine yC_intro (cv) ?_); simp -implicitDefEqProofs (maxSteps := 2000000) [hP, hN]; (try refine ⟨by kernel_rfl, ?_⟩)))
      | (with_reducible refine xB_split (by simp) (fun hgd => ?_) (fun hgd => ?_) <;> first | (exfalso; simp at hgd; done) | (exfalso; simp at hgd; omega) | simp -implicitDefEqProofs (maxSteps := 2000000) [hP, hN])
      | (with_reducible refine yB_split (by simp) (fun hgd => ?_) (fun hgd => ?_) <;> first | (exfalso; simp at hgd; done) | (exfalso; simp at hgd; omega) | (simp -implicitDefEqProofs (maxSteps := 2000000) [hP, hN] <;> (try refine ⟨by kernel_rfl, ?_⟩)))
      | with_reducible refine xTwo_intro ?_ ?_
      | (with_reducible refine xCond_split (fun hcd => ?_) (fun hcd => ?_) <;> (try (exfalso; clear hP hN; simp_all; done)) <;> (try (exfalso; simp at *; omega)))
      | with_reducible refine WP.block ?_
      | (with_reducible ((first | refine WP.skip ?_ | refine WP.exit ?_ | refine WP.ret ?_); simp)))
    refine WP.loopN [] t.cells.length (fun i st => st.t 1 = .ptr 1 0 ∧ st.t 3 = .arr 3 (leavesN t i).length ∧ st.t 4 = .pv (Z i) ∧ st.h 1 = some (.box [.pv (iv t.root), .pv (.sl (t.cells.map encC))] true false) ∧ st.h 3 = some (.row 3 1 ((leavesN t i).map zN) 0)) (by simp [leavesN]) ?_
    rintro i st hi ⟨g1, g3, g4, hb1, hb3⟩
    have hle := leavesN_len t i
    by_cases hlt : i < t.cells.length
    · have hw := wr_succ hlt hl
      generalize hc : t.cells[i] = c at *
      have hci : t.cells[i]? = some c := by rw [List.getElem?_eq_getElem hlt, hc]
      have cl := d116 c
      have hs := leaves_step hci
      cases hlf : leafB c with
      | true =>
        rw [hlf] at cl hs
        rw [if_pos rfl] at hs
        have hb : ((leavesN t i).length + 1) * 8 ≤ 140737488355328 := by omega
        have hb' : (leavesN t i).length + 1 ≤ 9223372036854775807 := by omega
        repeat' (first
          | with_reducible refine WP.seq ?_
          | (with_reducible ((first | refine WP.region (hn := []) ?_ | refine xC_intro (cl) ?_ | refine WP.cond' ?_); simp -implicitDefEqProofs (maxSteps := 2000000) [hP, hN, g1, g3, g4, hb1, hb3, hlt, hw, hci, hc, hb, hb']))
          | (with_reducible ((first | refine WP.draw (hn := []) (by rw [hP]; kernel_rfl) (by kernel_rfl) ?_ | refine yC_intro (cl) ?_); simp -implicitDefEqProofs (maxSteps := 2000000) [hP, hN, g1, g3, g4, hb1, hb3, hlt, hw, hci, hc, hb, hb']; (try refine ⟨by kernel_rfl, ?_⟩)))
          | (with_reducible refine xB_split (by simp [g1, g3, g4, hb1, hb3, hlt, hw, hci, hc, hb, hb']) (fun hgd => ?_) (fun hgd => ?_) <;> first | (exfalso; simp at hgd; done) | (exfalso; simp at hgd; omega) | simp -implicitDefEqProofs (maxSteps := 2000000) [hP, hN, g1, g3, g4, hb1, hb3, hlt, hw, hci, hc, hb, hb'])
          | (with_reducible refine yB_split (by simp [g1, g3, g4, hb1, hb3, hlt, hw, hci, hc, hb, hb']) (fun hgd => ?_) (fun hgd => ?_) <;> first | (exfalso; simp at hgd; done) | (exfalso; simp at hgd; omega) | (simp -implicitDefEqProofs (maxSteps := 2000000) [hP, hN, g1, g3, g4, hb1, hb3, hlt, hw, hci, hc, hb, hb'] <;> (try refine ⟨by kernel_rfl, ?_⟩)))
          | with_reducible refine xTwo_intro ?_ ?_
          | (with_reducible refine xCond_split (fun hcd => ?_) (fun hcd => ?_) <;> (try (exfalso; clear hP hN; simp_all; done)) <;> (try (exfalso; simp at *; omega)))
          | with_reducible refine WP.block ?_
          | (with_reducible ((first | refine WP.skip ?_ | refine WP.exit ?_ | refine WP.ret ?_); simp [g1, g3, g4, hb1, hb3, hlt, hw, hci, hc, hb, hb'])))
        all_goals simp [hs]
      | false =>
        rw [hlf] at cl hs
        rw [if_neg (by simp)] at hs
        repeat' (first
          | with_reducible refine WP.seq ?_
          | (with_reducible ((first | refine WP.region (hn := []) ?_ | refine xC_intro (cl) ?_ | refine WP.cond' ?_); simp -implicitDefEqProofs (maxSteps := 2000000) [hP, hN, g1, g3, g4, hb1, hb3, hlt, hw, hci, hc]))
          | (with_reducible ((first | refine WP.draw (hn := []) (by rw [hP]; kernel_rfl) (by kernel_rfl) ?_ | refine yC_intro (cl) ?_); simp -implicitDefEqProofs (maxSteps := 2000000) [hP, hN, g1, g3, g4, hb1, hb3, hlt, hw, hci, hc]; (try refine ⟨by kernel_rfl, ?_⟩)))
          | (with_reducible refine xB_split (by simp [g1, g3, g4, hb1, hb3, hlt, hw, hci, hc]) (fun hgd => ?_) (fun hgd => ?_) <;> first | (exfalso; simp at hgd; done) | (exfalso; simp at hgd; omega) | simp -implicitDefEqProofs (maxSteps := 2000000) [hP, hN, g1, g3, g4, hb1, hb3, hlt, hw, hci, hc])
          | (with_reducible refine yB_split (by simp [g1, g3, g4, hb1, hb3, hlt, hw, hci, hc]) (fun hgd => ?_) (fun hgd => ?_) <;> first | (exfalso; simp at hgd; done) | (exfalso; simp at hgd; omega) | (simp -implicitDefEqProofs (maxSteps := 2000000) [hP, hN, g1, g3, g4, hb1, hb3, hlt, hw, hci, hc] <;> (try refine ⟨by kernel_rfl, ?_⟩)))
          | with_reducible refine xTwo_intro ?_ ?_
          | (with_reducible refine xCond_split (fun hcd => ?_) (fun hcd => ?_) <;> (try (exfalso; clear hP hN; simp_all; done)) <;> (try (exfalso; simp at *; omega)))
          | with_reducible refine WP.block ?_
          | (with_reducible ((first | refine WP.skip ?_ | refine WP.exit ?_ | refine WP.ret ?_); simp [g1, g3, g4, hb1, hb3, hlt, hw, hci, hc])))
        all_goals simp [hs]
    · have hi' : i = t.cells.length := by omega
      subst hi'
      repeat' (first
        | with_reducible refine WP.seq ?_
        | (with_reducible ((first | refine WP.region (hn := []) ?_ | refine WP.cond' ?_); simp -implicitDefEqProofs (maxSteps := 2000000) [hP, hN, g1, g3, g4, hb1, hb3, hlt]))
        | (with_reducible ((first | refine WP.draw (hn := []) (by rw [hP]; kernel_rfl) (by kernel_rfl) ?_); simp -implicitDefEqProofs (maxSteps := 2000000) [hP, hN, g1, g3, g4, hb1, hb3, hlt]; (try refine ⟨by kernel_rfl, ?_⟩)))
        | (with_reducible refine xB_split (by simp [g1, g3, g4, hb1, hb3, hlt]) (fun hgd => ?_) (fun hgd => ?_) <;> first | (exfalso; simp at hgd; done) | (exfalso; simp at hgd; omega) | simp -implicitDefEqProofs (maxSteps := 2000000) [hP, hN, g1, g3, g4, hb1, hb3, hlt])
        | (with_reducible refine yB_split (by simp [g1, g3, g4, hb1, hb3, hlt]) (fun hgd => ?_) (fun hgd => ?_) <;> first | (exfalso; simp at hgd; done) | (exfalso; simp at hgd; omega) | (simp -implicitDefEqProofs (maxSteps := 2000000) [hP, hN, g1, g3, g4, hb1, hb3, hlt] <;> (try refine ⟨by kernel_rfl, ?_⟩)))
        | with_reducible refine xTwo_intro ?_ ?_
        | (with_reducible refine xCond_split (fun hcd => ?_) (fun hcd => ?_) <;> (try (exfalso; clear hP hN; simp_all; done)) <;> (try (exfalso; simp at *; omega)))
        | with_reducible refine WP.block ?_
        | (with_reducible ((first | refine WP.skip ?_ | refine WP.exit ?_ | refine WP.ret ?_); simp [g1, g3, g4, hb1, hb3, hlt])))
set_option maxHeartbeats 4000000 in
theorem d37 (k : Int) : DetH Try.prog 37 [.pv (Z k)] [] [] (.pv (encVd (labelV k))) := by
  by_cases h1 : k = 1
  · subst h1
    refine detP_of Try.func37 rfl (by kernel_rfl) (by simp [Try.f37]) rfl ?_
    intro C hP hN
    simp only [Try.f37] at hN ⊢
    repeat' (first
      | with_reducible refine WP.seq ?_
      | (with_reducible ((first | refine WP.region (hn := []) ?_ | refine WP.cond' ?_); simp -implicitDefEqProofs (maxSteps := 2000000) [hP, hN]))
      | (with_reducible ((first | refine WP.draw (hn := []) (by rw [hP]; kernel_rfl) (by kernel_rfl) ?_); simp -implicitDefEqProofs (maxSteps := 2000000) [hP, hN]; (try refine ⟨by kernel_rfl, ?_⟩)))
      | (with_reducible refine xB_split (by simp) (fun hgd => ?_) (fun hgd => ?_) <;> first | (exfalso; simp at hgd; done) | (exfalso; simp at hgd; omega) | simp -implicitDefEqProofs (maxSteps := 2000000) [hP, hN])
      | (with_reducible refine yB_split (by simp) (fun hgd => ?_) (fun hgd => ?_) <;> first | (exfalso; simp at hgd; done) | (exfalso; simp at hgd; omega) | (simp -implicitDefEqProofs (maxSteps := 2000000) [hP, hN] <;> (try refine ⟨by kernel_rfl, ?_⟩)))
      | with_reducible refine xTwo_intro ?_ ?_
      | (with_reducible refine xCond_split (fun hcd => ?_) (fun hcd => ?_) <;> (try (exfalso; clear hP hN; simp_all; done)) <;> (try (exfalso; simp at *; omega)))
      | with_reducible refine WP.block ?_
      | (with_reducible ((first | refine WP.skip ?_ | refine WP.exit ?_ | refine WP.ret ?_); simp)))
    all_goals simp [labelV]
  · by_cases h2 : k = 2
    · subst h2
      refine detP_of Try.func37 rfl (by kernel_rfl) (by simp [Try.f37]) rfl ?_
      intro C hP hN
      simp only [Try.f37] at hN ⊢
      repeat' (first
        | with_reducible refine WP.seq ?_
        | (with_reducible ((first | refine WP.region (hn := []) ?_ | refine WP.cond' ?_); simp -implicitDefEqProofs (maxSteps := 2000000) [hP, hN]))
        | (with_reducible ((first | refine WP.draw (hn := []) (by rw [hP]; kernel_rfl) (by kernel_rfl) ?_); simp -implicitDefEqProofs (maxSteps := 2000000) [hP, hN]; (try refine ⟨by kernel_rfl, ?_⟩)))
        | (with_reducible refine xB_split (by simp) (fun hgd => ?_) (fun hgd => ?_) <;> first | (exfalso; simp at hgd; done) | (exfalso; simp at hgd; omega) | simp -implicitDefEqProofs (maxSteps := 2000000) [hP, hN])
        | (with_reducible refine yB_split (by simp) (fun hgd => ?_) (fun hgd => ?_) <;> first | (exfalso; simp at hgd; done) | (exfalso; simp at hgd; omega) | (simp -implicitDefEqProofs (maxSteps := 2000000) [hP, hN] <;> (try refine ⟨by kernel_rfl, ?_⟩)))
        | with_reducible refine xTwo_intro ?_ ?_
        | (with_reducible refine xCond_split (fun hcd => ?_) (fun hcd => ?_) <;> (try (exfalso; clear hP hN; simp_all; done)) <;> (try (exfalso; simp at *; omega)))
        | with_reducible refine WP.block ?_
        | (with_reducible ((first | refine WP.skip ?_ | refine WP.exit ?_ | refine WP.ret ?_); simp)))
      all_goals simp [labelV]
    · by_cases h3 : k = 3
      · subst h3
        refine detP_of Try.func37 rfl (by kernel_rfl) (by simp [Try.f37]) rfl ?_
        intro C hP hN
        simp only [Try.f37] at hN ⊢
        repeat' (first
          | with_reducible refine WP.seq ?_
          | (with_reducible ((first | refine WP.region (hn := []) ?_ | refine WP.cond' ?_); simp -implicitDefEqProofs (maxSteps := 2000000) [hP, hN]))
          | (with_reducible ((first | refine WP.draw (hn := []) (by rw [hP]; kernel_rfl) (by kernel_rfl) ?_); simp -implicitDefEqProofs (maxSteps := 2000000) [hP, hN]; (try refine ⟨by kernel_rfl, ?_⟩)))
          | (with_reducible refine xB_split (by simp) (fun hgd => ?_) (fun hgd => ?_) <;> first | (exfalso; simp at hgd; done) | (exfalso; simp at hgd; omega) | simp -implicitDefEqProofs (maxSteps := 2000000) [hP, hN])
          | (with_reducible refine yB_split (by simp) (fun hgd => ?_) (fun hgd => ?_) <;> first | (exfalso; simp at hgd; done) | (exfalso; simp at hgd; omega) | (simp -implicitDefEqProofs (maxSteps := 2000000) [hP, hN] <;> (try refine ⟨by kernel_rfl, ?_⟩)))
          | with_reducible refine xTwo_intro ?_ ?_
          | (with_reducible refine xCond_split (fun hcd => ?_) (fun hcd => ?_) <;> (try (exfalso; clear hP hN; simp_all; done)) <;> (try (exfalso; simp at *; omega)))
          | with_reducible refine WP.block ?_
          | (with_reducible ((first | refine WP.skip ?_ | refine WP.exit ?_ | refine WP.ret ?_); simp)))
        all_goals simp [labelV]
      · skip
        refine detP_of Try.func37 rfl (by kernel_rfl) (by simp [Try.f37]) rfl ?_
        intro C hP hN
        simp only [Try.f37] at hN ⊢
        repeat' (first
          | with_reducible refine WP.seq ?_
          | (with_reducible ((first | refine WP.region (hn := []) ?_ | refine WP.cond' ?_); simp -implicitDefEqProofs (maxSteps := 2000000) [hP, hN, h1, h2, h3]))
          | (with_reducible ((first | refine WP.draw (hn := []) (by rw [hP]; kernel_rfl) (by kernel_rfl) ?_); simp -implicitDefEqProofs (maxSteps := 2000000) [hP, hN, h1, h2, h3]; (try refine ⟨by kernel_rfl, ?_⟩)))
          | (with_reducible refine xB_split (by simp [h1, h2, h3]) (fun hgd => ?_) (fun hgd => ?_) <;> first | (exfalso; simp at hgd; done) | (exfalso; simp at hgd; omega) | simp -implicitDefEqProofs (maxSteps := 2000000) [hP, hN, h1, h2, h3])
          | (with_reducible refine yB_split (by simp [h1, h2, h3]) (fun hgd => ?_) (fun hgd => ?_) <;> first | (exfalso; simp at hgd; done) | (exfalso; simp at hgd; omega) | (simp -implicitDefEqProofs (maxSteps := 2000000) [hP, hN, h1, h2, h3] <;> (try refine ⟨by kernel_rfl, ?_⟩)))
          | with_reducible refine xTwo_intro ?_ ?_
          | (with_reducible refine xCond_split (fun hcd => ?_) (fun hcd => ?_) <;> (try (exfalso; clear hP hN; simp_all; done)) <;> (try (exfalso; simp at *; omega)))
          | with_reducible refine WP.block ?_
          | (with_reducible ((first | refine WP.skip ?_ | refine WP.exit ?_ | refine WP.ret ?_); simp [h1, h2, h3])))
        all_goals simp [labelV, h1, h2, h3, zeroV]
theorem splitT_no {t : Tr} {i j : Int} (h : splitOk t i j = false) : splitT t i j = t := by simp [splitT, h]
theorem settleT_no {t : Tr} {i : Int} {v : Verd} (h : settleOk t i v = false) : settleT t i v = t := by simp [settleT, h]
set_option maxRecDepth 10000 in
set_option maxHeartbeats 8000000 in
theorem d89 (t : Tr) (i j : Int) (hl : t.cells.length ≤ 9223372036854775807) : DetH Try.prog 89 [.pv (encT t), .pv (Z i), .pv (Z j)] [] [] (.pv (.tup [encT (splitT t i j), B (splitOk t i j)])) := by
  have cb := d52 t hl
  cases hv : validT t with
  | false =>
    have hno : splitOk t i j = false := by simp [splitOk, hv]
    rw [splitT_no hno, hno]
    rw [hv] at cb
    refine detP_of Try.func89 rfl (by kernel_rfl) (by simp [Try.f89]) rfl ?_
    intro C hP hN
    simp only [Try.f89] at hN ⊢
    repeat' (first
      | with_reducible refine WP.seq ?_
      | (with_reducible ((first | refine WP.region (hn := []) ?_ | refine xC_intro (cb) ?_ | refine WP.cond' ?_); simp -implicitDefEqProofs (maxSteps := 2000000) [hP, hN]))
      | (with_reducible ((first | refine WP.draw (hn := []) (by rw [hP]; kernel_rfl) (by kernel_rfl) ?_ | refine yC_intro (cb) ?_); simp -implicitDefEqProofs (maxSteps := 2000000) [hP, hN]; (try refine ⟨by kernel_rfl, ?_⟩)))
      | (with_reducible refine xB_split (by simp) (fun hgd => ?_) (fun hgd => ?_) <;> first | (exfalso; simp at hgd; done) | (exfalso; simp at hgd; omega) | simp -implicitDefEqProofs (maxSteps := 2000000) [hP, hN])
      | (with_reducible refine yB_split (by simp) (fun hgd => ?_) (fun hgd => ?_) <;> first | (exfalso; simp at hgd; done) | (exfalso; simp at hgd; omega) | (simp -implicitDefEqProofs (maxSteps := 2000000) [hP, hN] <;> (try refine ⟨by kernel_rfl, ?_⟩)))
      | with_reducible refine xTwo_intro ?_ ?_
      | (with_reducible refine xCond_split (fun hcd => ?_) (fun hcd => ?_) <;> (try (exfalso; clear hP hN; simp_all; done)) <;> (try (exfalso; simp at *; omega)))
      | with_reducible refine WP.block ?_
      | (with_reducible ((first | refine WP.skip ?_ | refine WP.exit ?_ | refine WP.ret ?_); simp)))
  | true =>
    rw [hv] at cb
    have hbl := boxesL_len hv
    have hz := sizeOk_iff.1 (valid_size hv)
    by_cases h1 : i < 0
    · have hno : splitOk t i j = false := by
        have : decide (0 ≤ i) = false := by simp; omega
        simp [splitOk, this]
      rw [splitT_no hno, hno]
      refine detP_of Try.func89 rfl (by kernel_rfl) (by simp [Try.f89]) rfl ?_
      intro C hP hN
      simp only [Try.f89] at hN ⊢
      repeat' (first
        | with_reducible refine WP.seq ?_
        | (with_reducible ((first | refine WP.region (hn := []) ?_ | refine xC_intro (cb) ?_ | refine WP.cond' ?_); simp -implicitDefEqProofs (maxSteps := 2000000) [hP, hN, h1]))
        | (with_reducible ((first | refine WP.draw (hn := []) (by rw [hP]; kernel_rfl) (by kernel_rfl) ?_ | refine yC_intro (cb) ?_); simp -implicitDefEqProofs (maxSteps := 2000000) [hP, hN, h1]; (try refine ⟨by kernel_rfl, ?_⟩)))
        | (with_reducible refine xB_split (by simp [h1]) (fun hgd => ?_) (fun hgd => ?_) <;> first | (exfalso; simp at hgd; done) | (exfalso; simp at hgd; omega) | simp -implicitDefEqProofs (maxSteps := 2000000) [hP, hN, h1])
        | (with_reducible refine yB_split (by simp [h1]) (fun hgd => ?_) (fun hgd => ?_) <;> first | (exfalso; simp at hgd; done) | (exfalso; simp at hgd; omega) | (simp -implicitDefEqProofs (maxSteps := 2000000) [hP, hN, h1] <;> (try refine ⟨by kernel_rfl, ?_⟩)))
        | with_reducible refine xTwo_intro ?_ ?_
        | (with_reducible refine xCond_split (fun hcd => ?_) (fun hcd => ?_) <;> (try (exfalso; clear hP hN; simp_all; done)) <;> (try (exfalso; simp at *; omega)))
        | with_reducible refine WP.block ?_
        | (with_reducible ((first | refine WP.skip ?_ | refine WP.exit ?_ | refine WP.ret ?_); simp [h1])))
    · obtain ⟨k, rfl⟩ := Int.eq_ofNat_of_zero_le (show 0 ≤ i by omega)
      by_cases h2 : t.cells.length ≤ k
      · have hno : splitOk t k j = false := by
          have : decide ((k : Int) < t.cells.length) = false := by simp; omega
          simp only [splitOk, this, Bool.and_false, Bool.false_and]
        rw [splitT_no hno, hno]
        refine detP_of Try.func89 rfl (by kernel_rfl) (by simp [Try.f89]) rfl ?_
        intro C hP hN
        simp only [Try.f89] at hN ⊢
        repeat' (first
          | with_reducible refine WP.seq ?_
          | (with_reducible ((first | refine WP.region (hn := []) ?_ | refine xC_intro (cb) ?_ | refine WP.cond' ?_); simp -implicitDefEqProofs (maxSteps := 2000000) [hP, hN, h1, h2, hbl]))
          | (with_reducible ((first | refine WP.draw (hn := []) (by rw [hP]; kernel_rfl) (by kernel_rfl) ?_ | refine yC_intro (cb) ?_); simp -implicitDefEqProofs (maxSteps := 2000000) [hP, hN, h1, h2, hbl]; (try refine ⟨by kernel_rfl, ?_⟩)))
          | (with_reducible refine xB_split (by simp [h1, h2, hbl]) (fun hgd => ?_) (fun hgd => ?_) <;> first | (exfalso; simp at hgd; done) | (exfalso; simp at hgd; omega) | simp -implicitDefEqProofs (maxSteps := 2000000) [hP, hN, h1, h2, hbl])
          | (with_reducible refine yB_split (by simp [h1, h2, hbl]) (fun hgd => ?_) (fun hgd => ?_) <;> first | (exfalso; simp at hgd; done) | (exfalso; simp at hgd; omega) | (simp -implicitDefEqProofs (maxSteps := 2000000) [hP, hN, h1, h2, hbl] <;> (try refine ⟨by kernel_rfl, ?_⟩)))
          | with_reducible refine xTwo_intro ?_ ?_
          | (with_reducible refine xCond_split (fun hcd => ?_) (fun hcd => ?_) <;> (try (exfalso; clear hP hN; simp_all; done)) <;> (try (exfalso; simp at *; omega)))
          | with_reducible refine WP.block ?_
          | (with_reducible ((first | refine WP.skip ?_ | refine WP.exit ?_ | refine WP.ret ?_); simp [h1, h2, hbl])))
      · have hlt : k < t.cells.length := by omega
        have hlt' : k < (boxesL t).length := by omega
        generalize hc : t.cells[k] = c at *
        have hci : t.cells[k]? = some c := by rw [List.getElem?_eq_getElem hlt, hc]
        generalize hbk : (boxesL t)[k] = b at *
        have hbi : (boxesL t)[k]? = some b := by rw [List.getElem?_eq_getElem hlt', hbk]
        obtain ⟨hb1, hb2⟩ := boxesL_ok hbi
        have cl := d116 c
        have ch := d119 b j (by omega)
        have hw : IntKind.i64.wrap ((t.cells.length : Int) + 2) = (t.cells.length : Int) + 2 := wr_id (by omega) (by omega)
        have hw1 : IntKind.i64.wrap ((t.cells.length : Int) + 1) = (t.cells.length : Int) + 1 := wr_id (by omega) (by omega)
        cases hlf : leafB c with
        | false =>
          have hno : splitOk t k j = false := by simp [splitOk, leafN, hci, hlf]
          rw [splitT_no hno, hno]
          rw [hlf] at cl
          refine detP_of Try.func89 rfl (by kernel_rfl) (by simp [Try.f89]) rfl ?_
          intro C hP hN
          simp only [Try.f89] at hN ⊢
          repeat' (first
            | with_reducible refine WP.seq ?_
            | (with_reducible ((first | refine WP.region (hn := []) ?_ | refine xC_intro (cb) ?_ | refine xC_intro (cl) ?_ | refine WP.cond' ?_); simp -implicitDefEqProofs (maxSteps := 2000000) [hP, hN, h1, h2, hbl, hlt, hlt', hci, hc]))
            | (with_reducible ((first | refine WP.draw (hn := []) (by rw [hP]; kernel_rfl) (by kernel_rfl) ?_ | refine yC_intro (cb) ?_ | refine yC_intro (cl) ?_); simp -implicitDefEqProofs (maxSteps := 2000000) [hP, hN, h1, h2, hbl, hlt, hlt', hci, hc]; (try refine ⟨by kernel_rfl, ?_⟩)))
            | (with_reducible refine xB_split (by simp [h1, h2, hbl, hlt, hlt', hci, hc]) (fun hgd => ?_) (fun hgd => ?_) <;> first | (exfalso; simp at hgd; done) | (exfalso; simp at hgd; omega) | simp -implicitDefEqProofs (maxSteps := 2000000) [hP, hN, h1, h2, hbl, hlt, hlt', hci, hc])
            | (with_reducible refine yB_split (by simp [h1, h2, hbl, hlt, hlt', hci, hc]) (fun hgd => ?_) (fun hgd => ?_) <;> first | (exfalso; simp at hgd; done) | (exfalso; simp at hgd; omega) | (simp -implicitDefEqProofs (maxSteps := 2000000) [hP, hN, h1, h2, hbl, hlt, hlt', hci, hc] <;> (try refine ⟨by kernel_rfl, ?_⟩)))
            | with_reducible refine xTwo_intro ?_ ?_
            | (with_reducible refine xCond_split (fun hcd => ?_) (fun hcd => ?_) <;> (try (exfalso; clear hP hN; simp_all; done)) <;> (try (exfalso; simp at *; omega)))
            | with_reducible refine WP.block ?_
            | (with_reducible ((first | refine WP.skip ?_ | refine WP.exit ?_ | refine WP.ret ?_); simp [h1, h2, hbl, hlt, hlt', hci, hc])))
        | true =>
          rw [hlf] at cl
          by_cases h3 : 2048 < t.cells.length + 2
          · have hno : splitOk t k j = false := by
              have : decide (t.cells.length + 2 ≤ 2048) = false := by simp; omega
              simp only [splitOk, this, Bool.and_false, Bool.false_and]
            have h3' : (2048 : Int) < t.cells.length + 2 := by omega
            rw [splitT_no hno, hno]
            refine detP_of Try.func89 rfl (by kernel_rfl) (by simp [Try.f89]) rfl ?_
            intro C hP hN
            simp only [Try.f89] at hN ⊢
            repeat' (first
              | with_reducible refine WP.seq ?_
              | (with_reducible ((first | refine WP.region (hn := []) ?_ | refine xC_intro (cb) ?_ | refine xC_intro (cl) ?_ | refine WP.cond' ?_); simp -implicitDefEqProofs (maxSteps := 2000000) [hP, hN, h1, h2, hbl, hlt, hlt', hci, hc, hw, h3']))
              | (with_reducible ((first | refine WP.draw (hn := []) (by rw [hP]; kernel_rfl) (by kernel_rfl) ?_ | refine yC_intro (cb) ?_ | refine yC_intro (cl) ?_); simp -implicitDefEqProofs (maxSteps := 2000000) [hP, hN, h1, h2, hbl, hlt, hlt', hci, hc, hw, h3']; (try refine ⟨by kernel_rfl, ?_⟩)))
              | (with_reducible refine xB_split (by simp [h1, h2, hbl, hlt, hlt', hci, hc, hw, h3']) (fun hgd => ?_) (fun hgd => ?_) <;> first | (exfalso; simp at hgd; done) | (exfalso; simp at hgd; omega) | simp -implicitDefEqProofs (maxSteps := 2000000) [hP, hN, h1, h2, hbl, hlt, hlt', hci, hc, hw, h3'])
              | (with_reducible refine yB_split (by simp [h1, h2, hbl, hlt, hlt', hci, hc, hw, h3']) (fun hgd => ?_) (fun hgd => ?_) <;> first | (exfalso; simp at hgd; done) | (exfalso; simp at hgd; omega) | (simp -implicitDefEqProofs (maxSteps := 2000000) [hP, hN, h1, h2, hbl, hlt, hlt', hci, hc, hw, h3'] <;> (try refine ⟨by kernel_rfl, ?_⟩)))
              | with_reducible refine xTwo_intro ?_ ?_
              | (with_reducible refine xCond_split (fun hcd => ?_) (fun hcd => ?_) <;> (try (exfalso; clear hP hN; simp_all; done)) <;> (try (exfalso; simp at *; omega)))
              | with_reducible refine WP.block ?_
              | (with_reducible ((first | refine WP.skip ?_ | refine WP.exit ?_ | refine WP.ret ?_); simp [h1, h2, hbl, hlt, hlt', hci, hc, hw, h3'])))
          · have h3' : ¬ (2048 : Int) < t.cells.length + 2 := by omega
            cases hh : halveOk b j with
            | false =>
              have hno : splitOk t k j = false := by simp [splitOk, hbi, hh]
              rw [splitT_no hno, hno]
              rw [hh] at ch
              refine detP_of Try.func89 rfl (by kernel_rfl) (by simp [Try.f89]) rfl ?_
              intro C hP hN
              simp only [Try.f89] at hN ⊢
              repeat' (first
                | with_reducible refine WP.seq ?_
                | (with_reducible ((first | refine WP.region (hn := []) ?_ | refine xC_intro (cb) ?_ | refine xC_intro (cl) ?_ | refine xC_intro (ch) ?_ | refine WP.cond' ?_); simp -implicitDefEqProofs (maxSteps := 2000000) [hP, hN, h1, h2, hbl, hlt, hlt', hci, hc, hbk, hbi, hw, h3']))
                | (with_reducible ((first | refine WP.draw (hn := []) (by rw [hP]; kernel_rfl) (by kernel_rfl) ?_ | refine yC_intro (cb) ?_ | refine yC_intro (cl) ?_ | refine yC_intro (ch) ?_); simp -implicitDefEqProofs (maxSteps := 2000000) [hP, hN, h1, h2, hbl, hlt, hlt', hci, hc, hbk, hbi, hw, h3']; (try refine ⟨by kernel_rfl, ?_⟩)))
                | (with_reducible refine xB_split (by simp [h1, h2, hbl, hlt, hlt', hci, hc, hbk, hbi, hw, h3']) (fun hgd => ?_) (fun hgd => ?_) <;> first | (exfalso; simp at hgd; done) | (exfalso; simp at hgd; omega) | simp -implicitDefEqProofs (maxSteps := 2000000) [hP, hN, h1, h2, hbl, hlt, hlt', hci, hc, hbk, hbi, hw, h3'])
                | (with_reducible refine yB_split (by simp [h1, h2, hbl, hlt, hlt', hci, hc, hbk, hbi, hw, h3']) (fun hgd => ?_) (fun hgd => ?_) <;> first | (exfalso; simp at hgd; done) | (exfalso; simp at hgd; omega) | (simp -implicitDefEqProofs (maxSteps := 2000000) [hP, hN, h1, h2, hbl, hlt, hlt', hci, hc, hbk, hbi, hw, h3'] <;> (try refine ⟨by kernel_rfl, ?_⟩)))
                | with_reducible refine xTwo_intro ?_ ?_
                | (with_reducible refine xCond_split (fun hcd => ?_) (fun hcd => ?_) <;> (try (exfalso; clear hP hN; simp_all; done)) <;> (try (exfalso; simp at *; omega)))
                | with_reducible refine WP.block ?_
                | (with_reducible ((first | refine WP.skip ?_ | refine WP.exit ?_ | refine WP.ret ?_); simp [h1, h2, hbl, hlt, hlt', hci, hc, hbk, hbi, hw, h3'])))
            | true =>
              have hyes : splitOk t k j = true := by
                simp only [splitOk, hv, leafN, Int.toNat_natCast, hci, hlf, hbi, Option.getD_some, hh, Bool.and_true, Bool.true_and, Bool.and_eq_true, decide_eq_true_eq]
                omega
              have hT : splitT t k j = splitC t k j c.v := by simp [splitT, hyes, vAt, hci]
              rw [hT, hyes]
              rw [hh] at ch
              have hcl := leafB_eq hlf
              refine detP_of Try.func89 rfl (by kernel_rfl) (by simp [Try.f89]) rfl ?_
              intro C hP hN
              simp only [Try.f89] at hN ⊢
              repeat' (first
                | with_reducible refine WP.seq ?_
                | (with_reducible ((first | refine WP.region (hn := []) ?_ | refine xC_intro (cb) ?_ | refine xC_intro (cl) ?_ | refine xC_intro (ch) ?_ | refine WP.cond' ?_); simp -implicitDefEqProofs (maxSteps := 2000000) [hP, hN, h1, h2, hbl, hlt, hlt', hci, hc, hbk, hbi, hw, hw1, h3', show t.cells.length * 112 ≤ 140737488355328 by omega, show (t.cells.length + 2) * 112 ≤ 140737488355328 by omega, show t.cells.length + 2 ≤ 9223372036854775807 by omega, show t.cells.length ≤ 9223372036854775807 by omega]))
                | (with_reducible ((first | refine WP.draw (hn := []) (by rw [hP]; kernel_rfl) (by kernel_rfl) ?_ | refine yC_intro (cb) ?_ | refine yC_intro (cl) ?_ | refine yC_intro (ch) ?_); simp -implicitDefEqProofs (maxSteps := 2000000) [hP, hN, h1, h2, hbl, hlt, hlt', hci, hc, hbk, hbi, hw, hw1, h3', show t.cells.length * 112 ≤ 140737488355328 by omega, show (t.cells.length + 2) * 112 ≤ 140737488355328 by omega, show t.cells.length + 2 ≤ 9223372036854775807 by omega, show t.cells.length ≤ 9223372036854775807 by omega]; (try refine ⟨by kernel_rfl, ?_⟩)))
                | (with_reducible refine xB_split (by simp [h1, h2, hbl, hlt, hlt', hci, hc, hbk, hbi, hw, hw1, h3', show t.cells.length * 112 ≤ 140737488355328 by omega, show (t.cells.length + 2) * 112 ≤ 140737488355328 by omega, show t.cells.length + 2 ≤ 9223372036854775807 by omega, show t.cells.length ≤ 9223372036854775807 by omega]) (fun hgd => ?_) (fun hgd => ?_) <;> first | (exfalso; simp at hgd; done) | (exfalso; simp at hgd; omega) | simp -implicitDefEqProofs (maxSteps := 2000000) [hP, hN, h1, h2, hbl, hlt, hlt', hci, hc, hbk, hbi, hw, hw1, h3', show t.cells.length * 112 ≤ 140737488355328 by omega, show (t.cells.length + 2) * 112 ≤ 140737488355328 by omega, show t.cells.length + 2 ≤ 9223372036854775807 by omega, show t.cells.length ≤ 9223372036854775807 by omega])
                | (with_reducible refine yB_split (by simp [h1, h2, hbl, hlt, hlt', hci, hc, hbk, hbi, hw, hw1, h3', show t.cells.length * 112 ≤ 140737488355328 by omega, show (t.cells.length + 2) * 112 ≤ 140737488355328 by omega, show t.cells.length + 2 ≤ 9223372036854775807 by omega, show t.cells.length ≤ 9223372036854775807 by omega]) (fun hgd => ?_) (fun hgd => ?_) <;> first | (exfalso; simp at hgd; done) | (exfalso; simp at hgd; omega) | (simp -implicitDefEqProofs (maxSteps := 2000000) [hP, hN, h1, h2, hbl, hlt, hlt', hci, hc, hbk, hbi, hw, hw1, h3', show t.cells.length * 112 ≤ 140737488355328 by omega, show (t.cells.length + 2) * 112 ≤ 140737488355328 by omega, show t.cells.length + 2 ≤ 9223372036854775807 by omega, show t.cells.length ≤ 9223372036854775807 by omega] <;> (try refine ⟨by kernel_rfl, ?_⟩)))
                | with_reducible refine xTwo_intro ?_ ?_
                | (with_reducible refine xCond_split (fun hcd => ?_) (fun hcd => ?_) <;> (try (exfalso; clear hP hN; simp_all; done)) <;> (try (exfalso; simp at *; omega)))
                | with_reducible refine WP.block ?_
                | (with_reducible ((first | refine WP.skip ?_ | refine WP.exit ?_ | refine WP.ret ?_); simp [h1, h2, hbl, hlt, hlt', hci, hc, hbk, hbi, hw, hw1, h3', show t.cells.length * 112 ≤ 140737488355328 by omega, show (t.cells.length + 2) * 112 ≤ 140737488355328 by omega, show t.cells.length + 2 ≤ 9223372036854775807 by omega, show t.cells.length ≤ 9223372036854775807 by omega])))
              all_goals (rw [hcl]; simp [splitC, leafC, List.map_set, zeroV] <;> rfl)
set_option maxRecDepth 10000 in
set_option maxHeartbeats 8000000 in
theorem d90 (t : Tr) (i : Int) (v : Verd) (hl : t.cells.length ≤ 9223372036854775807) : DetH Try.prog 90 [.pv (encT t), .pv (Z i), .pv (encVd v)] [] [] (.pv (.tup [encT (settleT t i v), B (settleOk t i v)])) := by
  have cb := d25 t hl
  cases hv : validT t with
  | false =>
    have hno : settleOk t i v = false := by simp [settleOk, hv]
    rw [settleT_no hno, hno]
    rw [hv] at cb
    refine detP_of Try.func90 rfl (by kernel_rfl) (by simp [Try.f90]) rfl ?_
    intro C hP hN
    simp only [Try.f90] at hN ⊢
    repeat' (first
      | with_reducible refine WP.seq ?_
      | (with_reducible ((first | refine WP.region (hn := []) ?_ | refine xC_intro (cb) ?_ | refine WP.cond' ?_); simp -implicitDefEqProofs (maxSteps := 2000000) [hP, hN]))
      | (with_reducible ((first | refine WP.draw (hn := []) (by rw [hP]; kernel_rfl) (by kernel_rfl) ?_ | refine yC_intro (cb) ?_); simp -implicitDefEqProofs (maxSteps := 2000000) [hP, hN]; (try refine ⟨by kernel_rfl, ?_⟩)))
      | (with_reducible refine xB_split (by simp) (fun hgd => ?_) (fun hgd => ?_) <;> first | (exfalso; simp at hgd; done) | (exfalso; simp at hgd; omega) | simp -implicitDefEqProofs (maxSteps := 2000000) [hP, hN])
      | (with_reducible refine yB_split (by simp) (fun hgd => ?_) (fun hgd => ?_) <;> first | (exfalso; simp at hgd; done) | (exfalso; simp at hgd; omega) | (simp -implicitDefEqProofs (maxSteps := 2000000) [hP, hN] <;> (try refine ⟨by kernel_rfl, ?_⟩)))
      | with_reducible refine xTwo_intro ?_ ?_
      | (with_reducible refine xCond_split (fun hcd => ?_) (fun hcd => ?_) <;> (try (exfalso; clear hP hN; simp_all; done)) <;> (try (exfalso; simp at *; omega)))
      | with_reducible refine WP.block ?_
      | (with_reducible ((first | refine WP.skip ?_ | refine WP.exit ?_ | refine WP.ret ?_); simp)))
  | true =>
    rw [hv] at cb
    have hz := sizeOk_iff.1 (valid_size hv)
    by_cases h1 : i < 0
    · have hno : settleOk t i v = false := by
        have : decide (0 ≤ i) = false := by simp; omega
        simp only [settleOk, this, Bool.and_false, Bool.false_and]
      rw [settleT_no hno, hno]
      refine detP_of Try.func90 rfl (by kernel_rfl) (by simp [Try.f90]) rfl ?_
      intro C hP hN
      simp only [Try.f90] at hN ⊢
      repeat' (first
        | with_reducible refine WP.seq ?_
        | (with_reducible ((first | refine WP.region (hn := []) ?_ | refine xC_intro (cb) ?_ | refine WP.cond' ?_); simp -implicitDefEqProofs (maxSteps := 2000000) [hP, hN, h1]))
        | (with_reducible ((first | refine WP.draw (hn := []) (by rw [hP]; kernel_rfl) (by kernel_rfl) ?_ | refine yC_intro (cb) ?_); simp -implicitDefEqProofs (maxSteps := 2000000) [hP, hN, h1]; (try refine ⟨by kernel_rfl, ?_⟩)))
        | (with_reducible refine xB_split (by simp [h1]) (fun hgd => ?_) (fun hgd => ?_) <;> first | (exfalso; simp at hgd; done) | (exfalso; simp at hgd; omega) | simp -implicitDefEqProofs (maxSteps := 2000000) [hP, hN, h1])
        | (with_reducible refine yB_split (by simp [h1]) (fun hgd => ?_) (fun hgd => ?_) <;> first | (exfalso; simp at hgd; done) | (exfalso; simp at hgd; omega) | (simp -implicitDefEqProofs (maxSteps := 2000000) [hP, hN, h1] <;> (try refine ⟨by kernel_rfl, ?_⟩)))
        | with_reducible refine xTwo_intro ?_ ?_
        | (with_reducible refine xCond_split (fun hcd => ?_) (fun hcd => ?_) <;> (try (exfalso; clear hP hN; simp_all; done)) <;> (try (exfalso; simp at *; omega)))
        | with_reducible refine WP.block ?_
        | (with_reducible ((first | refine WP.skip ?_ | refine WP.exit ?_ | refine WP.ret ?_); simp [h1])))
    · obtain ⟨k, rfl⟩ := Int.eq_ofNat_of_zero_le (show 0 ≤ i by omega)
      by_cases h2 : t.cells.length ≤ k
      · have hno : settleOk t k v = false := by
          have : decide ((k : Int) < t.cells.length) = false := by simp; omega
          simp only [settleOk, this, Bool.and_false, Bool.false_and]
        rw [settleT_no hno, hno]
        refine detP_of Try.func90 rfl (by kernel_rfl) (by simp [Try.f90]) rfl ?_
        intro C hP hN
        simp only [Try.f90] at hN ⊢
        repeat' (first
          | with_reducible refine WP.seq ?_
          | (with_reducible ((first | refine WP.region (hn := []) ?_ | refine xC_intro (cb) ?_ | refine WP.cond' ?_); simp -implicitDefEqProofs (maxSteps := 2000000) [hP, hN, h1, h2]))
          | (with_reducible ((first | refine WP.draw (hn := []) (by rw [hP]; kernel_rfl) (by kernel_rfl) ?_ | refine yC_intro (cb) ?_); simp -implicitDefEqProofs (maxSteps := 2000000) [hP, hN, h1, h2]; (try refine ⟨by kernel_rfl, ?_⟩)))
          | (with_reducible refine xB_split (by simp [h1, h2]) (fun hgd => ?_) (fun hgd => ?_) <;> first | (exfalso; simp at hgd; done) | (exfalso; simp at hgd; omega) | simp -implicitDefEqProofs (maxSteps := 2000000) [hP, hN, h1, h2])
          | (with_reducible refine yB_split (by simp [h1, h2]) (fun hgd => ?_) (fun hgd => ?_) <;> first | (exfalso; simp at hgd; done) | (exfalso; simp at hgd; omega) | (simp -implicitDefEqProofs (maxSteps := 2000000) [hP, hN, h1, h2] <;> (try refine ⟨by kernel_rfl, ?_⟩)))
          | with_reducible refine xTwo_intro ?_ ?_
          | (with_reducible refine xCond_split (fun hcd => ?_) (fun hcd => ?_) <;> (try (exfalso; clear hP hN; simp_all; done)) <;> (try (exfalso; simp at *; omega)))
          | with_reducible refine WP.block ?_
          | (with_reducible ((first | refine WP.skip ?_ | refine WP.exit ?_ | refine WP.ret ?_); simp [h1, h2])))
      · have hlt : k < t.cells.length := by omega
        generalize hc : t.cells[k] = c at *
        have hci : t.cells[k]? = some c := by rw [List.getElem?_eq_getElem hlt, hc]
        have cl := d116 c
        have cf := d117 v
        cases hlf : leafB c with
        | false =>
          have hno : settleOk t k v = false := by simp [settleOk, leafN, hci, hlf]
          rw [settleT_no hno, hno]
          rw [hlf] at cl
          refine detP_of Try.func90 rfl (by kernel_rfl) (by simp [Try.f90]) rfl ?_
          intro C hP hN
          simp only [Try.f90] at hN ⊢
          repeat' (first
            | with_reducible refine WP.seq ?_
            | (with_reducible ((first | refine WP.region (hn := []) ?_ | refine xC_intro (cb) ?_ | refine xC_intro (cl) ?_ | refine WP.cond' ?_); simp -implicitDefEqProofs (maxSteps := 2000000) [hP, hN, h1, h2, hlt, hci, hc]))
            | (with_reducible ((first | refine WP.draw (hn := []) (by rw [hP]; kernel_rfl) (by kernel_rfl) ?_ | refine yC_intro (cb) ?_ | refine yC_intro (cl) ?_); simp -implicitDefEqProofs (maxSteps := 2000000) [hP, hN, h1, h2, hlt, hci, hc]; (try refine ⟨by kernel_rfl, ?_⟩)))
            | (with_reducible refine xB_split (by simp [h1, h2, hlt, hci, hc]) (fun hgd => ?_) (fun hgd => ?_) <;> first | (exfalso; simp at hgd; done) | (exfalso; simp at hgd; omega) | simp -implicitDefEqProofs (maxSteps := 2000000) [hP, hN, h1, h2, hlt, hci, hc])
            | (with_reducible refine yB_split (by simp [h1, h2, hlt, hci, hc]) (fun hgd => ?_) (fun hgd => ?_) <;> first | (exfalso; simp at hgd; done) | (exfalso; simp at hgd; omega) | (simp -implicitDefEqProofs (maxSteps := 2000000) [hP, hN, h1, h2, hlt, hci, hc] <;> (try refine ⟨by kernel_rfl, ?_⟩)))
            | with_reducible refine xTwo_intro ?_ ?_
            | (with_reducible refine xCond_split (fun hcd => ?_) (fun hcd => ?_) <;> (try (exfalso; clear hP hN; simp_all; done)) <;> (try (exfalso; simp at *; omega)))
            | with_reducible refine WP.block ?_
            | (with_reducible ((first | refine WP.skip ?_ | refine WP.exit ?_ | refine WP.ret ?_); simp [h1, h2, hlt, hci, hc])))
        | true =>
          rw [hlf] at cl
          by_cases h3 : c.v.kind = 0
          · have h3' : (c.v.kind != 0) = false := by simp [h3]
            cases hf : inFormB v with
            | false =>
              have hno : settleOk t k v = false := by simp [settleOk, hf]
              rw [settleT_no hno, hno]
              rw [hf] at cf
              refine detP_of Try.func90 rfl (by kernel_rfl) (by simp [Try.f90]) rfl ?_
              intro C hP hN
              simp only [Try.f90] at hN ⊢
              repeat' (first
                | with_reducible refine WP.seq ?_
                | (with_reducible ((first | refine WP.region (hn := []) ?_ | refine xC_intro (cb) ?_ | refine xC_intro (cl) ?_ | refine xC_intro (cf) ?_ | refine WP.cond' ?_); simp -implicitDefEqProofs (maxSteps := 2000000) [hP, hN, h1, h2, hlt, hci, hc, h3']))
                | (with_reducible ((first | refine WP.draw (hn := []) (by rw [hP]; kernel_rfl) (by kernel_rfl) ?_ | refine yC_intro (cb) ?_ | refine yC_intro (cl) ?_ | refine yC_intro (cf) ?_); simp -implicitDefEqProofs (maxSteps := 2000000) [hP, hN, h1, h2, hlt, hci, hc, h3']; (try refine ⟨by kernel_rfl, ?_⟩)))
                | (with_reducible refine xB_split (by simp [h1, h2, hlt, hci, hc, h3']) (fun hgd => ?_) (fun hgd => ?_) <;> first | (exfalso; simp at hgd; done) | (exfalso; simp at hgd; omega) | simp -implicitDefEqProofs (maxSteps := 2000000) [hP, hN, h1, h2, hlt, hci, hc, h3'])
                | (with_reducible refine yB_split (by simp [h1, h2, hlt, hci, hc, h3']) (fun hgd => ?_) (fun hgd => ?_) <;> first | (exfalso; simp at hgd; done) | (exfalso; simp at hgd; omega) | (simp -implicitDefEqProofs (maxSteps := 2000000) [hP, hN, h1, h2, hlt, hci, hc, h3'] <;> (try refine ⟨by kernel_rfl, ?_⟩)))
                | with_reducible refine xTwo_intro ?_ ?_
                | (with_reducible refine xCond_split (fun hcd => ?_) (fun hcd => ?_) <;> (try (exfalso; clear hP hN; simp_all; done)) <;> (try (exfalso; simp at *; omega)))
                | with_reducible refine WP.block ?_
                | (with_reducible ((first | refine WP.skip ?_ | refine WP.exit ?_ | refine WP.ret ?_); simp [h1, h2, hlt, hci, hc, h3'])))
            | true =>
              rw [hf] at cf
              have hyes : settleOk t k v = true := by
                simp [settleOk, hv, leafN, hci, hlf, hf, vAt, h3, hlt, hc]
              have hT : settleT t k v = settleC t k v := by simp [settleT, hyes]
              rw [hT, hyes]
              have hcl := leafB_eq hlf
              have q1 : c.joint = -1 := by rw [hcl]; rfl
              have q2 : c.low = -1 := by rw [hcl]; rfl
              have q3 : c.high = -1 := by rw [hcl]; rfl
              refine detP_of Try.func90 rfl (by kernel_rfl) (by simp [Try.f90]) rfl ?_
              intro C hP hN
              simp only [Try.f90] at hN ⊢
              repeat' (first
                | with_reducible refine WP.seq ?_
                | (with_reducible ((first | refine WP.region (hn := []) ?_ | refine xC_intro (cb) ?_ | refine xC_intro (cl) ?_ | refine xC_intro (cf) ?_ | refine WP.cond' ?_); simp -implicitDefEqProofs (maxSteps := 2000000) [hP, hN, h1, h2, hlt, hci, hc, h3', show t.cells.length * 112 ≤ 140737488355328 by omega, show t.cells.length ≤ 9223372036854775807 by omega]))
                | (with_reducible ((first | refine WP.draw (hn := []) (by rw [hP]; kernel_rfl) (by kernel_rfl) ?_ | refine yC_intro (cb) ?_ | refine yC_intro (cl) ?_ | refine yC_intro (cf) ?_); simp -implicitDefEqProofs (maxSteps := 2000000) [hP, hN, h1, h2, hlt, hci, hc, h3', show t.cells.length * 112 ≤ 140737488355328 by omega, show t.cells.length ≤ 9223372036854775807 by omega]; (try refine ⟨by kernel_rfl, ?_⟩)))
                | (with_reducible refine xB_split (by simp [h1, h2, hlt, hci, hc, h3', show t.cells.length * 112 ≤ 140737488355328 by omega, show t.cells.length ≤ 9223372036854775807 by omega]) (fun hgd => ?_) (fun hgd => ?_) <;> first | (exfalso; simp at hgd; done) | (exfalso; simp at hgd; omega) | simp -implicitDefEqProofs (maxSteps := 2000000) [hP, hN, h1, h2, hlt, hci, hc, h3', show t.cells.length * 112 ≤ 140737488355328 by omega, show t.cells.length ≤ 9223372036854775807 by omega])
                | (with_reducible refine yB_split (by simp [h1, h2, hlt, hci, hc, h3', show t.cells.length * 112 ≤ 140737488355328 by omega, show t.cells.length ≤ 9223372036854775807 by omega]) (fun hgd => ?_) (fun hgd => ?_) <;> first | (exfalso; simp at hgd; done) | (exfalso; simp at hgd; omega) | (simp -implicitDefEqProofs (maxSteps := 2000000) [hP, hN, h1, h2, hlt, hci, hc, h3', show t.cells.length * 112 ≤ 140737488355328 by omega, show t.cells.length ≤ 9223372036854775807 by omega] <;> (try refine ⟨by kernel_rfl, ?_⟩)))
                | with_reducible refine xTwo_intro ?_ ?_
                | (with_reducible refine xCond_split (fun hcd => ?_) (fun hcd => ?_) <;> (try (exfalso; clear hP hN; simp_all; done)) <;> (try (exfalso; simp at *; omega)))
                | with_reducible refine WP.block ?_
                | (with_reducible ((first | refine WP.skip ?_ | refine WP.exit ?_ | refine WP.ret ?_); simp [h1, h2, hlt, hci, hc, h3', show t.cells.length * 112 ≤ 140737488355328 by omega, show t.cells.length ≤ 9223372036854775807 by omega])))
              all_goals simp [settleC, leafC, List.map_set, q1, q2, q3]
          · have h3' : (c.v.kind != 0) = true := by simp [h3]
            have hno : settleOk t k v = false := by simp [settleOk, vAt, hci, h3]
            rw [settleT_no hno, hno]
            refine detP_of Try.func90 rfl (by kernel_rfl) (by simp [Try.f90]) rfl ?_
            intro C hP hN
            simp only [Try.f90] at hN ⊢
            repeat' (first
              | with_reducible refine WP.seq ?_
              | (with_reducible ((first | refine WP.region (hn := []) ?_ | refine xC_intro (cb) ?_ | refine xC_intro (cl) ?_ | refine xC_intro (cf) ?_ | refine WP.cond' ?_); simp -implicitDefEqProofs (maxSteps := 2000000) [hP, hN, h1, h2, hlt, hci, hc, h3']))
              | (with_reducible ((first | refine WP.draw (hn := []) (by rw [hP]; kernel_rfl) (by kernel_rfl) ?_ | refine yC_intro (cb) ?_ | refine yC_intro (cl) ?_ | refine yC_intro (cf) ?_); simp -implicitDefEqProofs (maxSteps := 2000000) [hP, hN, h1, h2, hlt, hci, hc, h3']; (try refine ⟨by kernel_rfl, ?_⟩)))
              | (with_reducible refine xB_split (by simp [h1, h2, hlt, hci, hc, h3']) (fun hgd => ?_) (fun hgd => ?_) <;> first | (exfalso; simp at hgd; done) | (exfalso; simp at hgd; omega) | simp -implicitDefEqProofs (maxSteps := 2000000) [hP, hN, h1, h2, hlt, hci, hc, h3'])
              | (with_reducible refine yB_split (by simp [h1, h2, hlt, hci, hc, h3']) (fun hgd => ?_) (fun hgd => ?_) <;> first | (exfalso; simp at hgd; done) | (exfalso; simp at hgd; omega) | (simp -implicitDefEqProofs (maxSteps := 2000000) [hP, hN, h1, h2, hlt, hci, hc, h3'] <;> (try refine ⟨by kernel_rfl, ?_⟩)))
              | with_reducible refine xTwo_intro ?_ ?_
              | (with_reducible refine xCond_split (fun hcd => ?_) (fun hcd => ?_) <;> (try (exfalso; clear hP hN; simp_all; done)) <;> (try (exfalso; simp at *; omega)))
              | with_reducible refine WP.block ?_
              | (with_reducible ((first | refine WP.skip ?_ | refine WP.exit ?_ | refine WP.ret ?_); simp [h1, h2, hlt, hci, hc, h3'])))
end Go.Ab

/- Contracts: made trees and configurations. -/
namespace Go.Ab
open Go.Proofs
set_option maxHeartbeats 4000000 in
theorem d73 (l : List Int) : DetH Try.prog 73 [.bx 0] [srcP l 0] [srcP l (rootS l (rootN l))] (.pv (iv (mkRoot l))) := by
  have hr := rootN_rng l
  have hw0 : IntKind.i64.wrap (1 + nx l 0 3) = (rootN l : Int) := by rw [hr.2.2]; exact wr_id (by omega) (by omega)
  have cn := d75 l 0 3 (by decide) (by decide)
  refine detH_of Try.func73 rfl (by kernel_rfl) (by simp [Try.f73]) rfl (by intro i j h; rcases i with _ | _ | _ | i <;> simp_all) ?_
  intro C hP hN
  simp only [Try.f73] at hN ⊢
  repeat' (first
    | with_reducible refine WP.seq ?_
    | (with_reducible ((first | refine WP.region (hn := [3]) ?_ | refine xC_intro (cn) ?_ | refine WP.cond' ?_); simp -implicitDefEqProofs (maxSteps := 2000000) [hP, hN, srcP, hw0]))
    | (with_reducible ((first | refine WP.draw (hn := [3]) (by rw [hP]; kernel_rfl) (by kernel_rfl) ?_ | refine yC_intro (cn) ?_); simp -implicitDefEqProofs (maxSteps := 2000000) [hP, hN, srcP, hw0]; (try refine ⟨by kernel_rfl, ?_⟩)))
    | (with_reducible refine xB_split (by simp [srcP, hw0]) (fun hgd => ?_) (fun hgd => ?_) <;> first | (exfalso; simp at hgd; done) | (exfalso; simp at hgd; omega) | simp -implicitDefEqProofs (maxSteps := 2000000) [hP, hN, srcP, hw0])
    | (with_reducible refine yB_split (by simp [srcP, hw0]) (fun hgd => ?_) (fun hgd => ?_) <;> first | (exfalso; simp at hgd; done) | (exfalso; simp at hgd; omega) | (simp -implicitDefEqProofs (maxSteps := 2000000) [hP, hN, srcP, hw0] <;> (try refine ⟨by kernel_rfl, ?_⟩)))
    | with_reducible refine xTwo_intro ?_ ?_
    | (with_reducible refine xCond_split (fun hcd => ?_) (fun hcd => ?_) <;> (try (exfalso; clear hP hN; simp_all; done)) <;> (try (exfalso; simp at *; omega)))
    | with_reducible refine WP.block ?_
    | (with_reducible ((first | refine WP.skip ?_ | refine WP.exit ?_ | refine WP.ret ?_); simp [srcP, hw0])))
  refine WP.loopN [] (rootN l) (fun i st => st.t 0 = .ptr (pk 0) 0 ∧ st.t 3 = .arr 3 i ∧ st.t 4 = .pv (Z ((rootN l : Int) - i)) ∧ st.h (pk 0) = some (.box [.pv (zs l), .pv (Z (rootS l i))] false false) ∧ st.h 3 = some (.row 46 2 (((mkRoot l).map encI).take i) 0)) (by simp [rootS]) ?_
  rintro i st hi ⟨g0, g3, g4, hb0, hb3⟩
  have hzT : min i (mkRoot l).length = i := by rw [mkRoot_len]; omega
  by_cases hlt : i < rootN l
  · have hlt' : (0 : Int) < (rootN l : Int) - i := by omega
    have hlt2 : (i : Int) < rootN l := by omega
    have hm := rootS_le l i
    have l1 := nn_le l (rootS l i)
    have cs : DetH Try.prog 145 [.bx 0, .pv (Z 40)] [srcP l (rootS l i)] [srcP l (nn l (rootS l i))] (.pv (Z (rootLo l (rootS l i)))) := d145 l (rootS l i) 40 (by decide) (by decide) (by omega)
    have cn := d75 l (nn l (rootS l i)) 60 (by decide) (by omega)
    have hs := mkRoot_step hlt
    have hw : IntKind.i64.wrap ((rootN l : Int) - i - 1) = (rootN l : Int) - ((i : Int) + 1) := by rw [show (rootN l : Int) - i - 1 = (rootN l : Int) - ((i : Int) + 1) by omega]; exact wr_id (by omega) (by omega)
    repeat' (first
      | with_reducible refine WP.seq ?_
      | (with_reducible ((first | refine WP.region (hn := []) ?_ | refine xC_intro (cs) ?_ | refine xC_intro (cn) ?_ | refine WP.cond' ?_); simp -implicitDefEqProofs (maxSteps := 2000000) [hP, hN, srcP, g0, g3, g4, hb0, hb3, hlt, hlt', hlt2, hw, hzT, hs, show (i + 1) * 16 ≤ 140737488355328 by omega, show i + 1 ≤ 9223372036854775807 by omega]))
      | (with_reducible ((first | refine WP.draw (hn := []) (by rw [hP]; kernel_rfl) (by kernel_rfl) ?_ | refine yC_intro (cs) ?_ | refine yC_intro (cn) ?_); simp -implicitDefEqProofs (maxSteps := 2000000) [hP, hN, srcP, g0, g3, g4, hb0, hb3, hlt, hlt', hlt2, hw, hzT, hs, show (i + 1) * 16 ≤ 140737488355328 by omega, show i + 1 ≤ 9223372036854775807 by omega]; (try refine ⟨by kernel_rfl, ?_⟩)))
      | (with_reducible refine xB_split (by simp [srcP, g0, g3, g4, hb0, hb3, hlt, hlt', hlt2, hw, hzT, hs, show (i + 1) * 16 ≤ 140737488355328 by omega, show i + 1 ≤ 9223372036854775807 by omega]) (fun hgd => ?_) (fun hgd => ?_) <;> first | (exfalso; simp at hgd; done) | (exfalso; simp at hgd; omega) | simp -implicitDefEqProofs (maxSteps := 2000000) [hP, hN, srcP, g0, g3, g4, hb0, hb3, hlt, hlt', hlt2, hw, hzT, hs, show (i + 1) * 16 ≤ 140737488355328 by omega, show i + 1 ≤ 9223372036854775807 by omega])
      | (with_reducible refine yB_split (by simp [srcP, g0, g3, g4, hb0, hb3, hlt, hlt', hlt2, hw, hzT, hs, show (i + 1) * 16 ≤ 140737488355328 by omega, show i + 1 ≤ 9223372036854775807 by omega]) (fun hgd => ?_) (fun hgd => ?_) <;> first | (exfalso; simp at hgd; done) | (exfalso; simp at hgd; omega) | (simp -implicitDefEqProofs (maxSteps := 2000000) [hP, hN, srcP, g0, g3, g4, hb0, hb3, hlt, hlt', hlt2, hw, hzT, hs, show (i + 1) * 16 ≤ 140737488355328 by omega, show i + 1 ≤ 9223372036854775807 by omega] <;> (try refine ⟨by kernel_rfl, ?_⟩)))
      | with_reducible refine xTwo_intro ?_ ?_
      | (with_reducible refine xCond_split (fun hcd => ?_) (fun hcd => ?_) <;> (try (exfalso; clear hP hN; simp_all; done)) <;> (try (exfalso; simp at *; omega)))
      | with_reducible refine WP.block ?_
      | (with_reducible ((first | refine WP.skip ?_ | refine WP.exit ?_ | refine WP.ret ?_); simp [srcP, g0, g3, g4, hb0, hb3, hlt, hlt', hlt2, hw, hzT, hs, show (i + 1) * 16 ≤ 140737488355328 by omega, show i + 1 ≤ 9223372036854775807 by omega])))
    all_goals exact ⟨rfl, hs⟩
  · have hi' : i = rootN l := by omega
    subst hi'
    have hlt' : ¬ (0 : Int) < (rootN l : Int) - (rootN l : Int) := by omega
    have htk : ((mkRoot l).map encI).take (rootN l) = (mkRoot l).map encI := List.take_of_length_le (by simp [mkRoot_len])
    repeat' (first
      | with_reducible refine WP.seq ?_
      | (with_reducible ((first | refine WP.region (hn := []) ?_ | refine WP.cond' ?_); simp -implicitDefEqProofs (maxSteps := 2000000) [hP, hN, g0, g3, g4, hb0, hb3, hlt', hzT, htk]))
      | (with_reducible ((first | refine WP.draw (hn := []) (by rw [hP]; kernel_rfl) (by kernel_rfl) ?_); simp -implicitDefEqProofs (maxSteps := 2000000) [hP, hN, g0, g3, g4, hb0, hb3, hlt', hzT, htk]; (try refine ⟨by kernel_rfl, ?_⟩)))
      | (with_reducible refine xB_split (by simp [g0, g3, g4, hb0, hb3, hlt', hzT, htk]) (fun hgd => ?_) (fun hgd => ?_) <;> first | (exfalso; simp at hgd; done) | (exfalso; simp at hgd; omega) | simp -implicitDefEqProofs (maxSteps := 2000000) [hP, hN, g0, g3, g4, hb0, hb3, hlt', hzT, htk])
      | (with_reducible refine yB_split (by simp [g0, g3, g4, hb0, hb3, hlt', hzT, htk]) (fun hgd => ?_) (fun hgd => ?_) <;> first | (exfalso; simp at hgd; done) | (exfalso; simp at hgd; omega) | (simp -implicitDefEqProofs (maxSteps := 2000000) [hP, hN, g0, g3, g4, hb0, hb3, hlt', hzT, htk] <;> (try refine ⟨by kernel_rfl, ?_⟩)))
      | with_reducible refine xTwo_intro ?_ ?_
      | (with_reducible refine xCond_split (fun hcd => ?_) (fun hcd => ?_) <;> (try (exfalso; clear hP hN; simp_all; done)) <;> (try (exfalso; simp at *; omega)))
      | with_reducible refine WP.block ?_
      | (with_reducible ((first | refine WP.skip ?_ | refine WP.exit ?_ | refine WP.ret ?_); simp [g0, g3, g4, hb0, hb3, hlt', hzT, htk])))
    all_goals exact mkRoot_len l
theorem leavesL_len (t : Tr) : (leavesL t).length ≤ t.cells.length := by
  cases h : validT t with
  | true => simp only [leavesL, h, if_true]; exact leavesN_len _ _
  | false => simp [leavesL, h]
theorem divI_get {t : Tr} (hv : validT t = true) (l : List Int) (m : Nat) (hc : t.cells.length ≤ 2048) : 0 ≤ nx l m (leavesL t).length ∧ (leavesL t)[(nx l m (leavesL t).length).toNat]? = some (divI t l m) ∧ (nx l m (leavesL t).length).toNat < (leavesL t).length := by
  have hp := leavesL_pos hv
  have hle := leavesL_len t
  have hr := nx_range l m (k := ((leavesL t).length : Int)) (by omega) (by omega)
  have hlt : (nx l m (leavesL t).length).toNat < (leavesL t).length := by omega
  exact ⟨hr.1, by simp [divI, List.getElem?_eq_getElem hlt], hlt⟩
set_option maxRecDepth 10000 in
set_option maxHeartbeats 8000000 in
theorem d74 (t : Tr) (l : List Int) (n : Nat) (hn : n ≤ 100) (hv : validT t = true) (hc : t.cells.length ≤ 100) : DetH Try.prog 74 [.pv (encT t), .pv (zs l), .pv (Z n)] [] [] (.pv (encT (divT t l n))) := by
  have cf := d71 l
  have hz := sizeOk_iff.1 (valid_size hv)
  refine detP_of Try.func74 rfl (by kernel_rfl) (by simp [Try.f74]) rfl ?_
  intro C hP hN
  simp only [Try.f74] at hN ⊢
  repeat' (first
    | with_reducible refine WP.seq ?_
    | (with_reducible ((first | refine WP.region (hn := []) ?_ | refine xC_intro (cf) ?_ | refine WP.cond' ?_); simp -implicitDefEqProofs (maxSteps := 2000000) [hP, hN, srcP]))
    | (with_reducible ((first | refine WP.draw (hn := []) (by rw [hP]; kernel_rfl) (by kernel_rfl) ?_ | refine yC_intro (cf) ?_); simp -implicitDefEqProofs (maxSteps := 2000000) [hP, hN, srcP]; (try refine ⟨by kernel_rfl, ?_⟩)))
    | (with_reducible refine xB_split (by simp [srcP]) (fun hgd => ?_) (fun hgd => ?_) <;> first | (exfalso; simp at hgd; done) | (exfalso; simp at hgd; omega) | simp -implicitDefEqProofs (maxSteps := 2000000) [hP, hN, srcP])
    | (with_reducible refine yB_split (by simp [srcP]) (fun hgd => ?_) (fun hgd => ?_) <;> first | (exfalso; simp at hgd; done) | (exfalso; simp at hgd; omega) | (simp -implicitDefEqProofs (maxSteps := 2000000) [hP, hN, srcP] <;> (try refine ⟨by kernel_rfl, ?_⟩)))
    | with_reducible refine xTwo_intro ?_ ?_
    | (with_reducible refine xCond_split (fun hcd => ?_) (fun hcd => ?_) <;> (try (exfalso; clear hP hN; simp_all; done)) <;> (try (exfalso; simp at *; omega)))
    | with_reducible refine WP.block ?_
    | (with_reducible ((first | refine WP.skip ?_ | refine WP.exit ?_ | refine WP.ret ?_); simp [srcP])))
  refine WP.loopN [] n (fun i st => st.t 2 = .pv (Z n) ∧ st.t 3 = .ptr 3 0 ∧ st.t 6 = .ptr 6 0 ∧ st.t 7 = .ptr 14 0 ∧ st.t 8 = .pv (Z i) ∧ st.h 3 = some (.box [.pv (iv (divS t l i).1.root), .pv (.sl ((divS t l i).1.cells.map encC))] true false) ∧ st.h 6 = some (.box [.pv (.val (.slice none 0 0)), .pv (.val (.slice none 0 0))] true false) ∧ st.h 14 = some (.box [.pv (zs l), .pv (Z (divS t l i).2)] true false)) (by simp [divS]) ?_
  rintro i st hi ⟨g2, g3, g6, g7, g8, hb3, hb6, hb14⟩
  obtain ⟨o1, o2, o3, o4⟩ := divS_ok l hv i
  by_cases hlt : i < n
  · have hw := wr_succ hlt (by omega)
    have hsu : divS t l (i + 1) = (splitT (divS t l i).1 (divI (divS t l i).1 l (divS t l i).2) (divJ (divS t l i).1 l (divS t l i).2), nn l (nn l (divS t l i).2)) := rfl
    generalize (divS t l i).1 = d at *
    generalize (divS t l i).2 = m at *
    obtain ⟨p1, p2, p3⟩ := divI_get o1 l m (by omega)
    have p2' := (List.getElem?_eq_some_iff.1 p2).2
    have l1 := nn_le l m
    have hlp := leavesL_pos o1
    have cl := d100 d (by omega)
    have c1 := d75 l m ((leavesL d).length : Int) (by omega) (by omega)
    have c2 := d75 l (nn l m) (d.root.length : Int) (by rw [o2]; omega) (by omega)
    have c3 := d89 d (divI d l m) (divJ d l m) (by omega)
    unfold divJ at c3 hsu
    repeat' (first
      | with_reducible refine WP.seq ?_
      | (with_reducible ((first | refine WP.region (hn := []) ?_ | refine xC_intro (cl) ?_ | refine xC_intro (c1) ?_ | refine xC_intro (c2) ?_ | refine xC_intro (c3) ?_ | refine WP.cond' ?_); simp -implicitDefEqProofs (maxSteps := 2000000) [hP, hN, srcP, g2, g3, g6, g7, g8, hb3, hb6, hb14, hlt, hw, p1, p2, p2', p3]))
      | (with_reducible ((first | refine WP.draw (hn := []) (by rw [hP]; kernel_rfl) (by kernel_rfl) ?_ | refine yC_intro (cl) ?_ | refine yC_intro (c1) ?_ | refine yC_intro (c2) ?_ | refine yC_intro (c3) ?_); simp -implicitDefEqProofs (maxSteps := 2000000) [hP, hN, srcP, g2, g3, g6, g7, g8, hb3, hb6, hb14, hlt, hw, p1, p2, p2', p3]; (try refine ⟨by kernel_rfl, ?_⟩)))
      | (with_reducible refine xB_split (by simp [srcP, g2, g3, g6, g7, g8, hb3, hb6, hb14, hlt, hw, p1, p2, p2', p3]) (fun hgd => ?_) (fun hgd => ?_) <;> first | (exfalso; simp at hgd; done) | (exfalso; simp at hgd; omega) | simp -implicitDefEqProofs (maxSteps := 2000000) [hP, hN, srcP, g2, g3, g6, g7, g8, hb3, hb6, hb14, hlt, hw, p1, p2, p2', p3])
      | (with_reducible refine yB_split (by simp [srcP, g2, g3, g6, g7, g8, hb3, hb6, hb14, hlt, hw, p1, p2, p2', p3]) (fun hgd => ?_) (fun hgd => ?_) <;> first | (exfalso; simp at hgd; done) | (exfalso; simp at hgd; omega) | (simp -implicitDefEqProofs (maxSteps := 2000000) [hP, hN, srcP, g2, g3, g6, g7, g8, hb3, hb6, hb14, hlt, hw, p1, p2, p2', p3] <;> (try refine ⟨by kernel_rfl, ?_⟩)))
      | with_reducible refine xTwo_intro ?_ ?_
      | (with_reducible refine xCond_split (fun hcd => ?_) (fun hcd => ?_) <;> (try (exfalso; clear hP hN; simp_all; done)) <;> (try (exfalso; simp at *; omega)))
      | with_reducible refine WP.block ?_
      | (with_reducible ((first | refine WP.skip ?_ | refine WP.exit ?_ | refine WP.ret ?_); simp [srcP, g2, g3, g6, g7, g8, hb3, hb6, hb14, hlt, hw, p1, p2, p2', p3])))
    all_goals simp [hsu]
  have hi' : i = n := by omega
  subst hi'
  have o5 : divT t l i = (setS (divS t l i).1 (divS t l i).2 (leavesL (divS t l i).1) l (leavesL (divS t l i).1).length).1 := rfl
  rw [o5]
  generalize (divS t l i).1 = d at *
  generalize (divS t l i).2 = m at *
  have cl := d100 d (by omega)
  have hle := leavesL_len d
  repeat' (first
    | with_reducible refine WP.seq ?_
    | (with_reducible ((first | refine WP.region (hn := []) ?_ | refine xC_intro (cl) ?_ | refine WP.cond' ?_); simp -implicitDefEqProofs (maxSteps := 2000000) [hP, hN, g2, g3, g6, g7, g8, hb3, hb6, hb14, hlt]))
    | (with_reducible ((first | refine WP.draw (hn := []) (by rw [hP]; kernel_rfl) (by kernel_rfl) ?_ | refine yC_intro (cl) ?_); simp -implicitDefEqProofs (maxSteps := 2000000) [hP, hN, g2, g3, g6, g7, g8, hb3, hb6, hb14, hlt]; (try refine ⟨by kernel_rfl, ?_⟩)))
    | (with_reducible refine xB_split (by simp [g2, g3, g6, g7, g8, hb3, hb6, hb14, hlt]) (fun hgd => ?_) (fun hgd => ?_) <;> first | (exfalso; simp at hgd; done) | (exfalso; simp at hgd; omega) | simp -implicitDefEqProofs (maxSteps := 2000000) [hP, hN, g2, g3, g6, g7, g8, hb3, hb6, hb14, hlt])
    | (with_reducible refine yB_split (by simp [g2, g3, g6, g7, g8, hb3, hb6, hb14, hlt]) (fun hgd => ?_) (fun hgd => ?_) <;> first | (exfalso; simp at hgd; done) | (exfalso; simp at hgd; omega) | (simp -implicitDefEqProofs (maxSteps := 2000000) [hP, hN, g2, g3, g6, g7, g8, hb3, hb6, hb14, hlt] <;> (try refine ⟨by kernel_rfl, ?_⟩)))
    | with_reducible refine xTwo_intro ?_ ?_
    | (with_reducible refine xCond_split (fun hcd => ?_) (fun hcd => ?_) <;> (try (exfalso; clear hP hN; simp_all; done)) <;> (try (exfalso; simp at *; omega)))
    | with_reducible refine WP.block ?_
    | (with_reducible ((first | refine WP.skip ?_ | refine WP.exit ?_ | refine WP.ret ?_); simp [g2, g3, g6, g7, g8, hb3, hb6, hb14, hlt])))
  generalize hall : leavesL d = all at *
  refine WP.loopN [] all.length (fun k st => st.t 3 = .ptr 3 0 ∧ st.t 6 = .ptr 6 0 ∧ st.t 7 = .ptr 14 0 ∧ st.t 11 = .pv (ns all) ∧ st.t 12 = .pv (Z k) ∧ st.h 3 = some (.box [.pv (iv (setS d m all l k).1.root), .pv (.sl ((setS d m all l k).1.cells.map encC))] true false) ∧ st.h 6 = some (.box [.pv (.val (.slice none 0 0)), .pv (.val (.slice none 0 0))] true false) ∧ st.h 14 = some (.box [.pv (zs l), .pv (Z (setS d m all l k).2)] true false)) (by simp [setS, g2, g3, g6, g7, g8, hb3, hb6, hb14]) ?_
  clear g2 g3 g6 g7 g8 hb3 hb6 hb14 st
  rintro k st hk ⟨g3, g6, g7, g11, g12, hb3, hb6, hb14⟩
  obtain ⟨q1, q2, q3, q4, q5⟩ := setS_ok m all l o1 k
  by_cases hkl : k < all.length
  · have hw := wr_succ hkl (by omega)
    have hsu : setS d m all l (k + 1) = (settleT (setS d m all l k).1 ((all[k]?.getD 0 : Nat) : Int) (labelV (nx l (setS d m all l k).2 5)), nn l (setS d m all l k).2) := rfl
    rw [List.getElem?_eq_getElem hkl, Option.getD_some] at hsu
    generalize (setS d m all l k).1 = u at *
    generalize (setS d m all l k).2 = r at *
    have c1 := d75 l r 5 (by decide) (by omega)
    have c2 := d37 (nx l r 5)
    have c3 := d90 u ((all[k] : Nat) : Int) (labelV (nx l r 5)) (by omega)
    repeat' (first
      | with_reducible refine WP.seq ?_
      | (with_reducible ((first | refine WP.region (hn := []) ?_ | refine xC_intro (c1) ?_ | refine xC_intro (c2) ?_ | refine xC_intro (c3) ?_ | refine WP.cond' ?_); simp -implicitDefEqProofs (maxSteps := 2000000) [hP, hN, srcP, g3, g6, g7, g11, g12, hb3, hb6, hb14, hkl, hw]))
      | (with_reducible ((first | refine WP.draw (hn := []) (by rw [hP]; kernel_rfl) (by kernel_rfl) ?_ | refine yC_intro (c1) ?_ | refine yC_intro (c2) ?_ | refine yC_intro (c3) ?_); simp -implicitDefEqProofs (maxSteps := 2000000) [hP, hN, srcP, g3, g6, g7, g11, g12, hb3, hb6, hb14, hkl, hw]; (try refine ⟨by kernel_rfl, ?_⟩)))
      | (with_reducible refine xB_split (by simp [srcP, g3, g6, g7, g11, g12, hb3, hb6, hb14, hkl, hw]) (fun hgd => ?_) (fun hgd => ?_) <;> first | (exfalso; simp at hgd; done) | (exfalso; simp at hgd; omega) | simp -implicitDefEqProofs (maxSteps := 2000000) [hP, hN, srcP, g3, g6, g7, g11, g12, hb3, hb6, hb14, hkl, hw])
      | (with_reducible refine yB_split (by simp [srcP, g3, g6, g7, g11, g12, hb3, hb6, hb14, hkl, hw]) (fun hgd => ?_) (fun hgd => ?_) <;> first | (exfalso; simp at hgd; done) | (exfalso; simp at hgd; omega) | (simp -implicitDefEqProofs (maxSteps := 2000000) [hP, hN, srcP, g3, g6, g7, g11, g12, hb3, hb6, hb14, hkl, hw] <;> (try refine ⟨by kernel_rfl, ?_⟩)))
      | with_reducible refine xTwo_intro ?_ ?_
      | (with_reducible refine xCond_split (fun hcd => ?_) (fun hcd => ?_) <;> (try (exfalso; clear hP hN; simp_all; done)) <;> (try (exfalso; simp at *; omega)))
      | with_reducible refine WP.block ?_
      | (with_reducible ((first | refine WP.skip ?_ | refine WP.exit ?_ | refine WP.ret ?_); simp [srcP, g3, g6, g7, g11, g12, hb3, hb6, hb14, hkl, hw])))
    all_goals simp [hsu]
  · have hk' : k = all.length := by omega
    subst hk'
    repeat' (first
      | with_reducible refine WP.seq ?_
      | (with_reducible ((first | refine WP.region (hn := []) ?_ | refine WP.cond' ?_); simp -implicitDefEqProofs (maxSteps := 2000000) [hP, hN, srcP, g3, g6, g7, g11, g12, hb3, hb6, hb14, hkl]))
      | (with_reducible ((first | refine WP.draw (hn := []) (by rw [hP]; kernel_rfl) (by kernel_rfl) ?_); simp -implicitDefEqProofs (maxSteps := 2000000) [hP, hN, srcP, g3, g6, g7, g11, g12, hb3, hb6, hb14, hkl]; (try refine ⟨by kernel_rfl, ?_⟩)))
      | (with_reducible refine xB_split (by simp [srcP, g3, g6, g7, g11, g12, hb3, hb6, hb14, hkl]) (fun hgd => ?_) (fun hgd => ?_) <;> first | (exfalso; simp at hgd; done) | (exfalso; simp at hgd; omega) | simp -implicitDefEqProofs (maxSteps := 2000000) [hP, hN, srcP, g3, g6, g7, g11, g12, hb3, hb6, hb14, hkl])
      | (with_reducible refine yB_split (by simp [srcP, g3, g6, g7, g11, g12, hb3, hb6, hb14, hkl]) (fun hgd => ?_) (fun hgd => ?_) <;> first | (exfalso; simp at hgd; done) | (exfalso; simp at hgd; omega) | (simp -implicitDefEqProofs (maxSteps := 2000000) [hP, hN, srcP, g3, g6, g7, g11, g12, hb3, hb6, hb14, hkl] <;> (try refine ⟨by kernel_rfl, ?_⟩)))
      | with_reducible refine xTwo_intro ?_ ?_
      | (with_reducible refine xCond_split (fun hcd => ?_) (fun hcd => ?_) <;> (try (exfalso; clear hP hN; simp_all; done)) <;> (try (exfalso; simp at *; omega)))
      | with_reducible refine WP.block ?_
      | (with_reducible ((first | refine WP.skip ?_ | refine WP.exit ?_ | refine WP.ret ?_); simp [srcP, g3, g6, g7, g11, g12, hb3, hb6, hb14, hkl])))
set_option maxHeartbeats 4000000 in
theorem d21 (l : List Int) : DetH Try.prog 21 [.pv (zs l)] [] [] (.pv (encT (mkTree l))) := by
  have cf := d71 l
  have cr := d73 l
  have cn := d72 (mkRoot l)
  have hro := mkRoot_ok l
  have e : newT (mkRoot l) = ⟨mkRoot l, [leafC zeroV]⟩ := by simp [newT, hro]
  rw [hro, e] at cn
  have hm := rootS_le l (rootN l)
  have hrn := rootN_rng l
  have c1 := d75 l (rootS l (rootN l)) 14 (by decide) (by omega)
  have ht := mkTimes_rng l
  have c2 := d74 ⟨mkRoot l, [leafC zeroV]⟩ l (mkTimes l).toNat (by omega) (by rw [new_valid]; exact hro) (by simp)
  have e2 : ((mkTimes l).toNat : Int) = nx l (rootS l (rootN l)) 14 := by rw [Int.toNat_of_nonneg ht.1]; rfl
  have e3 : divT ⟨mkRoot l, [leafC zeroV]⟩ l (mkTimes l).toNat = mkTree l := rfl
  rw [e2, e3] at c2
  clear e e2 e3
  generalize (⟨mkRoot l, [leafC zeroV]⟩ : Tr) = T at cn c2
  refine detP_of Try.func21 rfl (by kernel_rfl) (by simp [Try.f21]) rfl ?_
  intro C hP hN
  simp only [Try.f21] at hN ⊢
  repeat' (first
    | with_reducible refine WP.seq ?_
    | (with_reducible ((first | refine WP.region (hn := []) ?_ | refine xC_intro (cf) ?_ | refine xC_intro (cr) ?_ | refine xC_intro (cn) ?_ | refine xC_intro (c1) ?_ | refine xC_intro (c2) ?_ | refine WP.cond' ?_); simp -implicitDefEqProofs (maxSteps := 2000000) [hP, hN, srcP]))
    | (with_reducible ((first | refine WP.draw (hn := []) (by rw [hP]; kernel_rfl) (by kernel_rfl) ?_ | refine yC_intro (cf) ?_ | refine yC_intro (cr) ?_ | refine yC_intro (cn) ?_ | refine yC_intro (c1) ?_ | refine yC_intro (c2) ?_); simp -implicitDefEqProofs (maxSteps := 2000000) [hP, hN, srcP]; (try refine ⟨by kernel_rfl, ?_⟩)))
    | (with_reducible refine xB_split (by simp [srcP]) (fun hgd => ?_) (fun hgd => ?_) <;> first | (exfalso; simp at hgd; done) | (exfalso; simp at hgd; omega) | simp -implicitDefEqProofs (maxSteps := 2000000) [hP, hN, srcP])
    | (with_reducible refine yB_split (by simp [srcP]) (fun hgd => ?_) (fun hgd => ?_) <;> first | (exfalso; simp at hgd; done) | (exfalso; simp at hgd; omega) | (simp -implicitDefEqProofs (maxSteps := 2000000) [hP, hN, srcP] <;> (try refine ⟨by kernel_rfl, ?_⟩)))
    | with_reducible refine xTwo_intro ?_ ?_
    | (with_reducible refine xCond_split (fun hcd => ?_) (fun hcd => ?_) <;> (try (exfalso; clear hP hN; simp_all; done)) <;> (try (exfalso; simp at *; omega)))
    | with_reducible refine WP.block ?_
    | (with_reducible ((first | refine WP.skip ?_ | refine WP.exit ?_ | refine WP.ret ?_); simp [srcP])))
set_option maxRecDepth 10000 in
set_option maxHeartbeats 8000000 in
theorem d26 (b : Bx) (l : List Int) (hb : b.length ≤ 1000) (hv : allB vI b = true) : DetH Try.prog 26 [.pv (iv b), .pv (zs l)] [] [] (.pv (zs (inL b l))) := by
  have cf := d71 l
  have cm := d46 b (by omega)
  have hmid : middleL b = b.map midI := by simp [middleL, hv]
  rw [hmid] at cm
  refine detP_of Try.func26 rfl (by kernel_rfl) (by simp [Try.f26]) rfl ?_
  intro C hP hN
  simp only [Try.f26] at hN ⊢
  repeat' (first
    | with_reducible refine WP.seq ?_
    | (with_reducible ((first | refine WP.region (hn := [6]) ?_ | refine xC_intro (cf) ?_ | refine WP.cond' ?_); simp -implicitDefEqProofs (maxSteps := 2000000) [hP, hN, srcP]))
    | (with_reducible ((first | refine WP.draw (hn := [6]) (by rw [hP]; kernel_rfl) (by kernel_rfl) ?_ | refine yC_intro (cf) ?_); simp -implicitDefEqProofs (maxSteps := 2000000) [hP, hN, srcP]; (try refine ⟨by kernel_rfl, ?_⟩)))
    | (with_reducible refine xB_split (by simp [srcP]) (fun hgd => ?_) (fun hgd => ?_) <;> first | (exfalso; simp at hgd; done) | (exfalso; simp at hgd; omega) | simp -implicitDefEqProofs (maxSteps := 2000000) [hP, hN, srcP])
    | (with_reducible refine yB_split (by simp [srcP]) (fun hgd => ?_) (fun hgd => ?_) <;> first | (exfalso; simp at hgd; done) | (exfalso; simp at hgd; omega) | (simp -implicitDefEqProofs (maxSteps := 2000000) [hP, hN, srcP] <;> (try refine ⟨by kernel_rfl, ?_⟩)))
    | with_reducible refine xTwo_intro ?_ ?_
    | (with_reducible refine xCond_split (fun hcd => ?_) (fun hcd => ?_) <;> (try (exfalso; clear hP hN; simp_all; done)) <;> (try (exfalso; simp at *; omega)))
    | with_reducible refine WP.block ?_
    | (with_reducible ((first | refine WP.skip ?_ | refine WP.exit ?_ | refine WP.ret ?_); simp [srcP])))
  refine WP.loopN [] b.length (fun i st => st.t 0 = .pv (iv b) ∧ st.t 5 = .ptr 9 0 ∧ st.t 6 = .arr 6 i ∧ st.t 7 = .pv (Z i) ∧ st.h 9 = some (.box [.pv (zs l), .pv (Z (inS l i))] true false) ∧ st.h 6 = some (.row 2 1 (((inL b l).map Z).take i) 0) ∧ st.h 65 = none) (by simp [inS]) ?_
  rintro i st hi ⟨g0, g5, g6, g7, hb9, hb6, hb65⟩
  have hzT : min i (inL b l).length = i := by rw [inL_len]; omega
  by_cases hlt : i < b.length
  · have hw := wr_succ hlt (by omega)
    have hm := inS_le l i
    have l1 := nn_le l (inS l i)
    have hs := inL_step (l := l) hlt
    have hsn : inS l (i + 1) = inN l (inS l i) := rfl
    have hvx := validB_iff.1 (allV_iff.1 hv _ (List.getElem_mem hlt))
    have hr := nx_range l (inS l i) (k := 5) (by decide) (by decide)
    have hr2 := nx_range l (nn l (inS l i)) (k := b[i].2 - b[i].1 + 1) (by omega) (by omega)
    have c1 := d75 l (inS l i) 5 (by decide) (by omega)
    have c2 := d75 l (nn l (inS l i)) (b[i].2 - b[i].1 + 1) (by omega) (by omega)
    have w1 : IntKind.i64.wrap (b[i].2 - b[i].1) = b[i].2 - b[i].1 := wr_id (by omega) (by omega)
    have w2 : IntKind.i64.wrap (b[i].2 - b[i].1 + 1) = b[i].2 - b[i].1 + 1 := wr_id (by omega) (by omega)
    have w3 : IntKind.i64.wrap (b[i].1 + nx l (nn l (inS l i)) (b[i].2 - b[i].1 + 1)) = b[i].1 + nx l (nn l (inS l i)) (b[i].2 - b[i].1 + 1) := wr_id (by omega) (by omega)
    have hA : (i + 1) * 8 ≤ 140737488355328 := by omega
    have hA' : i + 1 ≤ 9223372036854775807 := by omega
    by_cases k0 : nx l (inS l i) 5 = 0
    · have e1 : inV l (inS l i) b[i] = b[i].1 := by simp [inV, inC, k0]
      have e2 : inN l (inS l i) = nn l (inS l i) := by simp [inN, inC, k0]
      rw [e1] at hs; rw [e2] at hsn; rw [k0] at c1
      repeat' (first
        | with_reducible refine WP.seq ?_
        | (with_reducible ((first | refine WP.region (hn := []) ?_ | refine xC_intro (c1) ?_ | refine WP.cond' ?_); simp -implicitDefEqProofs (maxSteps := 2000000) [hP, hN, srcP, g0, g5, g6, g7, hb9, hb6, hb65, hlt, hw, hzT, hA, hA']))
        | (with_reducible ((first | refine WP.draw (hn := []) (by rw [hP]; kernel_rfl) (by kernel_rfl) ?_ | refine yC_intro (c1) ?_); simp -implicitDefEqProofs (maxSteps := 2000000) [hP, hN, srcP, g0, g5, g6, g7, hb9, hb6, hb65, hlt, hw, hzT, hA, hA']; (try refine ⟨by kernel_rfl, ?_⟩)))
        | (with_reducible refine xB_split (by simp [srcP, g0, g5, g6, g7, hb9, hb6, hb65, hlt, hw, hzT, hA, hA']) (fun hgd => ?_) (fun hgd => ?_) <;> first | (exfalso; simp at hgd; done) | (exfalso; simp at hgd; omega) | simp -implicitDefEqProofs (maxSteps := 2000000) [hP, hN, srcP, g0, g5, g6, g7, hb9, hb6, hb65, hlt, hw, hzT, hA, hA'])
        | (with_reducible refine yB_split (by simp [srcP, g0, g5, g6, g7, hb9, hb6, hb65, hlt, hw, hzT, hA, hA']) (fun hgd => ?_) (fun hgd => ?_) <;> first | (exfalso; simp at hgd; done) | (exfalso; simp at hgd; omega) | (simp -implicitDefEqProofs (maxSteps := 2000000) [hP, hN, srcP, g0, g5, g6, g7, hb9, hb6, hb65, hlt, hw, hzT, hA, hA'] <;> (try refine ⟨by kernel_rfl, ?_⟩)))
        | with_reducible refine xTwo_intro ?_ ?_
        | (with_reducible refine xCond_split (fun hcd => ?_) (fun hcd => ?_) <;> (try (exfalso; clear hP hN; simp_all; done)) <;> (try (exfalso; simp at *; omega)))
        | with_reducible refine WP.block ?_
        | (with_reducible ((first | refine WP.skip ?_ | refine WP.exit ?_ | refine WP.ret ?_); simp [srcP, g0, g5, g6, g7, hb9, hb6, hb65, hlt, hw, hzT, hA, hA'])))
      all_goals exact ⟨by rw [hsn], hs⟩
    by_cases k1 : nx l (inS l i) 5 = 1
    · have e1 : inV l (inS l i) b[i] = b[i].2 := by simp [inV, inC, k1]
      have e2 : inN l (inS l i) = nn l (inS l i) := by simp [inN, inC, k1]
      rw [e1] at hs; rw [e2] at hsn; rw [k1] at c1
      repeat' (first
        | with_reducible refine WP.seq ?_
        | (with_reducible ((first | refine WP.region (hn := []) ?_ | refine xC_intro (c1) ?_ | refine WP.cond' ?_); simp -implicitDefEqProofs (maxSteps := 2000000) [hP, hN, srcP, g0, g5, g6, g7, hb9, hb6, hb65, hlt, hw, hzT, hA, hA']))
        | (with_reducible ((first | refine WP.draw (hn := []) (by rw [hP]; kernel_rfl) (by kernel_rfl) ?_ | refine yC_intro (c1) ?_); simp -implicitDefEqProofs (maxSteps := 2000000) [hP, hN, srcP, g0, g5, g6, g7, hb9, hb6, hb65, hlt, hw, hzT, hA, hA']; (try refine ⟨by kernel_rfl, ?_⟩)))
        | (with_reducible refine xB_split (by simp [srcP, g0, g5, g6, g7, hb9, hb6, hb65, hlt, hw, hzT, hA, hA']) (fun hgd => ?_) (fun hgd => ?_) <;> first | (exfalso; simp at hgd; done) | (exfalso; simp at hgd; omega) | simp -implicitDefEqProofs (maxSteps := 2000000) [hP, hN, srcP, g0, g5, g6, g7, hb9, hb6, hb65, hlt, hw, hzT, hA, hA'])
        | (with_reducible refine yB_split (by simp [srcP, g0, g5, g6, g7, hb9, hb6, hb65, hlt, hw, hzT, hA, hA']) (fun hgd => ?_) (fun hgd => ?_) <;> first | (exfalso; simp at hgd; done) | (exfalso; simp at hgd; omega) | (simp -implicitDefEqProofs (maxSteps := 2000000) [hP, hN, srcP, g0, g5, g6, g7, hb9, hb6, hb65, hlt, hw, hzT, hA, hA'] <;> (try refine ⟨by kernel_rfl, ?_⟩)))
        | with_reducible refine xTwo_intro ?_ ?_
        | (with_reducible refine xCond_split (fun hcd => ?_) (fun hcd => ?_) <;> (try (exfalso; clear hP hN; simp_all; done)) <;> (try (exfalso; simp at *; omega)))
        | with_reducible refine WP.block ?_
        | (with_reducible ((first | refine WP.skip ?_ | refine WP.exit ?_ | refine WP.ret ?_); simp [srcP, g0, g5, g6, g7, hb9, hb6, hb65, hlt, hw, hzT, hA, hA'])))
      all_goals exact ⟨by rw [hsn], hs⟩
    by_cases k2 : nx l (inS l i) 5 = 2
    · have e1 : inV l (inS l i) b[i] = midI b[i] := by simp [inV, inC, k2]
      have e2 : inN l (inS l i) = nn l (inS l i) := by simp [inN, inC, k2]
      rw [e1] at hs; rw [e2] at hsn; rw [k2] at c1
      repeat' (first
        | with_reducible refine WP.seq ?_
        | (with_reducible ((first | refine WP.region (hn := []) ?_ | refine xC_intro (c1) ?_ | refine xC_intro (cm) ?_ | refine WP.cond' ?_); simp -implicitDefEqProofs (maxSteps := 2000000) [hP, hN, srcP, g0, g5, g6, g7, hb9, hb6, hb65, hlt, hw, hzT, hA, hA']))
        | (with_reducible ((first | refine WP.draw (hn := []) (by rw [hP]; kernel_rfl) (by kernel_rfl) ?_ | refine yC_intro (c1) ?_ | refine yC_intro (cm) ?_); simp -implicitDefEqProofs (maxSteps := 2000000) [hP, hN, srcP, g0, g5, g6, g7, hb9, hb6, hb65, hlt, hw, hzT, hA, hA']; (try refine ⟨by kernel_rfl, ?_⟩)))
        | (with_reducible refine xB_split (by simp [srcP, g0, g5, g6, g7, hb9, hb6, hb65, hlt, hw, hzT, hA, hA']) (fun hgd => ?_) (fun hgd => ?_) <;> first | (exfalso; simp at hgd; done) | (exfalso; simp at hgd; omega) | simp -implicitDefEqProofs (maxSteps := 2000000) [hP, hN, srcP, g0, g5, g6, g7, hb9, hb6, hb65, hlt, hw, hzT, hA, hA'])
        | (with_reducible refine yB_split (by simp [srcP, g0, g5, g6, g7, hb9, hb6, hb65, hlt, hw, hzT, hA, hA']) (fun hgd => ?_) (fun hgd => ?_) <;> first | (exfalso; simp at hgd; done) | (exfalso; simp at hgd; omega) | (simp -implicitDefEqProofs (maxSteps := 2000000) [hP, hN, srcP, g0, g5, g6, g7, hb9, hb6, hb65, hlt, hw, hzT, hA, hA'] <;> (try refine ⟨by kernel_rfl, ?_⟩)))
        | with_reducible refine xTwo_intro ?_ ?_
        | (with_reducible refine xCond_split (fun hcd => ?_) (fun hcd => ?_) <;> (try (exfalso; clear hP hN; simp_all; done)) <;> (try (exfalso; simp at *; omega)))
        | with_reducible refine WP.block ?_
        | (with_reducible ((first | refine WP.skip ?_ | refine WP.exit ?_ | refine WP.ret ?_); simp [srcP, g0, g5, g6, g7, hb9, hb6, hb65, hlt, hw, hzT, hA, hA'])))
      all_goals exact ⟨by rw [hsn], hs⟩
    have e1 : inV l (inS l i) b[i] = b[i].1 + nx l (nn l (inS l i)) (b[i].2 - b[i].1 + 1) := by simp [inV, inC, k0, k1, k2]
    have e2 : inN l (inS l i) = nn l (nn l (inS l i)) := by simp [inN, inC, k0, k1, k2]
    have k0' : (nx l (inS l i) 5 == 0) = false := by simp [k0]
    have k1' : (nx l (inS l i) 5 == 1) = false := by simp [k1]
    have k2' : (nx l (inS l i) 5 == 2) = false := by simp [k2]
    rw [e1] at hs; rw [e2] at hsn
    repeat' (first
      | with_reducible refine WP.seq ?_
      | (with_reducible ((first | refine WP.region (hn := []) ?_ | refine xC_intro (c1) ?_ | refine xC_intro (c2) ?_ | refine WP.cond' ?_); simp -implicitDefEqProofs (maxSteps := 2000000) [hP, hN, srcP, g0, g5, g6, g7, hb9, hb6, hb65, hlt, hw, hzT, hA, hA', k0', k1', k2', w1, w2, w3]))
      | (with_reducible ((first | refine WP.draw (hn := []) (by rw [hP]; kernel_rfl) (by kernel_rfl) ?_ | refine yC_intro (c1) ?_ | refine yC_intro (c2) ?_); simp -implicitDefEqProofs (maxSteps := 2000000) [hP, hN, srcP, g0, g5, g6, g7, hb9, hb6, hb65, hlt, hw, hzT, hA, hA', k0', k1', k2', w1, w2, w3]; (try refine ⟨by kernel_rfl, ?_⟩)))
      | (with_reducible refine xB_split (by simp [srcP, g0, g5, g6, g7, hb9, hb6, hb65, hlt, hw, hzT, hA, hA', k0', k1', k2', w1, w2, w3]) (fun hgd => ?_) (fun hgd => ?_) <;> first | (exfalso; simp at hgd; done) | (exfalso; simp at hgd; omega) | simp -implicitDefEqProofs (maxSteps := 2000000) [hP, hN, srcP, g0, g5, g6, g7, hb9, hb6, hb65, hlt, hw, hzT, hA, hA', k0', k1', k2', w1, w2, w3])
      | (with_reducible refine yB_split (by simp [srcP, g0, g5, g6, g7, hb9, hb6, hb65, hlt, hw, hzT, hA, hA', k0', k1', k2', w1, w2, w3]) (fun hgd => ?_) (fun hgd => ?_) <;> first | (exfalso; simp at hgd; done) | (exfalso; simp at hgd; omega) | (simp -implicitDefEqProofs (maxSteps := 2000000) [hP, hN, srcP, g0, g5, g6, g7, hb9, hb6, hb65, hlt, hw, hzT, hA, hA', k0', k1', k2', w1, w2, w3] <;> (try refine ⟨by kernel_rfl, ?_⟩)))
      | with_reducible refine xTwo_intro ?_ ?_
      | (with_reducible refine xCond_split (fun hcd => ?_) (fun hcd => ?_) <;> (try (exfalso; clear hP hN; simp_all; done)) <;> (try (exfalso; simp at *; omega)))
      | with_reducible refine WP.block ?_
      | (with_reducible ((first | refine WP.skip ?_ | refine WP.exit ?_ | refine WP.ret ?_); simp [srcP, g0, g5, g6, g7, hb9, hb6, hb65, hlt, hw, hzT, hA, hA', k0', k1', k2', w1, w2, w3])))
    all_goals exact ⟨by rw [hsn], hs⟩
  · have hi' : i = b.length := by omega
    subst hi'
    have htk : ((inL b l).map Z).take b.length = (inL b l).map Z := List.take_of_length_le (by simp [inL_len])
    repeat' (first
      | with_reducible refine WP.seq ?_
      | (with_reducible ((first | refine WP.region (hn := []) ?_ | refine WP.cond' ?_); simp -implicitDefEqProofs (maxSteps := 2000000) [hP, hN, g0, g5, g6, g7, hb9, hb6, hb65, hlt, hzT, htk]))
      | (with_reducible ((first | refine WP.draw (hn := []) (by rw [hP]; kernel_rfl) (by kernel_rfl) ?_); simp -implicitDefEqProofs (maxSteps := 2000000) [hP, hN, g0, g5, g6, g7, hb9, hb6, hb65, hlt, hzT, htk]; (try refine ⟨by kernel_rfl, ?_⟩)))
      | (with_reducible refine xB_split (by simp [g0, g5, g6, g7, hb9, hb6, hb65, hlt, hzT, htk]) (fun hgd => ?_) (fun hgd => ?_) <;> first | (exfalso; simp at hgd; done) | (exfalso; simp at hgd; omega) | simp -implicitDefEqProofs (maxSteps := 2000000) [hP, hN, g0, g5, g6, g7, hb9, hb6, hb65, hlt, hzT, htk])
      | (with_reducible refine yB_split (by simp [g0, g5, g6, g7, hb9, hb6, hb65, hlt, hzT, htk]) (fun hgd => ?_) (fun hgd => ?_) <;> first | (exfalso; simp at hgd; done) | (exfalso; simp at hgd; omega) | (simp -implicitDefEqProofs (maxSteps := 2000000) [hP, hN, g0, g5, g6, g7, hb9, hb6, hb65, hlt, hzT, htk] <;> (try refine ⟨by kernel_rfl, ?_⟩)))
      | with_reducible refine xTwo_intro ?_ ?_
      | (with_reducible refine xCond_split (fun hcd => ?_) (fun hcd => ?_) <;> (try (exfalso; clear hP hN; simp_all; done)) <;> (try (exfalso; simp at *; omega)))
      | with_reducible refine WP.block ?_
      | (with_reducible ((first | refine WP.skip ?_ | refine WP.exit ?_ | refine WP.ret ?_); simp [g0, g5, g6, g7, hb9, hb6, hb65, hlt, hzT, htk])))
    all_goals simp [inL_len]
end Go.Ab
