/- Contracts: the first meeting of a polyline with Colliding leaves: the reference. -/
import Derived.Test.YtagmnknighofeaaCu11
set_option linter.all false
namespace Go.Ab
open Go.Proofs
theorem col_kind {t : Tr} (hv : validT t = true) {i : Nat} {c : Cel} (hc : t.cells[i]? = some c) : colB c = (c.v.kind == 2) := by
  unfold colB
  cases hl : leafB c with
  | true => simp
  | false =>
    have := innerB_iff.1 ((cell_low hv hc).2 hl)
    have hz := this.2.2.2.2.2
    simp only [zeroB, Bool.and_eq_true, beq_iff_eq] at hz
    simp [hz.1.1]
def fA1 (s : Option (Fr × Nat)) : Int := match s with
  | some g => (g.2 : Int)
  | none => -1
set_option maxRecDepth 10000 in
set_option maxHeartbeats 16000000 in
theorem d129 (t : Tr) (line : List (List Int)) (hl : t.cells.length ≤ 9223372036854775807) (hr : t.root.length ≤ 9223372036854775807) (hk : line.length ≤ 9223372036854775807) (hkk : ∀ x ∈ line, x.length ≤ 9223372036854775807) : DetH Try.prog 129 [.pv (encT t), .pv (.sl (line.map zs))] [] [] (.pv (.tup [encMt ((meetC t line).getD mt0), B (meetC t line).isSome])) := by
  have cv := d52 t hl
  cases hv : validT t with
  | false =>
    have hm : meetC t line = none := by simp [meetC, meetOk, hv]
    rw [hm, mt0]
    rw [hv] at cv
    refine detP_of Try.func129 rfl (by kernel_rfl) (by simp [Try.f129]) rfl ?_
    intro C hP hN
    simp only [Try.f129] at hN ⊢
    repeat' (first
      | with_reducible refine WP.seq ?_
      | (with_reducible ((first | refine WP.region (hn := []) ?_ | refine xC_intro (cv) ?_ | refine WP.cond' ?_); simp -implicitDefEqProofs (maxSteps := 2000000) [hP, hN]))
      | (with_reducible ((first | refine WP.draw (hn := []) (by rw [hP]; kernel_rfl) (by kernel_rfl) ?_ | refine yC_intro (cv) ?_); simp -implicitDefEqProofs (maxSteps := 2000000) [hP, hN]; (try refine ⟨by kernel_rfl, ?_⟩)))
      | (with_reducible refine xB_split (by simp) (fun hgd => ?_) (fun hgd => ?_) <;> first | (exfalso; simp at hgd; done) | (exfalso; simp at hgd; omega) | simp -implicitDefEqProofs (maxSteps := 2000000) [hP, hN])
      | (with_reducible refine yB_split (by simp) (fun hgd => ?_) (fun hgd => ?_) <;> first | (exfalso; simp at hgd; done) | (exfalso; simp at hgd; omega) | (simp -implicitDefEqProofs (maxSteps := 2000000) [hP, hN] <;> (try refine ⟨by kernel_rfl, ?_⟩)))
      | with_reducible refine xTwo_intro ?_ ?_
      | (with_reducible refine xCond_split (fun hcd => ?_) (fun hcd => ?_) <;> (try (exfalso; clear hP hN; simp_all; done)) <;> (try (exfalso; simp at *; omega)))
      | with_reducible refine WP.block ?_
      | (with_reducible ((first | refine WP.skip ?_ | refine WP.exit ?_ | refine WP.ret ?_); simp)))
  | true =>
  rw [hv] at cv
  by_cases h1 : line.length < 2
  · have hm : meetC t line = none := by rw [meetC, if_neg]; simp [meetOk]; omega
    rw [hm, mt0]
    have h1' : (line.length : Int) < 2 := by omega
    refine detP_of Try.func129 rfl (by kernel_rfl) (by simp [Try.f129]) rfl ?_
    intro C hP hN
    simp only [Try.f129] at hN ⊢
    repeat' (first
      | with_reducible refine WP.seq ?_
      | (with_reducible ((first | refine WP.region (hn := []) ?_ | refine xC_intro (cv) ?_ | refine WP.cond' ?_); simp -implicitDefEqProofs (maxSteps := 2000000) [hP, hN, h1, h1']))
      | (with_reducible ((first | refine WP.draw (hn := []) (by rw [hP]; kernel_rfl) (by kernel_rfl) ?_ | refine yC_intro (cv) ?_); simp -implicitDefEqProofs (maxSteps := 2000000) [hP, hN, h1, h1']; (try refine ⟨by kernel_rfl, ?_⟩)))
      | (with_reducible refine xB_split (by simp [h1, h1']) (fun hgd => ?_) (fun hgd => ?_) <;> first | (exfalso; simp at hgd; done) | (exfalso; simp at hgd; omega) | simp -implicitDefEqProofs (maxSteps := 2000000) [hP, hN, h1, h1'])
      | (with_reducible refine yB_split (by simp [h1, h1']) (fun hgd => ?_) (fun hgd => ?_) <;> first | (exfalso; simp at hgd; done) | (exfalso; simp at hgd; omega) | (simp -implicitDefEqProofs (maxSteps := 2000000) [hP, hN, h1, h1'] <;> (try refine ⟨by kernel_rfl, ?_⟩)))
      | with_reducible refine xTwo_intro ?_ ?_
      | (with_reducible refine xCond_split (fun hcd => ?_) (fun hcd => ?_) <;> (try (exfalso; clear hP hN; simp_all; done)) <;> (try (exfalso; simp at *; omega)))
      | with_reducible refine WP.block ?_
      | (with_reducible ((first | refine WP.skip ?_ | refine WP.exit ?_ | refine WP.ret ?_); simp [h1, h1'])))
  have h1' : ¬ (line.length : Int) < 2 := by omega
  by_cases h2 : 1024 < line.length
  · have hm : meetC t line = none := by rw [meetC, if_neg]; simp [meetOk]; omega
    rw [hm, mt0]
    have h2' : (1024 : Int) < line.length := by omega
    refine detP_of Try.func129 rfl (by kernel_rfl) (by simp [Try.f129]) rfl ?_
    intro C hP hN
    simp only [Try.f129] at hN ⊢
    repeat' (first
      | with_reducible refine WP.seq ?_
      | (with_reducible ((first | refine WP.region (hn := []) ?_ | refine xC_intro (cv) ?_ | refine WP.cond' ?_); simp -implicitDefEqProofs (maxSteps := 2000000) [hP, hN, h1, h1', h2, h2']))
      | (with_reducible ((first | refine WP.draw (hn := []) (by rw [hP]; kernel_rfl) (by kernel_rfl) ?_ | refine yC_intro (cv) ?_); simp -implicitDefEqProofs (maxSteps := 2000000) [hP, hN, h1, h1', h2, h2']; (try refine ⟨by kernel_rfl, ?_⟩)))
      | (with_reducible refine xB_split (by simp [h1, h1', h2, h2']) (fun hgd => ?_) (fun hgd => ?_) <;> first | (exfalso; simp at hgd; done) | (exfalso; simp at hgd; omega) | simp -implicitDefEqProofs (maxSteps := 2000000) [hP, hN, h1, h1', h2, h2'])
      | (with_reducible refine yB_split (by simp [h1, h1', h2, h2']) (fun hgd => ?_) (fun hgd => ?_) <;> first | (exfalso; simp at hgd; done) | (exfalso; simp at hgd; omega) | (simp -implicitDefEqProofs (maxSteps := 2000000) [hP, hN, h1, h1', h2, h2'] <;> (try refine ⟨by kernel_rfl, ?_⟩)))
      | with_reducible refine xTwo_intro ?_ ?_
      | (with_reducible refine xCond_split (fun hcd => ?_) (fun hcd => ?_) <;> (try (exfalso; clear hP hN; simp_all; done)) <;> (try (exfalso; simp at *; omega)))
      | with_reducible refine WP.block ?_
      | (with_reducible ((first | refine WP.skip ?_ | refine WP.exit ?_ | refine WP.ret ?_); simp [h1, h1', h2, h2'])))
  have h2' : ¬ (1024 : Int) < line.length := by omega
  have hz := sizeOk_iff.1 (valid_size hv)
  have hbl := boxesL_len hv
  refine detP_of Try.func129 rfl (by kernel_rfl) (by simp [Try.f129]) rfl ?_
  intro C hP hN
  simp only [Try.f129] at hN ⊢
  repeat' (first
    | with_reducible refine WP.seq ?_
    | (with_reducible ((first | refine WP.region (hn := []) ?_ | refine xC_intro (cv) ?_ | refine WP.cond' ?_); simp -implicitDefEqProofs (maxSteps := 2000000) [hP, hN, h1, h1', h2, h2']))
    | (with_reducible ((first | refine WP.draw (hn := []) (by rw [hP]; kernel_rfl) (by kernel_rfl) ?_ | refine yC_intro (cv) ?_); simp -implicitDefEqProofs (maxSteps := 2000000) [hP, hN, h1, h1', h2, h2']; (try refine ⟨by kernel_rfl, ?_⟩)))
    | (with_reducible refine xB_split (by simp [h1, h1', h2, h2']) (fun hgd => ?_) (fun hgd => ?_) <;> first | (exfalso; simp at hgd; done) | (exfalso; simp at hgd; omega) | simp -implicitDefEqProofs (maxSteps := 2000000) [hP, hN, h1, h1', h2, h2'])
    | (with_reducible refine yB_split (by simp [h1, h1', h2, h2']) (fun hgd => ?_) (fun hgd => ?_) <;> first | (exfalso; simp at hgd; done) | (exfalso; simp at hgd; omega) | (simp -implicitDefEqProofs (maxSteps := 2000000) [hP, hN, h1, h1', h2, h2'] <;> (try refine ⟨by kernel_rfl, ?_⟩)))
    | with_reducible refine xTwo_intro ?_ ?_
    | (with_reducible refine xCond_split (fun hcd => ?_) (fun hcd => ?_) <;> (try (exfalso; clear hP hN; simp_all; done)) <;> (try (exfalso; simp at *; omega)))
    | with_reducible refine WP.block ?_
    | (with_reducible ((first | refine WP.skip ?_ | refine WP.exit ?_ | refine WP.ret ?_); simp [h1, h1', h2, h2'])))
  refine WP.loopN [] line.length (fun i st => allB (hasC t.root) (line.take i) = true ∧ st.t 1 = .pv (.sl (line.map zs)) ∧ st.t 2 = .ptr 2 0 ∧ st.t 4 = .ptr 4 0 ∧ st.t 6 = .pv (.sl ((boxesL t).map iv)) ∧ st.t 8 = .pv (Z i) ∧ st.h 2 = some (.box [.pv (iv t.root), .pv (.sl (t.cells.map encC))] true false) ∧ st.h 4 = some (.box [.pv (Z 0), .pv (Z 0), .pv (Z 0), .pv (Z 0)] true false) ∧ st.h 10 = none ∧ st.h 13 = none) (by simp [allB]) ?_
  rintro i st hi ⟨hin, g1, g2, g4, g6, g8, hb2, hb4, hb10, hb13⟩
  by_cases hlt : i < line.length
  · have hw := wr_succ hlt (by omega)
    have hF : hasC t.root line[i] = false → allB (hasC t.root) line = false := all_false hlt
    have hS : hasC t.root line[i] = true → allB (hasC t.root) (line.take (i + 1)) = true := all_step hlt hin
    have ch := d30 t.root line[i] hr (hkk _ (List.getElem_mem hlt))
    rw [hasL_eq] at ch
    cases hh : hasC t.root line[i] with
    | false =>
      rw [hh] at ch hF
      have hm : meetC t line = none := by simp [meetC, meetOk, hF rfl]
      rw [hm, mt0]
      repeat' (first
        | with_reducible refine WP.seq ?_
        | (with_reducible ((first | refine WP.region (hn := []) ?_ | refine xC_intro (ch) ?_ | refine WP.cond' ?_); simp -implicitDefEqProofs (maxSteps := 2000000) [hP, hN, g1, g2, g4, g6, g8, hb2, hb4, hlt, hw]))
        | (with_reducible ((first | refine WP.draw (hn := []) (by rw [hP]; kernel_rfl) (by kernel_rfl) ?_ | refine yC_intro (ch) ?_); simp -implicitDefEqProofs (maxSteps := 2000000) [hP, hN, g1, g2, g4, g6, g8, hb2, hb4, hlt, hw]; (try refine ⟨by kernel_rfl, ?_⟩)))
        | (with_reducible refine xB_split (by simp [g1, g2, g4, g6, g8, hb2, hb4, hlt, hw]) (fun hgd => ?_) (fun hgd => ?_) <;> first | (exfalso; simp at hgd; done) | (exfalso; simp at hgd; omega) | simp -implicitDefEqProofs (maxSteps := 2000000) [hP, hN, g1, g2, g4, g6, g8, hb2, hb4, hlt, hw])
        | (with_reducible refine yB_split (by simp [g1, g2, g4, g6, g8, hb2, hb4, hlt, hw]) (fun hgd => ?_) (fun hgd => ?_) <;> first | (exfalso; simp at hgd; done) | (exfalso; simp at hgd; omega) | (simp -implicitDefEqProofs (maxSteps := 2000000) [hP, hN, g1, g2, g4, g6, g8, hb2, hb4, hlt, hw] <;> (try refine ⟨by kernel_rfl, ?_⟩)))
        | with_reducible refine xTwo_intro ?_ ?_
        | (with_reducible refine xCond_split (fun hcd => ?_) (fun hcd => ?_) <;> (try (exfalso; clear hP hN; simp_all; done)) <;> (try (exfalso; simp at *; omega)))
        | with_reducible refine WP.block ?_
        | (with_reducible ((first | refine WP.skip ?_ | refine WP.exit ?_ | refine WP.ret ?_); simp [g1, g2, g4, g6, g8, hb2, hb4, hlt, hw])))
    | true =>
      rw [hh] at ch hS
      have := hS rfl
      repeat' (first
        | with_reducible refine WP.seq ?_
        | (with_reducible ((first | refine WP.region (hn := []) ?_ | refine xC_intro (ch) ?_ | refine WP.cond' ?_); simp -implicitDefEqProofs (maxSteps := 2000000) [hP, hN, g1, g2, g4, g6, g8, hb2, hb4, hb10, hb13, hlt, hw]))
        | (with_reducible ((first | refine WP.draw (hn := []) (by rw [hP]; kernel_rfl) (by kernel_rfl) ?_ | refine yC_intro (ch) ?_); simp -implicitDefEqProofs (maxSteps := 2000000) [hP, hN, g1, g2, g4, g6, g8, hb2, hb4, hb10, hb13, hlt, hw]; (try refine ⟨by kernel_rfl, ?_⟩)))
        | (with_reducible refine xB_split (by simp [g1, g2, g4, g6, g8, hb2, hb4, hb10, hb13, hlt, hw]) (fun hgd => ?_) (fun hgd => ?_) <;> first | (exfalso; simp at hgd; done) | (exfalso; simp at hgd; omega) | simp -implicitDefEqProofs (maxSteps := 2000000) [hP, hN, g1, g2, g4, g6, g8, hb2, hb4, hb10, hb13, hlt, hw])
        | (with_reducible refine yB_split (by simp [g1, g2, g4, g6, g8, hb2, hb4, hb10, hb13, hlt, hw]) (fun hgd => ?_) (fun hgd => ?_) <;> first | (exfalso; simp at hgd; done) | (exfalso; simp at hgd; omega) | (simp -implicitDefEqProofs (maxSteps := 2000000) [hP, hN, g1, g2, g4, g6, g8, hb2, hb4, hb10, hb13, hlt, hw] <;> (try refine ⟨by kernel_rfl, ?_⟩)))
        | with_reducible refine xTwo_intro ?_ ?_
        | (with_reducible refine xCond_split (fun hcd => ?_) (fun hcd => ?_) <;> (try (exfalso; clear hP hN; simp_all; done)) <;> (try (exfalso; simp at *; omega)))
        | with_reducible refine WP.block ?_
        | (with_reducible ((first | refine WP.skip ?_ | refine WP.exit ?_ | refine WP.ret ?_); simp [g1, g2, g4, g6, g8, hb2, hb4, hb10, hb13, hlt, hw])))
      all_goals exact this
  have hin := all_done hlt hin
  have hok : meetOk t line = true := by simp [meetOk, hv, hin]; omega
  have hmc : meetC t line = mFind t line (line.length - 1 - 0) 0 := by simp [meetC, hok]
  repeat' (first
    | with_reducible refine WP.seq ?_
    | (with_reducible ((first | refine WP.region (hn := []) ?_ | refine WP.cond' ?_); simp -implicitDefEqProofs (maxSteps := 2000000) [hP, hN, g1, g2, g4, g6, g8, hb2, hb4, hb10, hb13, hlt]))
    | (with_reducible ((first | refine WP.draw (hn := []) (by rw [hP]; kernel_rfl) (by kernel_rfl) ?_); simp -implicitDefEqProofs (maxSteps := 2000000) [hP, hN, g1, g2, g4, g6, g8, hb2, hb4, hb10, hb13, hlt]; (try refine ⟨by kernel_rfl, ?_⟩)))
    | (with_reducible refine xB_split (by simp [g1, g2, g4, g6, g8, hb2, hb4, hb10, hb13, hlt]) (fun hgd => ?_) (fun hgd => ?_) <;> first | (exfalso; simp at hgd; done) | (exfalso; simp at hgd; omega) | simp -implicitDefEqProofs (maxSteps := 2000000) [hP, hN, g1, g2, g4, g6, g8, hb2, hb4, hb10, hb13, hlt])
    | (with_reducible refine yB_split (by simp [g1, g2, g4, g6, g8, hb2, hb4, hb10, hb13, hlt]) (fun hgd => ?_) (fun hgd => ?_) <;> first | (exfalso; simp at hgd; done) | (exfalso; simp at hgd; omega) | (simp -implicitDefEqProofs (maxSteps := 2000000) [hP, hN, g1, g2, g4, g6, g8, hb2, hb4, hb10, hb13, hlt] <;> (try refine ⟨by kernel_rfl, ?_⟩)))
    | with_reducible refine xTwo_intro ?_ ?_
    | (with_reducible refine xCond_split (fun hcd => ?_) (fun hcd => ?_) <;> (try (exfalso; clear hP hN; simp_all; done)) <;> (try (exfalso; simp at *; omega)))
    | with_reducible refine WP.block ?_
    | (with_reducible ((first | refine WP.skip ?_ | refine WP.exit ?_ | refine WP.ret ?_); simp [g1, g2, g4, g6, g8, hb2, hb4, hb10, hb13, hlt])))
  refine WP.loopN [10] (line.length - 1) (fun m st => meetC t line = mFind t line (line.length - 1 - m) m ∧ st.t 1 = .pv (.sl (line.map zs)) ∧ st.t 2 = .ptr 2 0 ∧ st.t 4 = .ptr 4 0 ∧ st.t 6 = .pv (.sl ((boxesL t).map iv)) ∧ st.t 9 = .pv (Z m) ∧ st.h 2 = some (.box [.pv (iv t.root), .pv (.sl (t.cells.map encC))] true false) ∧ st.h 4 = some (.box [.pv (Z 0), .pv (Z 0), .pv (Z 0), .pv (Z 0)] true false) ∧ st.h 10 = none ∧ st.h 13 = none) (by refine ⟨hmc, ?_⟩; simp [g1, g2, g4, g6, hb2, hb4, hb10, hb13]) ?_
  clear hmc g1 g2 g4 g6 g8 hb2 hb4 hb10 hb13 hi hlt
  rintro m st hm ⟨hmc, g1, g2, g4, g6, g9, hb2, hb4, hb10, hb13⟩
  have hw : IntKind.i64.wrap ((m : Int) + 1) = (m : Int) + 1 := wr_id (by omega) (by omega)
  by_cases hlt : m < line.length - 1
  · have hltZ : (m : Int) + 1 < line.length := by omega
    have hm1 : m < line.length := by omega
    have hm2 : m + 1 < line.length := by omega
    have hm3 : (0 : Int) ≤ (m : Int) + 1 := by omega
    have hp := meet_sm hok hm1
    have hq := meet_sm hok hm2
    have hSm := fun i hi => sm_of hv hp hq (i := i) hi
    have hp1 : line[m]? = some (lineAt line m) := by simp [lineAt, List.getElem?_eq_getElem hm1]
    have hq1 : line[m + 1]? = some (lineAt line (m + 1)) := by simp [lineAt, List.getElem?_eq_getElem hm2]
    have hp1' := get_of hp1 hm1
    have hq1' := get_of hq1 hm2
    have hMM : meetM t line m = mRun t (lineAt line m) (lineAt line (m + 1)) t.cells.length := rfl
    generalize lineAt line m = p at *
    generalize lineAt line (m + 1) = q at *
    have hrk := fun i g => mRun_ok hSm (i := i) (g := g)
    repeat' (first
      | with_reducible refine WP.seq ?_
      | (with_reducible ((first | refine WP.region (hn := []) ?_ | refine WP.cond' ?_); simp -implicitDefEqProofs (maxSteps := 2000000) [hP, hN, g1, g2, g4, g6, g9, hb2, hb4, hb10, hb13, hlt, hltZ, hw]))
      | (with_reducible ((first | refine WP.draw (hn := []) (by rw [hP]; kernel_rfl) (by kernel_rfl) ?_); simp -implicitDefEqProofs (maxSteps := 2000000) [hP, hN, g1, g2, g4, g6, g9, hb2, hb4, hb10, hb13, hlt, hltZ, hw]; (try refine ⟨by kernel_rfl, ?_⟩)))
      | (with_reducible refine xB_split (by simp [g1, g2, g4, g6, g9, hb2, hb4, hb10, hb13, hlt, hltZ, hw]) (fun hgd => ?_) (fun hgd => ?_) <;> first | (exfalso; simp at hgd; done) | (exfalso; simp at hgd; omega) | simp -implicitDefEqProofs (maxSteps := 2000000) [hP, hN, g1, g2, g4, g6, g9, hb2, hb4, hb10, hb13, hlt, hltZ, hw])
      | (with_reducible refine yB_split (by simp [g1, g2, g4, g6, g9, hb2, hb4, hb10, hb13, hlt, hltZ, hw]) (fun hgd => ?_) (fun hgd => ?_) <;> first | (exfalso; simp at hgd; done) | (exfalso; simp at hgd; omega) | (simp -implicitDefEqProofs (maxSteps := 2000000) [hP, hN, g1, g2, g4, g6, g9, hb2, hb4, hb10, hb13, hlt, hltZ, hw] <;> (try refine ⟨by kernel_rfl, ?_⟩)))
      | with_reducible refine xTwo_intro ?_ ?_
      | (with_reducible refine xCond_split (fun hcd => ?_) (fun hcd => ?_) <;> (try (exfalso; clear hP hN; simp_all; done)) <;> (try (exfalso; simp at *; omega)))
      | with_reducible refine WP.block ?_
      | (with_reducible ((first | refine WP.skip ?_ | refine WP.exit ?_ | refine WP.ret ?_); simp [g1, g2, g4, g6, g9, hb2, hb4, hb10, hb13, hlt, hltZ, hw])))
    refine WP.loopN [13] t.cells.length (fun i st => st.t 1 = .pv (.sl (line.map zs)) ∧ st.t 2 = .ptr 2 0 ∧ st.t 4 = .ptr 4 0 ∧ st.t 6 = .pv (.sl ((boxesL t).map iv)) ∧ st.t 9 = .pv (Z m) ∧ st.t 10 = .ptr 10 0 ∧ st.t 11 = .pv (Z (fA1 (mRun t p q i))) ∧ st.t 12 = .pv (Z i) ∧ st.h 2 = some (.box [.pv (iv t.root), .pv (.sl (t.cells.map encC))] true false) ∧ st.h 4 = some (.box [.pv (Z 0), .pv (Z 0), .pv (Z 0), .pv (Z 0)] true false) ∧ st.h 10 = some (Fb (fF1 (mRun t p q i))) ∧ st.h 13 = none) (by simp [mRun, fF1, fA1, g1, g2, g4, g6, g9, hb2, hb4, hb13]) ?_
    clear g1 g2 g4 g6 g9 hb2 hb4 hb10 hb13
    rintro i st' hi ⟨y1, y2, y4, y6, y9, y10, y11, y12, yb2, yb4, yb10, yb13⟩
    by_cases hil : i < t.cells.length
    · have hwi := wr_succ hil (by omega)
      have hib : i < (boxesL t).length := by omega
      obtain ⟨hbi, _, _⟩ := boxAt_ok hv (c := (i : Int)) (by simpa using hil)
      rw [Int.toNat_natCast] at hbi
      have hbi' := get_of hbi hib
      have ce := d169 (boxAt t (i : Int)) p q (hSm i hil)
      have hek := fun f => entC_ok (f := f) (hSm i hil)
      have hsu : mRun t p q (i + 1) = mCell t p q i (mRun t p q i) := rfl
      generalize hc : t.cells[i] = c at *
      have hci : t.cells[i]? = some c := by rw [List.getElem?_eq_getElem hil, hc]
      have hct : colT t i = (c.v.kind == 2) := by rw [← col_kind hv hci]; simp [colT, hci]
      rw [mCell, hct] at hsu
      have hrki := fun g hg => (hrk i g (by omega) hg).1
      cases hcb : (c.v.kind == 2) with
      | false =>
        have hkd2 : (c.v.kind != 2) = true := by simp [bne, hcb]
        rw [hcb] at hsu
        simp only [Bool.false_eq_true, if_false] at hsu
        rw [← hsu] at y11 yb10
        repeat' (first
          | with_reducible refine WP.seq ?_
          | (with_reducible ((first | refine WP.region (hn := []) ?_ | refine WP.cond' ?_); simp -implicitDefEqProofs (maxSteps := 2000000) [hP, hN, y1, y2, y4, y6, y9, y10, y11, y12, yb2, yb4, yb10, yb13, hbl, hil, hwi, hci, hc, hkd2]))
          | (with_reducible ((first | refine WP.draw (hn := []) (by rw [hP]; kernel_rfl) (by kernel_rfl) ?_); simp -implicitDefEqProofs (maxSteps := 2000000) [hP, hN, y1, y2, y4, y6, y9, y10, y11, y12, yb2, yb4, yb10, yb13, hbl, hil, hwi, hci, hc, hkd2]; (try refine ⟨by kernel_rfl, ?_⟩)))
          | (with_reducible refine xB_split (by simp [y1, y2, y4, y6, y9, y10, y11, y12, yb2, yb4, yb10, yb13, hbl, hil, hwi, hci, hc, hkd2]) (fun hgd => ?_) (fun hgd => ?_) <;> first | (exfalso; simp at hgd; done) | (exfalso; simp at hgd; omega) | simp -implicitDefEqProofs (maxSteps := 2000000) [hP, hN, y1, y2, y4, y6, y9, y10, y11, y12, yb2, yb4, yb10, yb13, hbl, hil, hwi, hci, hc, hkd2])
          | (with_reducible refine yB_split (by simp [y1, y2, y4, y6, y9, y10, y11, y12, yb2, yb4, yb10, yb13, hbl, hil, hwi, hci, hc, hkd2]) (fun hgd => ?_) (fun hgd => ?_) <;> first | (exfalso; simp at hgd; done) | (exfalso; simp at hgd; omega) | (simp -implicitDefEqProofs (maxSteps := 2000000) [hP, hN, y1, y2, y4, y6, y9, y10, y11, y12, yb2, yb4, yb10, yb13, hbl, hil, hwi, hci, hc, hkd2] <;> (try refine ⟨by kernel_rfl, ?_⟩)))
          | with_reducible refine xTwo_intro ?_ ?_
          | (with_reducible refine xCond_split (fun hcd => ?_) (fun hcd => ?_) <;> (try (exfalso; clear hP hN; simp_all; done)) <;> (try (exfalso; simp at *; omega)))
          | with_reducible refine WP.block ?_
          | (with_reducible ((first | refine WP.skip ?_ | refine WP.exit ?_ | refine WP.ret ?_); simp [y1, y2, y4, y6, y9, y10, y11, y12, yb2, yb4, yb10, yb13, hbl, hil, hwi, hci, hc, hkd2])))
      | true =>
      have hkd2 : (c.v.kind != 2) = false := by simp [bne, hcb]
      rw [hcb] at hsu
      simp only [if_true] at hsu
      cases he : entC (boxAt t (i : Int)) p q with
      | none =>
        rw [he] at ce hsu
        simp only at hsu
        rw [← hsu] at y11 yb10
        simp only [Option.isSome_none] at ce
        generalize entX (boxAt t (i : Int)) p q = ex at *
        repeat' (first
          | with_reducible refine WP.seq ?_
          | (with_reducible ((first | refine WP.region (hn := []) ?_ | refine xC_intro (ce) ?_ | refine WP.cond' ?_); simp -implicitDefEqProofs (maxSteps := 2000000) [hP, hN, y1, y2, y4, y6, y9, y10, y11, y12, yb2, yb4, yb10, yb13, hbl, hil, hwi, hci, hc, hkd2, hib, hbi, hbi', hm1, hm2, hp1, hq1, hp1', hq1', hw, hm3]))
          | (with_reducible ((first | refine WP.draw (hn := []) (by rw [hP]; kernel_rfl) (by kernel_rfl) ?_ | refine yC_intro (ce) ?_); simp -implicitDefEqProofs (maxSteps := 2000000) [hP, hN, y1, y2, y4, y6, y9, y10, y11, y12, yb2, yb4, yb10, yb13, hbl, hil, hwi, hci, hc, hkd2, hib, hbi, hbi', hm1, hm2, hp1, hq1, hp1', hq1', hw, hm3]; (try refine ⟨by kernel_rfl, ?_⟩)))
          | (with_reducible refine xB_split (by simp [y1, y2, y4, y6, y9, y10, y11, y12, yb2, yb4, yb10, yb13, hbl, hil, hwi, hci, hc, hkd2, hib, hbi, hbi', hm1, hm2, hp1, hq1, hp1', hq1', hw, hm3]) (fun hgd => ?_) (fun hgd => ?_) <;> first | (exfalso; simp at hgd; done) | (exfalso; simp at hgd; omega) | simp -implicitDefEqProofs (maxSteps := 2000000) [hP, hN, y1, y2, y4, y6, y9, y10, y11, y12, yb2, yb4, yb10, yb13, hbl, hil, hwi, hci, hc, hkd2, hib, hbi, hbi', hm1, hm2, hp1, hq1, hp1', hq1', hw, hm3])
          | (with_reducible refine yB_split (by simp [y1, y2, y4, y6, y9, y10, y11, y12, yb2, yb4, yb10, yb13, hbl, hil, hwi, hci, hc, hkd2, hib, hbi, hbi', hm1, hm2, hp1, hq1, hp1', hq1', hw, hm3]) (fun hgd => ?_) (fun hgd => ?_) <;> first | (exfalso; simp at hgd; done) | (exfalso; simp at hgd; omega) | (simp -implicitDefEqProofs (maxSteps := 2000000) [hP, hN, y1, y2, y4, y6, y9, y10, y11, y12, yb2, yb4, yb10, yb13, hbl, hil, hwi, hci, hc, hkd2, hib, hbi, hbi', hm1, hm2, hp1, hq1, hp1', hq1', hw, hm3] <;> (try refine ⟨by kernel_rfl, ?_⟩)))
          | with_reducible refine xTwo_intro ?_ ?_
          | (with_reducible refine xCond_split (fun hcd => ?_) (fun hcd => ?_) <;> (try (exfalso; clear hP hN; simp_all; done)) <;> (try (exfalso; simp at *; omega)))
          | with_reducible refine WP.block ?_
          | (with_reducible ((first | refine WP.skip ?_ | refine WP.exit ?_ | refine WP.ret ?_); simp [y1, y2, y4, y6, y9, y10, y11, y12, yb2, yb4, yb10, yb13, hbl, hil, hwi, hci, hc, hkd2, hib, hbi, hbi', hm1, hm2, hp1, hq1, hp1', hq1', hw, hm3])))
      | some f =>
      rw [he, entX_some he] at ce
      rw [he] at hsu
      simp only [Option.isSome_some] at ce
      have hfk := okR_F (hek f he)
      simp only at hsu
      cases hs : mRun t p q i with
      | none =>
        rw [hs] at hsu y11 yb10
        simp only [fA1, fF1] at hsu y11 yb10
        repeat' (first
          | with_reducible refine WP.seq ?_
          | (with_reducible ((first | refine WP.region (hn := []) ?_ | refine xC_intro (ce) ?_ | refine WP.cond' ?_); simp -implicitDefEqProofs (maxSteps := 2000000) [hP, hN, y1, y2, y4, y6, y9, y10, y11, y12, yb2, yb4, yb10, yb13, hbl, hil, hwi, hci, hc, hkd2, hib, hbi, hbi', hm1, hm2, hp1, hq1, hp1', hq1', hw, hm3]))
          | (with_reducible ((first | refine WP.draw (hn := []) (by rw [hP]; kernel_rfl) (by kernel_rfl) ?_ | refine yC_intro (ce) ?_); simp -implicitDefEqProofs (maxSteps := 2000000) [hP, hN, y1, y2, y4, y6, y9, y10, y11, y12, yb2, yb4, yb10, yb13, hbl, hil, hwi, hci, hc, hkd2, hib, hbi, hbi', hm1, hm2, hp1, hq1, hp1', hq1', hw, hm3]; (try refine ⟨by kernel_rfl, ?_⟩)))
          | (with_reducible refine xB_split (by simp [y1, y2, y4, y6, y9, y10, y11, y12, yb2, yb4, yb10, yb13, hbl, hil, hwi, hci, hc, hkd2, hib, hbi, hbi', hm1, hm2, hp1, hq1, hp1', hq1', hw, hm3]) (fun hgd => ?_) (fun hgd => ?_) <;> first | (exfalso; simp at hgd; done) | (exfalso; simp at hgd; omega) | simp -implicitDefEqProofs (maxSteps := 2000000) [hP, hN, y1, y2, y4, y6, y9, y10, y11, y12, yb2, yb4, yb10, yb13, hbl, hil, hwi, hci, hc, hkd2, hib, hbi, hbi', hm1, hm2, hp1, hq1, hp1', hq1', hw, hm3])
          | (with_reducible refine yB_split (by simp [y1, y2, y4, y6, y9, y10, y11, y12, yb2, yb4, yb10, yb13, hbl, hil, hwi, hci, hc, hkd2, hib, hbi, hbi', hm1, hm2, hp1, hq1, hp1', hq1', hw, hm3]) (fun hgd => ?_) (fun hgd => ?_) <;> first | (exfalso; simp at hgd; done) | (exfalso; simp at hgd; omega) | (simp -implicitDefEqProofs (maxSteps := 2000000) [hP, hN, y1, y2, y4, y6, y9, y10, y11, y12, yb2, yb4, yb10, yb13, hbl, hil, hwi, hci, hc, hkd2, hib, hbi, hbi', hm1, hm2, hp1, hq1, hp1', hq1', hw, hm3] <;> (try refine ⟨by kernel_rfl, ?_⟩)))
          | with_reducible refine xTwo_intro ?_ ?_
          | (with_reducible refine xCond_split (fun hcd => ?_) (fun hcd => ?_) <;> (try (exfalso; clear hP hN; simp_all; done)) <;> (try (exfalso; simp at *; omega)))
          | with_reducible refine WP.block ?_
          | (with_reducible ((first | refine WP.skip ?_ | refine WP.exit ?_ | refine WP.ret ?_); simp [y1, y2, y4, y6, y9, y10, y11, y12, yb2, yb4, yb10, yb13, hbl, hil, hwi, hci, hc, hkd2, hib, hbi, hbi', hm1, hm2, hp1, hq1, hp1', hq1', hw, hm3])))
        all_goals simp [hsu, fA1, fF1]
      | some g =>
        rw [hs] at hsu y11 yb10
        have cl := d170 f g.1 hfk (okR_F (hrki g hs))
        simp only [fA1, fF1] at hsu y11 yb10
        have hg0 : ¬ ((g.2 : Int) < 0) := by omega
        cases hlf : ltF f g.1 with
        | true =>
          rw [hlf] at cl hsu
          simp only [if_true] at hsu
          repeat' (first
            | with_reducible refine WP.seq ?_
            | (with_reducible ((first | refine WP.region (hn := []) ?_ | refine xC_intro (ce) ?_ | refine xC_intro (cl) ?_ | refine WP.cond' ?_); simp -implicitDefEqProofs (maxSteps := 2000000) [hP, hN, y1, y2, y4, y6, y9, y10, y11, y12, yb2, yb4, yb10, yb13, hbl, hil, hwi, hci, hc, hkd2, hib, hbi, hbi', hm1, hm2, hp1, hq1, hp1', hq1', hw, hm3, hg0]))
            | (with_reducible ((first | refine WP.draw (hn := []) (by rw [hP]; kernel_rfl) (by kernel_rfl) ?_ | refine yC_intro (ce) ?_ | refine yC_intro (cl) ?_); simp -implicitDefEqProofs (maxSteps := 2000000) [hP, hN, y1, y2, y4, y6, y9, y10, y11, y12, yb2, yb4, yb10, yb13, hbl, hil, hwi, hci, hc, hkd2, hib, hbi, hbi', hm1, hm2, hp1, hq1, hp1', hq1', hw, hm3, hg0]; (try refine ⟨by kernel_rfl, ?_⟩)))
            | (with_reducible refine xB_split (by simp [y1, y2, y4, y6, y9, y10, y11, y12, yb2, yb4, yb10, yb13, hbl, hil, hwi, hci, hc, hkd2, hib, hbi, hbi', hm1, hm2, hp1, hq1, hp1', hq1', hw, hm3, hg0]) (fun hgd => ?_) (fun hgd => ?_) <;> first | (exfalso; simp at hgd; done) | (exfalso; simp at hgd; omega) | simp -implicitDefEqProofs (maxSteps := 2000000) [hP, hN, y1, y2, y4, y6, y9, y10, y11, y12, yb2, yb4, yb10, yb13, hbl, hil, hwi, hci, hc, hkd2, hib, hbi, hbi', hm1, hm2, hp1, hq1, hp1', hq1', hw, hm3, hg0])
            | (with_reducible refine yB_split (by simp [y1, y2, y4, y6, y9, y10, y11, y12, yb2, yb4, yb10, yb13, hbl, hil, hwi, hci, hc, hkd2, hib, hbi, hbi', hm1, hm2, hp1, hq1, hp1', hq1', hw, hm3, hg0]) (fun hgd => ?_) (fun hgd => ?_) <;> first | (exfalso; simp at hgd; done) | (exfalso; simp at hgd; omega) | (simp -implicitDefEqProofs (maxSteps := 2000000) [hP, hN, y1, y2, y4, y6, y9, y10, y11, y12, yb2, yb4, yb10, yb13, hbl, hil, hwi, hci, hc, hkd2, hib, hbi, hbi', hm1, hm2, hp1, hq1, hp1', hq1', hw, hm3, hg0] <;> (try refine ⟨by kernel_rfl, ?_⟩)))
            | with_reducible refine xTwo_intro ?_ ?_
            | (with_reducible refine xCond_split (fun hcd => ?_) (fun hcd => ?_) <;> (try (exfalso; clear hP hN; simp_all; done)) <;> (try (exfalso; simp at *; omega)))
            | with_reducible refine WP.block ?_
            | (with_reducible ((first | refine WP.skip ?_ | refine WP.exit ?_ | refine WP.ret ?_); simp [y1, y2, y4, y6, y9, y10, y11, y12, yb2, yb4, yb10, yb13, hbl, hil, hwi, hci, hc, hkd2, hib, hbi, hbi', hm1, hm2, hp1, hq1, hp1', hq1', hw, hm3, hg0])))
          all_goals simp [hsu, fA1, fF1]
        | false =>
          rw [hlf] at cl hsu
          simp only [Bool.false_eq_true, if_false] at hsu
          repeat' (first
            | with_reducible refine WP.seq ?_
            | (with_reducible ((first | refine WP.region (hn := []) ?_ | refine xC_intro (ce) ?_ | refine xC_intro (cl) ?_ | refine WP.cond' ?_); simp -implicitDefEqProofs (maxSteps := 2000000) [hP, hN, y1, y2, y4, y6, y9, y10, y11, y12, yb2, yb4, yb10, yb13, hbl, hil, hwi, hci, hc, hkd2, hib, hbi, hbi', hm1, hm2, hp1, hq1, hp1', hq1', hw, hm3, hg0]))
            | (with_reducible ((first | refine WP.draw (hn := []) (by rw [hP]; kernel_rfl) (by kernel_rfl) ?_ | refine yC_intro (ce) ?_ | refine yC_intro (cl) ?_); simp -implicitDefEqProofs (maxSteps := 2000000) [hP, hN, y1, y2, y4, y6, y9, y10, y11, y12, yb2, yb4, yb10, yb13, hbl, hil, hwi, hci, hc, hkd2, hib, hbi, hbi', hm1, hm2, hp1, hq1, hp1', hq1', hw, hm3, hg0]; (try refine ⟨by kernel_rfl, ?_⟩)))
            | (with_reducible refine xB_split (by simp [y1, y2, y4, y6, y9, y10, y11, y12, yb2, yb4, yb10, yb13, hbl, hil, hwi, hci, hc, hkd2, hib, hbi, hbi', hm1, hm2, hp1, hq1, hp1', hq1', hw, hm3, hg0]) (fun hgd => ?_) (fun hgd => ?_) <;> first | (exfalso; simp at hgd; done) | (exfalso; simp at hgd; omega) | simp -implicitDefEqProofs (maxSteps := 2000000) [hP, hN, y1, y2, y4, y6, y9, y10, y11, y12, yb2, yb4, yb10, yb13, hbl, hil, hwi, hci, hc, hkd2, hib, hbi, hbi', hm1, hm2, hp1, hq1, hp1', hq1', hw, hm3, hg0])
            | (with_reducible refine yB_split (by simp [y1, y2, y4, y6, y9, y10, y11, y12, yb2, yb4, yb10, yb13, hbl, hil, hwi, hci, hc, hkd2, hib, hbi, hbi', hm1, hm2, hp1, hq1, hp1', hq1', hw, hm3, hg0]) (fun hgd => ?_) (fun hgd => ?_) <;> first | (exfalso; simp at hgd; done) | (exfalso; simp at hgd; omega) | (simp -implicitDefEqProofs (maxSteps := 2000000) [hP, hN, y1, y2, y4, y6, y9, y10, y11, y12, yb2, yb4, yb10, yb13, hbl, hil, hwi, hci, hc, hkd2, hib, hbi, hbi', hm1, hm2, hp1, hq1, hp1', hq1', hw, hm3, hg0] <;> (try refine ⟨by kernel_rfl, ?_⟩)))
            | with_reducible refine xTwo_intro ?_ ?_
            | (with_reducible refine xCond_split (fun hcd => ?_) (fun hcd => ?_) <;> (try (exfalso; clear hP hN; simp_all; done)) <;> (try (exfalso; simp at *; omega)))
            | with_reducible refine WP.block ?_
            | (with_reducible ((first | refine WP.skip ?_ | refine WP.exit ?_ | refine WP.ret ?_); simp [y1, y2, y4, y6, y9, y10, y11, y12, yb2, yb4, yb10, yb13, hbl, hil, hwi, hci, hc, hkd2, hib, hbi, hbi', hm1, hm2, hp1, hq1, hp1', hq1', hw, hm3, hg0])))
          all_goals simp [hsu, fA1, fF1]
    · have hi' : i = t.cells.length := by omega
      subst hi'
      rw [← hMM] at y11 yb10
      cases hmm : meetM t line m with
      | none =>
        rw [hmm] at y11 yb10
        have hnx := mFind_step hlt hmm
        rw [← hmc] at hnx
        simp only [fA1, fF1] at y11 yb10
        repeat' (first
          | with_reducible refine WP.seq ?_
          | (with_reducible ((first | refine WP.region (hn := []) ?_ | refine WP.cond' ?_); simp -implicitDefEqProofs (maxSteps := 2000000) [hP, hN, y1, y2, y4, y6, y9, y10, y11, y12, yb2, yb4, yb10, yb13, hbl, hil, hw]))
          | (with_reducible ((first | refine WP.draw (hn := []) (by rw [hP]; kernel_rfl) (by kernel_rfl) ?_); simp -implicitDefEqProofs (maxSteps := 2000000) [hP, hN, y1, y2, y4, y6, y9, y10, y11, y12, yb2, yb4, yb10, yb13, hbl, hil, hw]; (try refine ⟨by kernel_rfl, ?_⟩)))
          | (with_reducible refine xB_split (by simp [y1, y2, y4, y6, y9, y10, y11, y12, yb2, yb4, yb10, yb13, hbl, hil, hw]) (fun hgd => ?_) (fun hgd => ?_) <;> first | (exfalso; simp at hgd; done) | (exfalso; simp at hgd; omega) | simp -implicitDefEqProofs (maxSteps := 2000000) [hP, hN, y1, y2, y4, y6, y9, y10, y11, y12, yb2, yb4, yb10, yb13, hbl, hil, hw])
          | (with_reducible refine yB_split (by simp [y1, y2, y4, y6, y9, y10, y11, y12, yb2, yb4, yb10, yb13, hbl, hil, hw]) (fun hgd => ?_) (fun hgd => ?_) <;> first | (exfalso; simp at hgd; done) | (exfalso; simp at hgd; omega) | (simp -implicitDefEqProofs (maxSteps := 2000000) [hP, hN, y1, y2, y4, y6, y9, y10, y11, y12, yb2, yb4, yb10, yb13, hbl, hil, hw] <;> (try refine ⟨by kernel_rfl, ?_⟩)))
          | with_reducible refine xTwo_intro ?_ ?_
          | (with_reducible refine xCond_split (fun hcd => ?_) (fun hcd => ?_) <;> (try (exfalso; clear hP hN; simp_all; done)) <;> (try (exfalso; simp at *; omega)))
          | with_reducible refine WP.block ?_
          | (with_reducible ((first | refine WP.skip ?_ | refine WP.exit ?_ | refine WP.ret ?_); simp [y1, y2, y4, y6, y9, y10, y11, y12, yb2, yb4, yb10, yb13, hbl, hil, hw])))
        all_goals exact hnx
      | some g =>
        rw [hmm] at y11 yb10
        obtain ⟨⟨o1, o2, o3, o4⟩, _⟩ := hrk _ g (Nat.le_refl _) (by rw [← hMM]; exact hmm)
        have cd := d171 g.1.1 g.1.2 o1 (by omega)
        rw [hmc, mFind_hit hlt hmm]
        simp only [fA1, fF1] at y11 yb10
        obtain ⟨⟨a, b⟩, k⟩ := g
        simp only at o1 o2 o3 o4 cd y11 yb10
        have hgp := gcdZ_pos (a := a) o3
        have q1 : a.tdiv (gcdZ a b) = a / gcdZ a b := Int.tdiv_eq_ediv_of_nonneg o1
        have q2 : b.tdiv (gcdZ a b) = b / gcdZ a b := Int.tdiv_eq_ediv_of_nonneg (by omega)
        have hn1 := Int.ediv_nonneg o1 (show 0 ≤ gcdZ a b by omega)
        have hn2 := Int.ediv_nonneg (show 0 ≤ b by omega) (show 0 ≤ gcdZ a b by omega)
        have hl1 := Int.ediv_le_self (gcdZ a b) o1
        have hl2 := Int.ediv_le_self (gcdZ a b) (show 0 ≤ b by omega)
        have w1 : IntKind.i64.wrap (a / gcdZ a b) = a / gcdZ a b := wr_id (by omega) (by omega)
        have w2 : IntKind.i64.wrap (b / gcdZ a b) = b / gcdZ a b := wr_id (by omega) (by omega)
        have hg0 : ¬ gcdZ a b = 0 := by omega
        have hk0 : (0 : Int) ≤ (k : Int) := by omega
        simp only [lowF]
        generalize gcdZ a b = G at *
        repeat' (first
          | with_reducible refine WP.seq ?_
          | (with_reducible ((first | refine WP.region (hn := []) ?_ | refine xC_intro (cd) ?_ | refine WP.cond' ?_); simp -implicitDefEqProofs (maxSteps := 2000000) [hP, hN, y1, y2, y4, y6, y9, y10, y11, y12, yb2, yb4, yb10, yb13, hbl, hil, hw, q1, q2, w1, w2, hg0, hk0]))
          | (with_reducible ((first | refine WP.draw (hn := []) (by rw [hP]; kernel_rfl) (by kernel_rfl) ?_ | refine yC_intro (cd) ?_); simp -implicitDefEqProofs (maxSteps := 2000000) [hP, hN, y1, y2, y4, y6, y9, y10, y11, y12, yb2, yb4, yb10, yb13, hbl, hil, hw, q1, q2, w1, w2, hg0, hk0]; (try refine ⟨by kernel_rfl, ?_⟩)))
          | (with_reducible refine xB_split (by simp [y1, y2, y4, y6, y9, y10, y11, y12, yb2, yb4, yb10, yb13, hbl, hil, hw, q1, q2, w1, w2, hg0, hk0]) (fun hgd => ?_) (fun hgd => ?_) <;> first | (exfalso; simp at hgd; done) | (exfalso; simp at hgd; omega) | simp -implicitDefEqProofs (maxSteps := 2000000) [hP, hN, y1, y2, y4, y6, y9, y10, y11, y12, yb2, yb4, yb10, yb13, hbl, hil, hw, q1, q2, w1, w2, hg0, hk0])
          | (with_reducible refine yB_split (by simp [y1, y2, y4, y6, y9, y10, y11, y12, yb2, yb4, yb10, yb13, hbl, hil, hw, q1, q2, w1, w2, hg0, hk0]) (fun hgd => ?_) (fun hgd => ?_) <;> first | (exfalso; simp at hgd; done) | (exfalso; simp at hgd; omega) | (simp -implicitDefEqProofs (maxSteps := 2000000) [hP, hN, y1, y2, y4, y6, y9, y10, y11, y12, yb2, yb4, yb10, yb13, hbl, hil, hw, q1, q2, w1, w2, hg0, hk0] <;> (try refine ⟨by kernel_rfl, ?_⟩)))
          | with_reducible refine xTwo_intro ?_ ?_
          | (with_reducible refine xCond_split (fun hcd => ?_) (fun hcd => ?_) <;> (try (exfalso; clear hP hN; simp_all; done)) <;> (try (exfalso; simp at *; omega)))
          | with_reducible refine WP.block ?_
          | (with_reducible ((first | refine WP.skip ?_ | refine WP.exit ?_ | refine WP.ret ?_); simp [y1, y2, y4, y6, y9, y10, y11, y12, yb2, yb4, yb10, yb13, hbl, hil, hw, q1, q2, w1, w2, hg0, hk0])))
  · have hltZ : ¬ (m : Int) + 1 < line.length := by omega
    rw [hmc, mFind_end hlt, mt0]
    repeat' (first
      | with_reducible refine WP.seq ?_
      | (with_reducible ((first | refine WP.region (hn := []) ?_ | refine WP.cond' ?_); simp -implicitDefEqProofs (maxSteps := 2000000) [hP, hN, g1, g2, g4, g6, g9, hb2, hb4, hb10, hb13, hlt, hltZ, hw]))
      | (with_reducible ((first | refine WP.draw (hn := []) (by rw [hP]; kernel_rfl) (by kernel_rfl) ?_); simp -implicitDefEqProofs (maxSteps := 2000000) [hP, hN, g1, g2, g4, g6, g9, hb2, hb4, hb10, hb13, hlt, hltZ, hw]; (try refine ⟨by kernel_rfl, ?_⟩)))
      | (with_reducible refine xB_split (by simp [g1, g2, g4, g6, g9, hb2, hb4, hb10, hb13, hlt, hltZ, hw]) (fun hgd => ?_) (fun hgd => ?_) <;> first | (exfalso; simp at hgd; done) | (exfalso; simp at hgd; omega) | simp -implicitDefEqProofs (maxSteps := 2000000) [hP, hN, g1, g2, g4, g6, g9, hb2, hb4, hb10, hb13, hlt, hltZ, hw])
      | (with_reducible refine yB_split (by simp [g1, g2, g4, g6, g9, hb2, hb4, hb10, hb13, hlt, hltZ, hw]) (fun hgd => ?_) (fun hgd => ?_) <;> first | (exfalso; simp at hgd; done) | (exfalso; simp at hgd; omega) | (simp -implicitDefEqProofs (maxSteps := 2000000) [hP, hN, g1, g2, g4, g6, g9, hb2, hb4, hb10, hb13, hlt, hltZ, hw] <;> (try refine ⟨by kernel_rfl, ?_⟩)))
      | with_reducible refine xTwo_intro ?_ ?_
      | (with_reducible refine xCond_split (fun hcd => ?_) (fun hcd => ?_) <;> (try (exfalso; clear hP hN; simp_all; done)) <;> (try (exfalso; simp at *; omega)))
      | with_reducible refine WP.block ?_
      | (with_reducible ((first | refine WP.skip ?_ | refine WP.exit ?_ | refine WP.ret ?_); simp [g1, g2, g4, g6, g9, hb2, hb4, hb10, hb13, hlt, hltZ, hw])))
end Go.Ab
