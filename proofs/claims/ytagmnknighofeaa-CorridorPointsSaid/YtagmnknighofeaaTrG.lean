/- Tr11, Tr12: as one text. -/
import Derived.Test.YtagmnknighofeaaTrA
import Derived.Test.YtagmnknighofeaaTr10
set_option linter.all false
/- Contracts: the reference's search for a chain. -/
namespace Go.Ab
open Go.Proofs
abbrev encX (cs : List Cel) (bs : List Bx) (op : List Bool) : PV := .agg [.sl (cs.map encC), .sl (bs.map iv), .sl (op.map B)]
def mayK (k sort : Int) (o : Bool) : Bool := if sort = 0 then k == 1 else if sort = 1 then (k == 1 || (k == 0 && o)) else if sort = 2 then (k == 1 || (k == 0 && !o)) else k != 2
def mayB (cs : List Cel) (op : List Bool) (sort : Int) (i : Nat) : Bool := match cs[i]? with
  | some c => leafB c && mayK c.v.kind sort (op[i]?.getD false)
  | none => false
set_option maxHeartbeats 4000000 in
theorem d162 (cs : List Cel) (bs : List Bx) (op : List Bool) (i : Nat) (sort : Int) (hi : i < cs.length) (ho : op.length = cs.length) : DetH Try.prog 162 [.pv (encX cs bs op), .pv (Z i), .pv (Z sort)] [] [] (.pv (B (mayB cs op sort i))) := by
  generalize hc : cs[i] = c at *
  have hci : cs[i]? = some c := by rw [List.getElem?_eq_getElem hi, hc]
  have hio : i < op.length := by omega
  have hoi : op[i]? = some op[i] := List.getElem?_eq_getElem hio
  have hm : mayB cs op sort i = (leafB c && mayK c.v.kind sort op[i]) := by simp [mayB, hci, hoi]
  rw [hm]
  generalize hoo : op[i] = o at *
  have cl := d116 c
  cases hlf : leafB c with
  | false =>
    rw [hlf] at cl
    refine detP_of Try.func162 rfl (by kernel_rfl) (by simp [Try.f162]) rfl ?_
    intro C hP hN
    simp only [Try.f162] at hN ⊢
    repeat' (first
      | with_reducible refine WP.seq ?_
      | (with_reducible ((first | refine WP.region (hn := []) ?_ | refine xC_intro (cl) ?_ | refine WP.cond' ?_); simp -implicitDefEqProofs (maxSteps := 2000000) [hP, hN, hi, hci, hc]))
      | (with_reducible ((first | refine WP.draw (hn := []) (by rw [hP]; kernel_rfl) (by kernel_rfl) ?_ | refine yC_intro (cl) ?_); simp -implicitDefEqProofs (maxSteps := 2000000) [hP, hN, hi, hci, hc]; (try refine ⟨by kernel_rfl, ?_⟩)))
      | (with_reducible refine xB_split (by simp [hi, hci, hc]) (fun hgd => ?_) (fun hgd => ?_) <;> first | (exfalso; simp at hgd; done) | (exfalso; simp at hgd; omega) | simp -implicitDefEqProofs (maxSteps := 2000000) [hP, hN, hi, hci, hc])
      | (with_reducible refine yB_split (by simp [hi, hci, hc]) (fun hgd => ?_) (fun hgd => ?_) <;> first | (exfalso; simp at hgd; done) | (exfalso; simp at hgd; omega) | (simp -implicitDefEqProofs (maxSteps := 2000000) [hP, hN, hi, hci, hc] <;> (try refine ⟨by kernel_rfl, ?_⟩)))
      | with_reducible refine xTwo_intro ?_ ?_
      | (with_reducible refine xCond_split (fun hcd => ?_) (fun hcd => ?_) <;> (try (exfalso; clear hP hN; simp_all; done)) <;> (try (exfalso; simp at *; omega)))
      | with_reducible refine WP.block ?_
      | (with_reducible ((first | refine WP.skip ?_ | refine WP.exit ?_ | refine WP.ret ?_); simp [hi, hci, hc])))
  | true =>
    rw [hlf] at cl
    by_cases s0 : sort = 0
    · subst s0
      refine detP_of Try.func162 rfl (by kernel_rfl) (by simp [Try.f162]) rfl ?_
      intro C hP hN
      simp only [Try.f162] at hN ⊢
      repeat' (first
        | with_reducible refine WP.seq ?_
        | (with_reducible ((first | refine WP.region (hn := []) ?_ | refine xC_intro (cl) ?_ | refine WP.cond' ?_); simp -implicitDefEqProofs (maxSteps := 2000000) [hP, hN, hi, hci, hc]))
        | (with_reducible ((first | refine WP.draw (hn := []) (by rw [hP]; kernel_rfl) (by kernel_rfl) ?_ | refine yC_intro (cl) ?_); simp -implicitDefEqProofs (maxSteps := 2000000) [hP, hN, hi, hci, hc]; (try refine ⟨by kernel_rfl, ?_⟩)))
        | (with_reducible refine xB_split (by simp [hi, hci, hc]) (fun hgd => ?_) (fun hgd => ?_) <;> first | (exfalso; simp at hgd; done) | (exfalso; simp at hgd; omega) | simp -implicitDefEqProofs (maxSteps := 2000000) [hP, hN, hi, hci, hc])
        | (with_reducible refine yB_split (by simp [hi, hci, hc]) (fun hgd => ?_) (fun hgd => ?_) <;> first | (exfalso; simp at hgd; done) | (exfalso; simp at hgd; omega) | (simp -implicitDefEqProofs (maxSteps := 2000000) [hP, hN, hi, hci, hc] <;> (try refine ⟨by kernel_rfl, ?_⟩)))
        | with_reducible refine xTwo_intro ?_ ?_
        | (with_reducible refine xCond_split (fun hcd => ?_) (fun hcd => ?_) <;> (try (exfalso; clear hP hN; simp_all; done)) <;> (try (exfalso; simp at *; omega)))
        | with_reducible refine WP.block ?_
        | (with_reducible ((first | refine WP.skip ?_ | refine WP.exit ?_ | refine WP.ret ?_); simp [hi, hci, hc])))
      all_goals simp [mayK]
    by_cases s1 : sort = 1
    · subst s1
      by_cases k1 : c.v.kind = 1
      · have k1' : (c.v.kind == 1) = true := by simp [k1]
        refine detP_of Try.func162 rfl (by kernel_rfl) (by simp [Try.f162]) rfl ?_
        intro C hP hN
        simp only [Try.f162] at hN ⊢
        repeat' (first
          | with_reducible refine WP.seq ?_
          | (with_reducible ((first | refine WP.region (hn := []) ?_ | refine xC_intro (cl) ?_ | refine WP.cond' ?_); simp -implicitDefEqProofs (maxSteps := 2000000) [hP, hN, hi, hci, hc, hio, hoi, k1']))
          | (with_reducible ((first | refine WP.draw (hn := []) (by rw [hP]; kernel_rfl) (by kernel_rfl) ?_ | refine yC_intro (cl) ?_); simp -implicitDefEqProofs (maxSteps := 2000000) [hP, hN, hi, hci, hc, hio, hoi, k1']; (try refine ⟨by kernel_rfl, ?_⟩)))
          | (with_reducible refine xB_split (by simp [hi, hci, hc, hio, hoi, k1']) (fun hgd => ?_) (fun hgd => ?_) <;> first | (exfalso; simp at hgd; done) | (exfalso; simp at hgd; omega) | simp -implicitDefEqProofs (maxSteps := 2000000) [hP, hN, hi, hci, hc, hio, hoi, k1'])
          | (with_reducible refine yB_split (by simp [hi, hci, hc, hio, hoi, k1']) (fun hgd => ?_) (fun hgd => ?_) <;> first | (exfalso; simp at hgd; done) | (exfalso; simp at hgd; omega) | (simp -implicitDefEqProofs (maxSteps := 2000000) [hP, hN, hi, hci, hc, hio, hoi, k1'] <;> (try refine ⟨by kernel_rfl, ?_⟩)))
          | with_reducible refine xTwo_intro ?_ ?_
          | (with_reducible refine xCond_split (fun hcd => ?_) (fun hcd => ?_) <;> (try (exfalso; clear hP hN; simp_all; done)) <;> (try (exfalso; simp at *; omega)))
          | with_reducible refine WP.block ?_
          | (with_reducible ((first | refine WP.skip ?_ | refine WP.exit ?_ | refine WP.ret ?_); simp [hi, hci, hc, hio, hoi, k1'])))
        all_goals simp [mayK, k1]
      have k1' : (c.v.kind == 1) = false := by simp [k1]
      by_cases k0 : c.v.kind = 0
      · have k0' : (c.v.kind == 0) = true := by simp [k0]
        refine detP_of Try.func162 rfl (by kernel_rfl) (by simp [Try.f162]) rfl ?_
        intro C hP hN
        simp only [Try.f162] at hN ⊢
        repeat' (first
          | with_reducible refine WP.seq ?_
          | (with_reducible ((first | refine WP.region (hn := []) ?_ | refine xC_intro (cl) ?_ | refine WP.cond' ?_); simp -implicitDefEqProofs (maxSteps := 2000000) [hP, hN, hi, hci, hc, hio, hoi, k1', k0']))
          | (with_reducible ((first | refine WP.draw (hn := []) (by rw [hP]; kernel_rfl) (by kernel_rfl) ?_ | refine yC_intro (cl) ?_); simp -implicitDefEqProofs (maxSteps := 2000000) [hP, hN, hi, hci, hc, hio, hoi, k1', k0']; (try refine ⟨by kernel_rfl, ?_⟩)))
          | (with_reducible refine xB_split (by simp [hi, hci, hc, hio, hoi, k1', k0']) (fun hgd => ?_) (fun hgd => ?_) <;> first | (exfalso; simp at hgd; done) | (exfalso; simp at hgd; omega) | simp -implicitDefEqProofs (maxSteps := 2000000) [hP, hN, hi, hci, hc, hio, hoi, k1', k0'])
          | (with_reducible refine yB_split (by simp [hi, hci, hc, hio, hoi, k1', k0']) (fun hgd => ?_) (fun hgd => ?_) <;> first | (exfalso; simp at hgd; done) | (exfalso; simp at hgd; omega) | (simp -implicitDefEqProofs (maxSteps := 2000000) [hP, hN, hi, hci, hc, hio, hoi, k1', k0'] <;> (try refine ⟨by kernel_rfl, ?_⟩)))
          | with_reducible refine xTwo_intro ?_ ?_
          | (with_reducible refine xCond_split (fun hcd => ?_) (fun hcd => ?_) <;> (try (exfalso; clear hP hN; simp_all; done)) <;> (try (exfalso; simp at *; omega)))
          | with_reducible refine WP.block ?_
          | (with_reducible ((first | refine WP.skip ?_ | refine WP.exit ?_ | refine WP.ret ?_); simp [hi, hci, hc, hio, hoi, k1', k0'])))
        all_goals simp [mayK, k0, hoo]
      have k0' : (c.v.kind == 0) = false := by simp [k0]
      refine detP_of Try.func162 rfl (by kernel_rfl) (by simp [Try.f162]) rfl ?_
      intro C hP hN
      simp only [Try.f162] at hN ⊢
      repeat' (first
        | with_reducible refine WP.seq ?_
        | (with_reducible ((first | refine WP.region (hn := []) ?_ | refine xC_intro (cl) ?_ | refine WP.cond' ?_); simp -implicitDefEqProofs (maxSteps := 2000000) [hP, hN, hi, hci, hc, hio, hoi, k1', k0']))
        | (with_reducible ((first | refine WP.draw (hn := []) (by rw [hP]; kernel_rfl) (by kernel_rfl) ?_ | refine yC_intro (cl) ?_); simp -implicitDefEqProofs (maxSteps := 2000000) [hP, hN, hi, hci, hc, hio, hoi, k1', k0']; (try refine ⟨by kernel_rfl, ?_⟩)))
        | (with_reducible refine xB_split (by simp [hi, hci, hc, hio, hoi, k1', k0']) (fun hgd => ?_) (fun hgd => ?_) <;> first | (exfalso; simp at hgd; done) | (exfalso; simp at hgd; omega) | simp -implicitDefEqProofs (maxSteps := 2000000) [hP, hN, hi, hci, hc, hio, hoi, k1', k0'])
        | (with_reducible refine yB_split (by simp [hi, hci, hc, hio, hoi, k1', k0']) (fun hgd => ?_) (fun hgd => ?_) <;> first | (exfalso; simp at hgd; done) | (exfalso; simp at hgd; omega) | (simp -implicitDefEqProofs (maxSteps := 2000000) [hP, hN, hi, hci, hc, hio, hoi, k1', k0'] <;> (try refine ⟨by kernel_rfl, ?_⟩)))
        | with_reducible refine xTwo_intro ?_ ?_
        | (with_reducible refine xCond_split (fun hcd => ?_) (fun hcd => ?_) <;> (try (exfalso; clear hP hN; simp_all; done)) <;> (try (exfalso; simp at *; omega)))
        | with_reducible refine WP.block ?_
        | (with_reducible ((first | refine WP.skip ?_ | refine WP.exit ?_ | refine WP.ret ?_); simp [hi, hci, hc, hio, hoi, k1', k0'])))
      all_goals simp [mayK, k1, k0]
    by_cases s2 : sort = 2
    · subst s2
      by_cases k1 : c.v.kind = 1
      · have k1' : (c.v.kind == 1) = true := by simp [k1]
        refine detP_of Try.func162 rfl (by kernel_rfl) (by simp [Try.f162]) rfl ?_
        intro C hP hN
        simp only [Try.f162] at hN ⊢
        repeat' (first
          | with_reducible refine WP.seq ?_
          | (with_reducible ((first | refine WP.region (hn := []) ?_ | refine xC_intro (cl) ?_ | refine WP.cond' ?_); simp -implicitDefEqProofs (maxSteps := 2000000) [hP, hN, hi, hci, hc, hio, hoi, k1']))
          | (with_reducible ((first | refine WP.draw (hn := []) (by rw [hP]; kernel_rfl) (by kernel_rfl) ?_ | refine yC_intro (cl) ?_); simp -implicitDefEqProofs (maxSteps := 2000000) [hP, hN, hi, hci, hc, hio, hoi, k1']; (try refine ⟨by kernel_rfl, ?_⟩)))
          | (with_reducible refine xB_split (by simp [hi, hci, hc, hio, hoi, k1']) (fun hgd => ?_) (fun hgd => ?_) <;> first | (exfalso; simp at hgd; done) | (exfalso; simp at hgd; omega) | simp -implicitDefEqProofs (maxSteps := 2000000) [hP, hN, hi, hci, hc, hio, hoi, k1'])
          | (with_reducible refine yB_split (by simp [hi, hci, hc, hio, hoi, k1']) (fun hgd => ?_) (fun hgd => ?_) <;> first | (exfalso; simp at hgd; done) | (exfalso; simp at hgd; omega) | (simp -implicitDefEqProofs (maxSteps := 2000000) [hP, hN, hi, hci, hc, hio, hoi, k1'] <;> (try refine ⟨by kernel_rfl, ?_⟩)))
          | with_reducible refine xTwo_intro ?_ ?_
          | (with_reducible refine xCond_split (fun hcd => ?_) (fun hcd => ?_) <;> (try (exfalso; clear hP hN; simp_all; done)) <;> (try (exfalso; simp at *; omega)))
          | with_reducible refine WP.block ?_
          | (with_reducible ((first | refine WP.skip ?_ | refine WP.exit ?_ | refine WP.ret ?_); simp [hi, hci, hc, hio, hoi, k1'])))
        all_goals simp [mayK, k1]
      have k1' : (c.v.kind == 1) = false := by simp [k1]
      by_cases k0 : c.v.kind = 0
      · have k0' : (c.v.kind == 0) = true := by simp [k0]
        refine detP_of Try.func162 rfl (by kernel_rfl) (by simp [Try.f162]) rfl ?_
        intro C hP hN
        simp only [Try.f162] at hN ⊢
        repeat' (first
          | with_reducible refine WP.seq ?_
          | (with_reducible ((first | refine WP.region (hn := []) ?_ | refine xC_intro (cl) ?_ | refine WP.cond' ?_); simp -implicitDefEqProofs (maxSteps := 2000000) [hP, hN, hi, hci, hc, hio, hoi, k1', k0']))
          | (with_reducible ((first | refine WP.draw (hn := []) (by rw [hP]; kernel_rfl) (by kernel_rfl) ?_ | refine yC_intro (cl) ?_); simp -implicitDefEqProofs (maxSteps := 2000000) [hP, hN, hi, hci, hc, hio, hoi, k1', k0']; (try refine ⟨by kernel_rfl, ?_⟩)))
          | (with_reducible refine xB_split (by simp [hi, hci, hc, hio, hoi, k1', k0']) (fun hgd => ?_) (fun hgd => ?_) <;> first | (exfalso; simp at hgd; done) | (exfalso; simp at hgd; omega) | simp -implicitDefEqProofs (maxSteps := 2000000) [hP, hN, hi, hci, hc, hio, hoi, k1', k0'])
          | (with_reducible refine yB_split (by simp [hi, hci, hc, hio, hoi, k1', k0']) (fun hgd => ?_) (fun hgd => ?_) <;> first | (exfalso; simp at hgd; done) | (exfalso; simp at hgd; omega) | (simp -implicitDefEqProofs (maxSteps := 2000000) [hP, hN, hi, hci, hc, hio, hoi, k1', k0'] <;> (try refine ⟨by kernel_rfl, ?_⟩)))
          | with_reducible refine xTwo_intro ?_ ?_
          | (with_reducible refine xCond_split (fun hcd => ?_) (fun hcd => ?_) <;> (try (exfalso; clear hP hN; simp_all; done)) <;> (try (exfalso; simp at *; omega)))
          | with_reducible refine WP.block ?_
          | (with_reducible ((first | refine WP.skip ?_ | refine WP.exit ?_ | refine WP.ret ?_); simp [hi, hci, hc, hio, hoi, k1', k0'])))
        all_goals simp [mayK, k0, hoo]
      have k0' : (c.v.kind == 0) = false := by simp [k0]
      refine detP_of Try.func162 rfl (by kernel_rfl) (by simp [Try.f162]) rfl ?_
      intro C hP hN
      simp only [Try.f162] at hN ⊢
      repeat' (first
        | with_reducible refine WP.seq ?_
        | (with_reducible ((first | refine WP.region (hn := []) ?_ | refine xC_intro (cl) ?_ | refine WP.cond' ?_); simp -implicitDefEqProofs (maxSteps := 2000000) [hP, hN, hi, hci, hc, hio, hoi, k1', k0']))
        | (with_reducible ((first | refine WP.draw (hn := []) (by rw [hP]; kernel_rfl) (by kernel_rfl) ?_ | refine yC_intro (cl) ?_); simp -implicitDefEqProofs (maxSteps := 2000000) [hP, hN, hi, hci, hc, hio, hoi, k1', k0']; (try refine ⟨by kernel_rfl, ?_⟩)))
        | (with_reducible refine xB_split (by simp [hi, hci, hc, hio, hoi, k1', k0']) (fun hgd => ?_) (fun hgd => ?_) <;> first | (exfalso; simp at hgd; done) | (exfalso; simp at hgd; omega) | simp -implicitDefEqProofs (maxSteps := 2000000) [hP, hN, hi, hci, hc, hio, hoi, k1', k0'])
        | (with_reducible refine yB_split (by simp [hi, hci, hc, hio, hoi, k1', k0']) (fun hgd => ?_) (fun hgd => ?_) <;> first | (exfalso; simp at hgd; done) | (exfalso; simp at hgd; omega) | (simp -implicitDefEqProofs (maxSteps := 2000000) [hP, hN, hi, hci, hc, hio, hoi, k1', k0'] <;> (try refine ⟨by kernel_rfl, ?_⟩)))
        | with_reducible refine xTwo_intro ?_ ?_
        | (with_reducible refine xCond_split (fun hcd => ?_) (fun hcd => ?_) <;> (try (exfalso; clear hP hN; simp_all; done)) <;> (try (exfalso; simp at *; omega)))
        | with_reducible refine WP.block ?_
        | (with_reducible ((first | refine WP.skip ?_ | refine WP.exit ?_ | refine WP.ret ?_); simp [hi, hci, hc, hio, hoi, k1', k0'])))
      all_goals simp [mayK, k1, k0]
    have e0 : (sort == 0) = false := by simp [s0]
    have e1 : (sort == 1) = false := by simp [s1]
    have e2 : (sort == 2) = false := by simp [s2]
    refine detP_of Try.func162 rfl (by kernel_rfl) (by simp [Try.f162]) rfl ?_
    intro C hP hN
    simp only [Try.f162] at hN ⊢
    repeat' (first
      | with_reducible refine WP.seq ?_
      | (with_reducible ((first | refine WP.region (hn := []) ?_ | refine xC_intro (cl) ?_ | refine WP.cond' ?_); simp -implicitDefEqProofs (maxSteps := 2000000) [hP, hN, hi, hci, hc, e0, e1, e2, s0, s1, s2]))
      | (with_reducible ((first | refine WP.draw (hn := []) (by rw [hP]; kernel_rfl) (by kernel_rfl) ?_ | refine yC_intro (cl) ?_); simp -implicitDefEqProofs (maxSteps := 2000000) [hP, hN, hi, hci, hc, e0, e1, e2, s0, s1, s2]; (try refine ⟨by kernel_rfl, ?_⟩)))
      | (with_reducible refine xB_split (by simp [hi, hci, hc, e0, e1, e2, s0, s1, s2]) (fun hgd => ?_) (fun hgd => ?_) <;> first | (exfalso; simp at hgd; done) | (exfalso; simp at hgd; omega) | simp -implicitDefEqProofs (maxSteps := 2000000) [hP, hN, hi, hci, hc, e0, e1, e2, s0, s1, s2])
      | (with_reducible refine yB_split (by simp [hi, hci, hc, e0, e1, e2, s0, s1, s2]) (fun hgd => ?_) (fun hgd => ?_) <;> first | (exfalso; simp at hgd; done) | (exfalso; simp at hgd; omega) | (simp -implicitDefEqProofs (maxSteps := 2000000) [hP, hN, hi, hci, hc, e0, e1, e2, s0, s1, s2] <;> (try refine ⟨by kernel_rfl, ?_⟩)))
      | with_reducible refine xTwo_intro ?_ ?_
      | (with_reducible refine xCond_split (fun hcd => ?_) (fun hcd => ?_) <;> (try (exfalso; clear hP hN; simp_all; done)) <;> (try (exfalso; simp at *; omega)))
      | with_reducible refine WP.block ?_
      | (with_reducible ((first | refine WP.skip ?_ | refine WP.exit ?_ | refine WP.ret ?_); simp [hi, hci, hc, e0, e1, e2, s0, s1, s2])))
    all_goals simp [mayK, s0, s1, s2]
theorem rep_set {n i : Nat} {v : PV} : (List.replicate n v).set i v = List.replicate n v := by
  apply List.ext_getElem?; intro j
  rw [List.getElem?_set]
  by_cases h : i = j
  · subst h
    rw [if_pos rfl, List.getElem?_replicate, List.length_replicate]
  · rw [if_neg h]
theorem widR_nil (b : Bx) : widR [] [] b = -1 := by
  unfold widR; split <;> simp [widT]
set_option maxRecDepth 10000 in
set_option maxHeartbeats 4000000 in
theorem openedE (t : Tr) (w : Int) (hl : t.cells.length ≤ 9223372036854775807) : DetH Try.prog 108 [.pv (.agg [.sl [], .sl []]), .pv (encT t), .pv (Z w)] [] [] (.pv (.tup [if validT t then encX t.cells (boxesL t) (List.replicate t.cells.length false) else .agg [.sl [], .sl [], .sl []], B (validT t)])) := by
  have cb := d52 t hl
  cases hv : validT t with
  | false =>
    rw [hv] at cb
    refine detP_of Try.func108 rfl (by kernel_rfl) (by simp [Try.f108]) rfl ?_
    intro C hP hN
    simp only [Try.f108] at hN ⊢
    repeat' (first
      | with_reducible refine WP.seq ?_
      | (with_reducible ((first | refine WP.region (hn := []) ?_ | refine xC_intro (cb) ?_ | refine WP.cond' ?_); simp -implicitDefEqProofs (maxSteps := 2000000) [hP, hN]))
      | (with_reducible ((first | refine WP.draw (hn := []) (by rw [hP]; kernel_rfl) (by kernel_rfl) ?_ | refine yC_intro (cb) ?_); simp -implicitDefEqProofs (maxSteps := 2000000) [hP, hN]; (try refine ⟨by kernel_rfl, ?_⟩)))
      | (with_reducible refine xB_split (by simp) (fun hgd => ?_) (fun hgd => ?_) <;> first | (exfalso; simp at hgd; done) | (exfalso; simp at hgd; omega) | simp -implicitDefEqProofs (maxSteps := 2000000) [hP, hN])
      | (with_reducible refine yB_split (by simp) (fun hgd => ?_) (fun hgd => ?_) <;> first | (exfalso; simp at hgd; done) | (exfalso; simp at hgd; omega) | (simp -implicitDefEqProofs (maxSteps := 2000000) [hP, hN] <;> (try refine ⟨by kernel_rfl, ?_⟩)))
      | with_reducible refine xTwo_intro ?_ ?_
      | (with_reducible refine xCond_split (fun hcd => ?_) (fun hcd => ?_) <;> (try (exfalso; clear hP hN; simp_all; done)) <;> (try (exfalso; simp at *; omega)))
      | with_reducible refine WP.block ?_
      | (with_reducible ((first | refine WP.skip ?_ | refine WP.exit ?_ | refine WP.ret ?_); simp)))
  | true =>
    rw [hv] at cb
    have hbl := boxesL_len hv
    have hz := sizeOk_iff.1 (valid_size hv)
    simp only [if_true]
    refine detP_of Try.func108 rfl (by kernel_rfl) (by simp [Try.f108]) rfl ?_
    intro C hP hN
    simp only [Try.f108] at hN ⊢
    repeat' (first
      | with_reducible refine WP.seq ?_
      | (with_reducible ((first | refine WP.region (hn := []) ?_ | refine xC_intro (cb) ?_ | refine WP.cond' ?_); simp -implicitDefEqProofs (maxSteps := 2000000) [hP, hN, hbl, show (1 : Int) * t.cells.length ≤ 281474976710656 by omega, show (t.cells.length : Int) ≤ 281474976710656 by omega, show (t.cells.length : Int) ≤ 9223372036854775807 by omega]))
      | (with_reducible ((first | refine WP.draw (hn := []) (by rw [hP]; kernel_rfl) (by kernel_rfl) ?_ | refine yC_intro (cb) ?_); simp -implicitDefEqProofs (maxSteps := 2000000) [hP, hN, hbl, show (1 : Int) * t.cells.length ≤ 281474976710656 by omega, show (t.cells.length : Int) ≤ 281474976710656 by omega, show (t.cells.length : Int) ≤ 9223372036854775807 by omega]; (try refine ⟨by kernel_rfl, ?_⟩)))
      | (with_reducible refine xB_split (by simp [hbl, show (1 : Int) * t.cells.length ≤ 281474976710656 by omega, show (t.cells.length : Int) ≤ 281474976710656 by omega, show (t.cells.length : Int) ≤ 9223372036854775807 by omega]) (fun hgd => ?_) (fun hgd => ?_) <;> first | (exfalso; simp at hgd; done) | (exfalso; simp at hgd; omega) | simp -implicitDefEqProofs (maxSteps := 2000000) [hP, hN, hbl, show (1 : Int) * t.cells.length ≤ 281474976710656 by omega, show (t.cells.length : Int) ≤ 281474976710656 by omega, show (t.cells.length : Int) ≤ 9223372036854775807 by omega])
      | (with_reducible refine yB_split (by simp [hbl, show (1 : Int) * t.cells.length ≤ 281474976710656 by omega, show (t.cells.length : Int) ≤ 281474976710656 by omega, show (t.cells.length : Int) ≤ 9223372036854775807 by omega]) (fun hgd => ?_) (fun hgd => ?_) <;> first | (exfalso; simp at hgd; done) | (exfalso; simp at hgd; omega) | (simp -implicitDefEqProofs (maxSteps := 2000000) [hP, hN, hbl, show (1 : Int) * t.cells.length ≤ 281474976710656 by omega, show (t.cells.length : Int) ≤ 281474976710656 by omega, show (t.cells.length : Int) ≤ 9223372036854775807 by omega] <;> (try refine ⟨by kernel_rfl, ?_⟩)))
      | with_reducible refine xTwo_intro ?_ ?_
      | (with_reducible refine xCond_split (fun hcd => ?_) (fun hcd => ?_) <;> (try (exfalso; clear hP hN; simp_all; done)) <;> (try (exfalso; simp at *; omega)))
      | with_reducible refine WP.block ?_
      | (with_reducible ((first | refine WP.skip ?_ | refine WP.exit ?_ | refine WP.ret ?_); simp [hbl, show (1 : Int) * t.cells.length ≤ 281474976710656 by omega, show (t.cells.length : Int) ≤ 281474976710656 by omega, show (t.cells.length : Int) ≤ 9223372036854775807 by omega])))
    refine WP.loopN [] t.cells.length (fun i st => st.t 3 = .ptr 3 0 ∧ st.t 6 = .ptr 6 0 ∧ st.t 8 = .pv (.sl ((boxesL t).map iv)) ∧ st.t 10 = .ptr 10 0 ∧ st.t 11 = .pv (Z i) ∧ st.h 3 = some (.box [.pv (.sl []), .pv (.sl [])] true false) ∧ st.h 6 = some (.box [.pv (.val (.slice none 0 0)), .pv (.val (.slice none 0 0)), .pv (.val (.slice none 0 0))] true false) ∧ st.h 10 = some (.box [.pv (.sl (t.cells.map encC)), .pv (.sl ((boxesL t).map iv)), .arr 26 t.cells.length] true false) ∧ st.h 26 = some (.row 4 1 (List.replicate t.cells.length (B false)) 0)) (by simp) ?_
    rintro i st hi ⟨g3, g6, g8, g10, g11, hb3, hb6, hb10, hb26⟩
    by_cases hlt : i < t.cells.length
    · have hw := wr_succ hlt (by omega)
      have hib : i < (boxesL t).length := by omega
      have hbi : (boxesL t)[i]? = some (boxesL t)[i] := List.getElem?_eq_getElem hib
      have hbok := boxesL_ok hbi
      generalize hbx : (boxesL t)[i] = b at *
      have cw : DetH Try.prog 161 [.pv (.agg [.sl [], .sl []]), .pv (iv b)] [] [] (.pv (Z (-1))) := by
        have := d161 [] [] b (by simp) (by simp) (by omega)
        rw [widR_nil] at this; exact this
      repeat' (first
        | with_reducible refine WP.seq ?_
        | (with_reducible ((first | refine WP.region (hn := []) ?_ | refine xC_intro (cw) ?_ | refine WP.cond' ?_); simp -implicitDefEqProofs (maxSteps := 2000000) [hP, hN, g3, g6, g8, g10, g11, hb3, hb6, hb10, hb26, hlt, hw, hib, hbl, hbi, hbx, rep_set]))
        | (with_reducible ((first | refine WP.draw (hn := []) (by rw [hP]; kernel_rfl) (by kernel_rfl) ?_ | refine yC_intro (cw) ?_); simp -implicitDefEqProofs (maxSteps := 2000000) [hP, hN, g3, g6, g8, g10, g11, hb3, hb6, hb10, hb26, hlt, hw, hib, hbl, hbi, hbx, rep_set]; (try refine ⟨by kernel_rfl, ?_⟩)))
        | (with_reducible refine xB_split (by simp [g3, g6, g8, g10, g11, hb3, hb6, hb10, hb26, hlt, hw, hib, hbl, hbi, hbx, rep_set]) (fun hgd => ?_) (fun hgd => ?_) <;> first | (exfalso; simp at hgd; done) | (exfalso; simp at hgd; omega) | simp -implicitDefEqProofs (maxSteps := 2000000) [hP, hN, g3, g6, g8, g10, g11, hb3, hb6, hb10, hb26, hlt, hw, hib, hbl, hbi, hbx, rep_set])
        | (with_reducible refine yB_split (by simp [g3, g6, g8, g10, g11, hb3, hb6, hb10, hb26, hlt, hw, hib, hbl, hbi, hbx, rep_set]) (fun hgd => ?_) (fun hgd => ?_) <;> first | (exfalso; simp at hgd; done) | (exfalso; simp at hgd; omega) | (simp -implicitDefEqProofs (maxSteps := 2000000) [hP, hN, g3, g6, g8, g10, g11, hb3, hb6, hb10, hb26, hlt, hw, hib, hbl, hbi, hbx, rep_set] <;> (try refine ⟨by kernel_rfl, ?_⟩)))
        | with_reducible refine xTwo_intro ?_ ?_
        | (with_reducible refine xCond_split (fun hcd => ?_) (fun hcd => ?_) <;> (try (exfalso; clear hP hN; simp_all; done)) <;> (try (exfalso; simp at *; omega)))
        | with_reducible refine WP.block ?_
        | (with_reducible ((first | refine WP.skip ?_ | refine WP.exit ?_ | refine WP.ret ?_); simp [g3, g6, g8, g10, g11, hb3, hb6, hb10, hb26, hlt, hw, hib, hbl, hbi, hbx, rep_set])))
    · skip
      repeat' (first
        | with_reducible refine WP.seq ?_
        | (with_reducible ((first | refine WP.region (hn := []) ?_ | refine WP.cond' ?_); simp -implicitDefEqProofs (maxSteps := 2000000) [hP, hN, g3, g6, g8, g10, g11, hb3, hb6, hb10, hb26, hlt, hbl]))
        | (with_reducible ((first | refine WP.draw (hn := []) (by rw [hP]; kernel_rfl) (by kernel_rfl) ?_); simp -implicitDefEqProofs (maxSteps := 2000000) [hP, hN, g3, g6, g8, g10, g11, hb3, hb6, hb10, hb26, hlt, hbl]; (try refine ⟨by kernel_rfl, ?_⟩)))
        | (with_reducible refine xB_split (by simp [g3, g6, g8, g10, g11, hb3, hb6, hb10, hb26, hlt, hbl]) (fun hgd => ?_) (fun hgd => ?_) <;> first | (exfalso; simp at hgd; done) | (exfalso; simp at hgd; omega) | simp -implicitDefEqProofs (maxSteps := 2000000) [hP, hN, g3, g6, g8, g10, g11, hb3, hb6, hb10, hb26, hlt, hbl])
        | (with_reducible refine yB_split (by simp [g3, g6, g8, g10, g11, hb3, hb6, hb10, hb26, hlt, hbl]) (fun hgd => ?_) (fun hgd => ?_) <;> first | (exfalso; simp at hgd; done) | (exfalso; simp at hgd; omega) | (simp -implicitDefEqProofs (maxSteps := 2000000) [hP, hN, g3, g6, g8, g10, g11, hb3, hb6, hb10, hb26, hlt, hbl] <;> (try refine ⟨by kernel_rfl, ?_⟩)))
        | with_reducible refine xTwo_intro ?_ ?_
        | (with_reducible refine xCond_split (fun hcd => ?_) (fun hcd => ?_) <;> (try (exfalso; clear hP hN; simp_all; done)) <;> (try (exfalso; simp at *; omega)))
        | with_reducible refine WP.block ?_
        | (with_reducible ((first | refine WP.skip ?_ | refine WP.exit ?_ | refine WP.ret ?_); simp [g3, g6, g8, g10, g11, hb3, hb6, hb10, hb26, hlt, hbl])))
end Go.Ab

/- Contracts: the reference's best chain. -/
namespace Go.Ab
open Go.Proofs
def bxN (bs : List Bx) (i : Nat) : Bx := bs[i]?.getD []
def hasN (bs : List Bx) (p : List Int) (i : Nat) : Bool := hasC (bxN bs i) p
def tchN (bs : List Bx) (i j : Nat) : Bool := touchC (bxN bs i) (bxN bs j)
theorem far_get {n : Nat} {may has : Nat → Bool} {tch : Nat → Nat → Bool} {s : BS} (h : BInv2 n may has tch s) {i : Nat} (hi : i < n) : s.far[i]? = some (fAt s.far i) := by
  have : i < s.far.length := by rw [h.len]; exact hi
  simp [fAt, List.getElem?_eq_getElem this]
theorem q_get {s : BS} {k : Nat} (h : k < s.q.length) : s.q[k]? = some (qAt s k) := by simp [qAt, List.getElem?_eq_getElem h]
theorem q_mem {s : BS} {k : Nat} (h : k < s.q.length) : qAt s k ∈ s.q := List.mem_of_getElem? (q_get h)
set_option maxRecDepth 10000 in
set_option maxHeartbeats 32000000 in
theorem d109 (cs : List Cel) (bs : List Bx) (op : List Bool) (p q : List Int) (sort : Int) (hn : cs.length ≤ 2048) (hb : bs.length = cs.length) (ho : op.length = cs.length) (hbx : ∀ b ∈ bs, b.length ≤ 9223372036854775807) (hp : p.length ≤ 9223372036854775807) (hq : q.length ≤ 9223372036854775807) (hsym : ∀ i j, i < cs.length → j < cs.length → tchN bs i j = tchN bs j i) : DetH Try.prog 109 [.pv (encX cs bs op), .pv (zs p), .pv (zs q), .pv (Z sort)] [] [] (.pv (.tup [ns (bestL cs.length (mayB cs op sort) (hasN bs q) (hasN bs p) (tchN bs)), B (bestOk cs.length (mayB cs op sort) (hasN bs q) (hasN bs p) (tchN bs))])) := by
  have hbg : ∀ i, i < cs.length → bs[i]? = some (bxN bs i) ∧ (bxN bs i).length ≤ 9223372036854775807 := fun i hi => by
    have hib : i < bs.length := by omega
    have e : bs[i]? = some (bxN bs i) := by simp [bxN, List.getElem?_eq_getElem hib]
    exact ⟨e, hbx _ (List.mem_of_getElem? e)⟩
  have cm := fun i hi => d162 cs bs op i sort hi ho
  have chp := fun (i : Nat) (hi : i < cs.length) => d30 (bxN bs i) p (hbg i hi).2 hp
  have chq := fun (i : Nat) (hi : i < cs.length) => d30 (bxN bs i) q (hbg i hi).2 hq
  have cto := fun (i j : Nat) (hi : i < cs.length) (hj : j < cs.length) => d55 (bxN bs i) (bxN bs j) (hbg i hi).2 (hbg j hj).2
  simp only [hasL_eq] at chp chq
  simp only [touchL_eq] at cto
  have chp' : ∀ i, i < cs.length → DetH Try.prog 30 [.pv (iv (bxN bs i)), .pv (zs p)] [] [] (.pv (B (hasN bs p i))) := chp
  have chq' : ∀ i, i < cs.length → DetH Try.prog 30 [.pv (iv (bxN bs i)), .pv (zs q)] [] [] (.pv (B (hasN bs q i))) := chq
  have cto' : ∀ i j, i < cs.length → j < cs.length → DetH Try.prog 55 [.pv (iv (bxN bs i)), .pv (iv (bxN bs j))] [] [] (.pv (B (tchN bs i j))) := cto
  clear chp chq cto
  generalize mayB cs op sort = may at *
  generalize hasN bs p = hasF at *
  generalize hasN bs q = has at *
  generalize tchN bs = tch at *
  generalize hnn : cs.length = n at *
  have hbn : ∀ i, i < n → i < bs.length := fun i hi => by omega
  have hbg' : ∀ i (hi : i < n), bs[i]'(hbn i hi) = bxN bs i := fun i hi => get_of (hbg i hi).1 (hbn i hi)
  refine detP_of Try.func109 rfl (by kernel_rfl) (by simp [Try.f109]) rfl ?_
  intro C hP hN
  simp only [Try.f109] at hN ⊢
  repeat' (first
    | with_reducible refine WP.seq ?_
    | (with_reducible ((first | refine WP.region (hn := [12]) ?_ | refine WP.cond' ?_); simp -implicitDefEqProofs (maxSteps := 2000000) [hP, hN, hnn, show (8 : Int) * n ≤ 281474976710656 by omega, show (n : Int) ≤ 281474976710656 by omega, show (n : Int) ≤ 9223372036854775807 by omega]))
    | (with_reducible ((first | refine WP.draw (hn := [12]) (by rw [hP]; kernel_rfl) (by kernel_rfl) ?_); simp -implicitDefEqProofs (maxSteps := 2000000) [hP, hN, hnn, show (8 : Int) * n ≤ 281474976710656 by omega, show (n : Int) ≤ 281474976710656 by omega, show (n : Int) ≤ 9223372036854775807 by omega]; (try refine ⟨by kernel_rfl, ?_⟩)))
    | (with_reducible refine xB_split (by simp [hnn, show (8 : Int) * n ≤ 281474976710656 by omega, show (n : Int) ≤ 281474976710656 by omega, show (n : Int) ≤ 9223372036854775807 by omega]) (fun hgd => ?_) (fun hgd => ?_) <;> first | (exfalso; simp at hgd; done) | (exfalso; simp at hgd; omega) | simp -implicitDefEqProofs (maxSteps := 2000000) [hP, hN, hnn, show (8 : Int) * n ≤ 281474976710656 by omega, show (n : Int) ≤ 281474976710656 by omega, show (n : Int) ≤ 9223372036854775807 by omega])
    | (with_reducible refine yB_split (by simp [hnn, show (8 : Int) * n ≤ 281474976710656 by omega, show (n : Int) ≤ 281474976710656 by omega, show (n : Int) ≤ 9223372036854775807 by omega]) (fun hgd => ?_) (fun hgd => ?_) <;> first | (exfalso; simp at hgd; done) | (exfalso; simp at hgd; omega) | (simp -implicitDefEqProofs (maxSteps := 2000000) [hP, hN, hnn, show (8 : Int) * n ≤ 281474976710656 by omega, show (n : Int) ≤ 281474976710656 by omega, show (n : Int) ≤ 9223372036854775807 by omega] <;> (try refine ⟨by kernel_rfl, ?_⟩)))
    | with_reducible refine xTwo_intro ?_ ?_
    | (with_reducible refine xCond_split (fun hcd => ?_) (fun hcd => ?_) <;> (try (exfalso; clear hP hN; simp_all; done)) <;> (try (exfalso; simp at *; omega)))
    | with_reducible refine WP.block ?_
    | (with_reducible ((first | refine WP.skip ?_ | refine WP.exit ?_ | refine WP.ret ?_); simp [hnn, show (8 : Int) * n ≤ 281474976710656 by omega, show (n : Int) ≤ 281474976710656 by omega, show (n : Int) ≤ 9223372036854775807 by omega])))
  refine WP.loopN [] n (fun i st => st.t 1 = .pv (zs p) ∧ st.t 2 = .pv (zs q) ∧ st.t 3 = .pv (Z sort) ∧ st.t 4 = .ptr 4 0 ∧ st.t 10 = .pv (Z n) ∧ st.t 11 = .arr 25 n ∧ st.t 12 = .arr 12 (bI n may has i).q.length ∧ st.t 13 = .pv (Z i) ∧ st.h 4 = some (.box [.pv (.sl (cs.map encC)), .pv (.sl (bs.map iv)), .pv (.sl (op.map B))] true false) ∧ st.h 142 = none ∧ st.h 12 = some (.row 3 1 ((bI n may has i).q.map zN) 0) ∧ st.h 25 = some (.row 3 1 ((bI n may has i).far.map Z) 0)) (by simp [bI]) ?_
  rintro i st hi ⟨g1, g2, g3, g4, g10, g11, g12, g13, hb4, hb142, hb12, hb25⟩
  obtain ⟨hI, hIz⟩ := bI_inv (n := n) (may := may) (has := has) (tch := tch) i hi
  have hle := hI.le
  have hfl := hI.len
  by_cases hlt : i < n
  · have hw := wr_succ hlt (by omega)
    have hib := hbn i hlt
    have hbi := (hbg i hlt).1
    have hbi' := hbg' i hlt
    have hsu : bI n may has (i + 1) = if may i && has i then ⟨(bI n may has i).far.set i 1, (bI n may has i).q ++ [i]⟩ else bI n may has i := rfl
    generalize bI n may has i = s at *
    have c1 := cm i hlt
    have c2 := chq' i hlt
    cases hm : may i with
    | false =>
      rw [hm] at c1
      rw [hm, Bool.false_and, if_neg (by simp)] at hsu
      repeat' (first
        | with_reducible refine WP.seq ?_
        | (with_reducible ((first | refine WP.region (hn := []) ?_ | refine xC_intro (c1) ?_ | refine WP.cond' ?_); simp -implicitDefEqProofs (maxSteps := 2000000) [hP, hN, g1, g2, g3, g4, g10, g11, g12, g13, hb4, hb142, hb12, hb25, hlt, hw]))
        | (with_reducible ((first | refine WP.draw (hn := []) (by rw [hP]; kernel_rfl) (by kernel_rfl) ?_ | refine yC_intro (c1) ?_); simp -implicitDefEqProofs (maxSteps := 2000000) [hP, hN, g1, g2, g3, g4, g10, g11, g12, g13, hb4, hb142, hb12, hb25, hlt, hw]; (try refine ⟨by kernel_rfl, ?_⟩)))
        | (with_reducible refine xB_split (by simp [g1, g2, g3, g4, g10, g11, g12, g13, hb4, hb142, hb12, hb25, hlt, hw]) (fun hgd => ?_) (fun hgd => ?_) <;> first | (exfalso; simp at hgd; done) | (exfalso; simp at hgd; omega) | simp -implicitDefEqProofs (maxSteps := 2000000) [hP, hN, g1, g2, g3, g4, g10, g11, g12, g13, hb4, hb142, hb12, hb25, hlt, hw])
        | (with_reducible refine yB_split (by simp [g1, g2, g3, g4, g10, g11, g12, g13, hb4, hb142, hb12, hb25, hlt, hw]) (fun hgd => ?_) (fun hgd => ?_) <;> first | (exfalso; simp at hgd; done) | (exfalso; simp at hgd; omega) | (simp -implicitDefEqProofs (maxSteps := 2000000) [hP, hN, g1, g2, g3, g4, g10, g11, g12, g13, hb4, hb142, hb12, hb25, hlt, hw] <;> (try refine ⟨by kernel_rfl, ?_⟩)))
        | with_reducible refine xTwo_intro ?_ ?_
        | (with_reducible refine xCond_split (fun hcd => ?_) (fun hcd => ?_) <;> (try (exfalso; clear hP hN; simp_all; done)) <;> (try (exfalso; simp at *; omega)))
        | with_reducible refine WP.block ?_
        | (with_reducible ((first | refine WP.skip ?_ | refine WP.exit ?_ | refine WP.ret ?_); simp [g1, g2, g3, g4, g10, g11, g12, g13, hb4, hb142, hb12, hb25, hlt, hw])))
      all_goals simp [hsu]
    | true =>
      rw [hm] at c1
      cases hh : has i with
      | false =>
        rw [hh] at c2
        rw [hm, hh, if_neg (by simp)] at hsu
        repeat' (first
          | with_reducible refine WP.seq ?_
          | (with_reducible ((first | refine WP.region (hn := []) ?_ | refine xC_intro (c1) ?_ | refine xC_intro (c2) ?_ | refine WP.cond' ?_); simp -implicitDefEqProofs (maxSteps := 2000000) [hP, hN, g1, g2, g3, g4, g10, g11, g12, g13, hb4, hb142, hb12, hb25, hlt, hw, hib, hbi, hbi']))
          | (with_reducible ((first | refine WP.draw (hn := []) (by rw [hP]; kernel_rfl) (by kernel_rfl) ?_ | refine yC_intro (c1) ?_ | refine yC_intro (c2) ?_); simp -implicitDefEqProofs (maxSteps := 2000000) [hP, hN, g1, g2, g3, g4, g10, g11, g12, g13, hb4, hb142, hb12, hb25, hlt, hw, hib, hbi, hbi']; (try refine ⟨by kernel_rfl, ?_⟩)))
          | (with_reducible refine xB_split (by simp [g1, g2, g3, g4, g10, g11, g12, g13, hb4, hb142, hb12, hb25, hlt, hw, hib, hbi, hbi']) (fun hgd => ?_) (fun hgd => ?_) <;> first | (exfalso; simp at hgd; done) | (exfalso; simp at hgd; omega) | simp -implicitDefEqProofs (maxSteps := 2000000) [hP, hN, g1, g2, g3, g4, g10, g11, g12, g13, hb4, hb142, hb12, hb25, hlt, hw, hib, hbi, hbi'])
          | (with_reducible refine yB_split (by simp [g1, g2, g3, g4, g10, g11, g12, g13, hb4, hb142, hb12, hb25, hlt, hw, hib, hbi, hbi']) (fun hgd => ?_) (fun hgd => ?_) <;> first | (exfalso; simp at hgd; done) | (exfalso; simp at hgd; omega) | (simp -implicitDefEqProofs (maxSteps := 2000000) [hP, hN, g1, g2, g3, g4, g10, g11, g12, g13, hb4, hb142, hb12, hb25, hlt, hw, hib, hbi, hbi'] <;> (try refine ⟨by kernel_rfl, ?_⟩)))
          | with_reducible refine xTwo_intro ?_ ?_
          | (with_reducible refine xCond_split (fun hcd => ?_) (fun hcd => ?_) <;> (try (exfalso; clear hP hN; simp_all; done)) <;> (try (exfalso; simp at *; omega)))
          | with_reducible refine WP.block ?_
          | (with_reducible ((first | refine WP.skip ?_ | refine WP.exit ?_ | refine WP.ret ?_); simp [g1, g2, g3, g4, g10, g11, g12, g13, hb4, hb142, hb12, hb25, hlt, hw, hib, hbi, hbi'])))
        all_goals simp [hsu]
      | true =>
        rw [hh] at c2
        rw [hm, hh, if_pos (by simp)] at hsu
        repeat' (first
          | with_reducible refine WP.seq ?_
          | (with_reducible ((first | refine WP.region (hn := []) ?_ | refine xC_intro (c1) ?_ | refine xC_intro (c2) ?_ | refine WP.cond' ?_); simp -implicitDefEqProofs (maxSteps := 2000000) [hP, hN, g1, g2, g3, g4, g10, g11, g12, g13, hb4, hb142, hb12, hb25, hlt, hw, hib, hbi, hbi', hfl, show (s.q.length + 1) * 8 ≤ 140737488355328 by omega, show s.q.length + 1 ≤ 9223372036854775807 by omega]))
          | (with_reducible ((first | refine WP.draw (hn := []) (by rw [hP]; kernel_rfl) (by kernel_rfl) ?_ | refine yC_intro (c1) ?_ | refine yC_intro (c2) ?_); simp -implicitDefEqProofs (maxSteps := 2000000) [hP, hN, g1, g2, g3, g4, g10, g11, g12, g13, hb4, hb142, hb12, hb25, hlt, hw, hib, hbi, hbi', hfl, show (s.q.length + 1) * 8 ≤ 140737488355328 by omega, show s.q.length + 1 ≤ 9223372036854775807 by omega]; (try refine ⟨by kernel_rfl, ?_⟩)))
          | (with_reducible refine xB_split (by simp [g1, g2, g3, g4, g10, g11, g12, g13, hb4, hb142, hb12, hb25, hlt, hw, hib, hbi, hbi', hfl, show (s.q.length + 1) * 8 ≤ 140737488355328 by omega, show s.q.length + 1 ≤ 9223372036854775807 by omega]) (fun hgd => ?_) (fun hgd => ?_) <;> first | (exfalso; simp at hgd; done) | (exfalso; simp at hgd; omega) | simp -implicitDefEqProofs (maxSteps := 2000000) [hP, hN, g1, g2, g3, g4, g10, g11, g12, g13, hb4, hb142, hb12, hb25, hlt, hw, hib, hbi, hbi', hfl, show (s.q.length + 1) * 8 ≤ 140737488355328 by omega, show s.q.length + 1 ≤ 9223372036854775807 by omega])
          | (with_reducible refine yB_split (by simp [g1, g2, g3, g4, g10, g11, g12, g13, hb4, hb142, hb12, hb25, hlt, hw, hib, hbi, hbi', hfl, show (s.q.length + 1) * 8 ≤ 140737488355328 by omega, show s.q.length + 1 ≤ 9223372036854775807 by omega]) (fun hgd => ?_) (fun hgd => ?_) <;> first | (exfalso; simp at hgd; done) | (exfalso; simp at hgd; omega) | (simp -implicitDefEqProofs (maxSteps := 2000000) [hP, hN, g1, g2, g3, g4, g10, g11, g12, g13, hb4, hb142, hb12, hb25, hlt, hw, hib, hbi, hbi', hfl, show (s.q.length + 1) * 8 ≤ 140737488355328 by omega, show s.q.length + 1 ≤ 9223372036854775807 by omega] <;> (try refine ⟨by kernel_rfl, ?_⟩)))
          | with_reducible refine xTwo_intro ?_ ?_
          | (with_reducible refine xCond_split (fun hcd => ?_) (fun hcd => ?_) <;> (try (exfalso; clear hP hN; simp_all; done)) <;> (try (exfalso; simp at *; omega)))
          | with_reducible refine WP.block ?_
          | (with_reducible ((first | refine WP.skip ?_ | refine WP.exit ?_ | refine WP.ret ?_); simp [g1, g2, g3, g4, g10, g11, g12, g13, hb4, hb142, hb12, hb25, hlt, hw, hib, hbi, hbi', hfl, show (s.q.length + 1) * 8 ≤ 140737488355328 by omega, show s.q.length + 1 ≤ 9223372036854775807 by omega])))
        all_goals (simp [hsu, List.map_set])
  have hi' : i = n := by omega
  subst hi'
  repeat' (first
    | with_reducible refine WP.seq ?_
    | (with_reducible ((first | refine WP.region (hn := []) ?_ | refine WP.cond' ?_); simp -implicitDefEqProofs (maxSteps := 2000000) [hP, hN, g1, g2, g3, g4, g10, g11, g12, g13, hb4, hb142, hb12, hb25, hlt]))
    | (with_reducible ((first | refine WP.draw (hn := []) (by rw [hP]; kernel_rfl) (by kernel_rfl) ?_); simp -implicitDefEqProofs (maxSteps := 2000000) [hP, hN, g1, g2, g3, g4, g10, g11, g12, g13, hb4, hb142, hb12, hb25, hlt]; (try refine ⟨by kernel_rfl, ?_⟩)))
    | (with_reducible refine xB_split (by simp [g1, g2, g3, g4, g10, g11, g12, g13, hb4, hb142, hb12, hb25, hlt]) (fun hgd => ?_) (fun hgd => ?_) <;> first | (exfalso; simp at hgd; done) | (exfalso; simp at hgd; omega) | simp -implicitDefEqProofs (maxSteps := 2000000) [hP, hN, g1, g2, g3, g4, g10, g11, g12, g13, hb4, hb142, hb12, hb25, hlt])
    | (with_reducible refine yB_split (by simp [g1, g2, g3, g4, g10, g11, g12, g13, hb4, hb142, hb12, hb25, hlt]) (fun hgd => ?_) (fun hgd => ?_) <;> first | (exfalso; simp at hgd; done) | (exfalso; simp at hgd; omega) | (simp -implicitDefEqProofs (maxSteps := 2000000) [hP, hN, g1, g2, g3, g4, g10, g11, g12, g13, hb4, hb142, hb12, hb25, hlt] <;> (try refine ⟨by kernel_rfl, ?_⟩)))
    | with_reducible refine xTwo_intro ?_ ?_
    | (with_reducible refine xCond_split (fun hcd => ?_) (fun hcd => ?_) <;> (try (exfalso; clear hP hN; simp_all; done)) <;> (try (exfalso; simp at *; omega)))
    | with_reducible refine WP.block ?_
    | (with_reducible ((first | refine WP.skip ?_ | refine WP.exit ?_ | refine WP.ret ?_); simp [g1, g2, g3, g4, g10, g11, g12, g13, hb4, hb142, hb12, hb25, hlt])))
  clear hIz hfl hle hI
  refine WP.loopN [] i (fun k st => st.t 1 = .pv (zs p) ∧ st.t 2 = .pv (zs q) ∧ st.t 3 = .pv (Z sort) ∧ st.t 4 = .ptr 4 0 ∧ st.t 10 = .pv (Z i) ∧ st.t 11 = .arr 25 i ∧ st.t 12 = .arr 12 (bK i may has tch k).q.length ∧ st.t 14 = .pv (Z k) ∧ st.h 4 = some (.box [.pv (.sl (cs.map encC)), .pv (.sl (bs.map iv)), .pv (.sl (op.map B))] true false) ∧ st.h 142 = none ∧ st.h 12 = some (.row 3 1 ((bK i may has tch k).q.map zN) 0) ∧ st.h 25 = some (.row 3 1 ((bK i may has tch k).far.map Z) 0) ∧ (k ≤ (bK i may has tch k).q.length)) (by simp [bK, g1, g2, g3, g4, g10, g11, g12, hb4, hb142, hb12, hb25]) ?_
  clear g1 g2 g3 g4 g10 g11 g12 g13 hb4 hb142 hb12 hb25 st hi hlt
  rintro k st hk ⟨g1, g2, g3, g4, g10, g11, g12, g14, hb4, hb142, hb12, hb25, hkq⟩
  have hI := bK_inv (n := i) (may := may) (has := has) (tch := tch) k
  by_cases hlt : k < (bK i may has tch k).q.length
  · have hle := hI.le
    have hki : k < i := by omega
    have hwk : IntKind.i64.wrap ((k : Int) + 1) = (k : Int) + 1 := wr_id (by omega) (by omega)
    have hsk : bK i may has tch (k + 1) = bJ may tch (bK i may has tch k) k i := by simp only [bK]; rw [if_pos hlt]
    rw [hsk]
    generalize hS : bK i may has tch k = S at *
    repeat' (first
      | with_reducible refine WP.seq ?_
      | (with_reducible ((first | refine WP.region (hn := []) ?_ | refine WP.cond' ?_); simp -implicitDefEqProofs (maxSteps := 2000000) [hP, hN, g1, g2, g3, g4, g10, g11, g12, g14, hb4, hb142, hb12, hb25, hlt]))
      | (with_reducible ((first | refine WP.draw (hn := []) (by rw [hP]; kernel_rfl) (by kernel_rfl) ?_); simp -implicitDefEqProofs (maxSteps := 2000000) [hP, hN, g1, g2, g3, g4, g10, g11, g12, g14, hb4, hb142, hb12, hb25, hlt]; (try refine ⟨by kernel_rfl, ?_⟩)))
      | (with_reducible refine xB_split (by simp [g1, g2, g3, g4, g10, g11, g12, g14, hb4, hb142, hb12, hb25, hlt]) (fun hgd => ?_) (fun hgd => ?_) <;> first | (exfalso; simp at hgd; done) | (exfalso; simp at hgd; omega) | simp -implicitDefEqProofs (maxSteps := 2000000) [hP, hN, g1, g2, g3, g4, g10, g11, g12, g14, hb4, hb142, hb12, hb25, hlt])
      | (with_reducible refine yB_split (by simp [g1, g2, g3, g4, g10, g11, g12, g14, hb4, hb142, hb12, hb25, hlt]) (fun hgd => ?_) (fun hgd => ?_) <;> first | (exfalso; simp at hgd; done) | (exfalso; simp at hgd; omega) | (simp -implicitDefEqProofs (maxSteps := 2000000) [hP, hN, g1, g2, g3, g4, g10, g11, g12, g14, hb4, hb142, hb12, hb25, hlt] <;> (try refine ⟨by kernel_rfl, ?_⟩)))
      | with_reducible refine xTwo_intro ?_ ?_
      | (with_reducible refine xCond_split (fun hcd => ?_) (fun hcd => ?_) <;> (try (exfalso; clear hP hN; simp_all; done)) <;> (try (exfalso; simp at *; omega)))
      | with_reducible refine WP.block ?_
      | (with_reducible ((first | refine WP.skip ?_ | refine WP.exit ?_ | refine WP.ret ?_); simp [g1, g2, g3, g4, g10, g11, g12, g14, hb4, hb142, hb12, hb25, hlt])))
    refine WP.loopN [] i (fun j st => st.t 1 = .pv (zs p) ∧ st.t 2 = .pv (zs q) ∧ st.t 3 = .pv (Z sort) ∧ st.t 4 = .ptr 4 0 ∧ st.t 10 = .pv (Z i) ∧ st.t 11 = .arr 25 i ∧ st.t 12 = .arr 12 (bJ may tch S k j).q.length ∧ st.t 14 = .pv (Z k) ∧ st.t 15 = .pv (Z j) ∧ st.h 4 = some (.box [.pv (.sl (cs.map encC)), .pv (.sl (bs.map iv)), .pv (.sl (op.map B))] true false) ∧ st.h 142 = none ∧ st.h 12 = some (.row 3 1 ((bJ may tch S k j).q.map zN) 0) ∧ st.h 25 = some (.row 3 1 ((bJ may tch S k j).far.map Z) 0)) (by simp [bJ, g1, g2, g3, g4, g10, g11, g12, g14, hb4, hb142, hb12, hb25]) ?_
    rintro j st' hj ⟨y1, y2, y3, y4, y10, y11, y12, y14, y15, yb4, yb142, yb12, yb25⟩
    obtain ⟨hJ, hJl, hJq⟩ := bJ_inv hI hlt j hj
    have hJle := hJ.le
    have hJf := hJ.len
    by_cases hjl : j < i
    · have hwj := wr_succ hjl (by omega)
      have hsu : bJ may tch S k (j + 1) = if bJc may tch (bJ may tch S k j) k j then bJs (bJ may tch S k j) k j else bJ may tch S k j := rfl
      generalize bJ may tch S k j = T at *
      have hfj := far_get hJ hjl
      have hfjl : j < T.far.length := by omega
      have hfj' := get_of hfj hfjl
      have hkT : k < T.q.length := by omega
      have hqk := q_get hkT
      have hqk' := get_of hqk hkT
      have hqm := hJ.mem _ (q_mem hkT)
      have hQn := hqm.1
      have hff := far_get hJ hqm.1
      have hffl : qAt T k < T.far.length := by omega
      have hff' := get_of hff hffl
      have hcj : bJc may tch T k j = ((fAt T.far j == 0) && may j && tch j (qAt T k)) := rfl
      have hjs : bJs T k j = ⟨T.far.set j (fAt T.far (qAt T k) + 1), T.q ++ [j]⟩ := rfl
      have htop := hJ.top (qAt T k)
      have hnn' := hJ.nn (qAt T k)
      have hwf : IntKind.i64.wrap (fAt T.far (qAt T k) + 1) = fAt T.far (qAt T k) + 1 := wr_id (by omega) (by omega)
      generalize fAt T.far (qAt T k) = fk at *
      generalize hqq : qAt T k = Q at *
      have c1 := cm j hjl
      have c2 := cto' j Q hjl hqm.1
      have hib := hbn j hjl
      have hbi := (hbg j hjl).1
      have hbi' := hbg' j hjl
      have hQb := hbn Q hqm.1
      have hQi := (hbg Q hqm.1).1
      have hQi' := hbg' Q hqm.1
      by_cases h0 : fAt T.far j = 0
      · have h0' : (fAt T.far j == 0) = true := by simp [h0]
        cases hm : may j with
        | false =>
          rw [hm] at c1
          rw [hcj, hm, Bool.and_false, Bool.false_and, if_neg (by simp)] at hsu
          repeat' (first
            | with_reducible refine WP.seq ?_
            | (with_reducible ((first | refine WP.region (hn := []) ?_ | refine xC_intro (c1) ?_ | refine WP.cond' ?_); simp -implicitDefEqProofs (maxSteps := 2000000) [hP, hN, y1, y2, y3, y4, y10, y11, y12, y14, y15, yb4, yb142, yb12, yb25, hjl, hwj, hfj, hfj', hfjl, hJf, h0']))
            | (with_reducible ((first | refine WP.draw (hn := []) (by rw [hP]; kernel_rfl) (by kernel_rfl) ?_ | refine yC_intro (c1) ?_); simp -implicitDefEqProofs (maxSteps := 2000000) [hP, hN, y1, y2, y3, y4, y10, y11, y12, y14, y15, yb4, yb142, yb12, yb25, hjl, hwj, hfj, hfj', hfjl, hJf, h0']; (try refine ⟨by kernel_rfl, ?_⟩)))
            | (with_reducible refine xB_split (by simp [y1, y2, y3, y4, y10, y11, y12, y14, y15, yb4, yb142, yb12, yb25, hjl, hwj, hfj, hfj', hfjl, hJf, h0']) (fun hgd => ?_) (fun hgd => ?_) <;> first | (exfalso; simp at hgd; done) | (exfalso; simp at hgd; omega) | simp -implicitDefEqProofs (maxSteps := 2000000) [hP, hN, y1, y2, y3, y4, y10, y11, y12, y14, y15, yb4, yb142, yb12, yb25, hjl, hwj, hfj, hfj', hfjl, hJf, h0'])
            | (with_reducible refine yB_split (by simp [y1, y2, y3, y4, y10, y11, y12, y14, y15, yb4, yb142, yb12, yb25, hjl, hwj, hfj, hfj', hfjl, hJf, h0']) (fun hgd => ?_) (fun hgd => ?_) <;> first | (exfalso; simp at hgd; done) | (exfalso; simp at hgd; omega) | (simp -implicitDefEqProofs (maxSteps := 2000000) [hP, hN, y1, y2, y3, y4, y10, y11, y12, y14, y15, yb4, yb142, yb12, yb25, hjl, hwj, hfj, hfj', hfjl, hJf, h0'] <;> (try refine ⟨by kernel_rfl, ?_⟩)))
            | with_reducible refine xTwo_intro ?_ ?_
            | (with_reducible refine xCond_split (fun hcd => ?_) (fun hcd => ?_) <;> (try (exfalso; clear hP hN; simp_all; done)) <;> (try (exfalso; simp at *; omega)))
            | with_reducible refine WP.block ?_
            | (with_reducible ((first | refine WP.skip ?_ | refine WP.exit ?_ | refine WP.ret ?_); simp [y1, y2, y3, y4, y10, y11, y12, y14, y15, yb4, yb142, yb12, yb25, hjl, hwj, hfj, hfj', hfjl, hJf, h0'])))
          all_goals simp [hsu]
        | true =>
          rw [hm] at c1
          cases ht : tch j Q with
          | false =>
            rw [ht] at c2
            rw [hcj, ht, Bool.and_false, if_neg (by simp)] at hsu
            repeat' (first
              | with_reducible refine WP.seq ?_
              | (with_reducible ((first | refine WP.region (hn := []) ?_ | refine xC_intro (c1) ?_ | refine xC_intro (c2) ?_ | refine WP.cond' ?_); simp -implicitDefEqProofs (maxSteps := 2000000) [hP, hN, y1, y2, y3, y4, y10, y11, y12, y14, y15, yb4, yb142, yb12, yb25, hjl, hwj, hfj, hfj', hfjl, hJf, h0', hqk, hqk', hkT, hib, hbi, hbi', hQb, hQi, hQi', hff, hff', hffl]))
              | (with_reducible ((first | refine WP.draw (hn := []) (by rw [hP]; kernel_rfl) (by kernel_rfl) ?_ | refine yC_intro (c1) ?_ | refine yC_intro (c2) ?_); simp -implicitDefEqProofs (maxSteps := 2000000) [hP, hN, y1, y2, y3, y4, y10, y11, y12, y14, y15, yb4, yb142, yb12, yb25, hjl, hwj, hfj, hfj', hfjl, hJf, h0', hqk, hqk', hkT, hib, hbi, hbi', hQb, hQi, hQi', hff, hff', hffl]; (try refine ⟨by kernel_rfl, ?_⟩)))
              | (with_reducible refine xB_split (by simp [y1, y2, y3, y4, y10, y11, y12, y14, y15, yb4, yb142, yb12, yb25, hjl, hwj, hfj, hfj', hfjl, hJf, h0', hqk, hqk', hkT, hib, hbi, hbi', hQb, hQi, hQi', hff, hff', hffl]) (fun hgd => ?_) (fun hgd => ?_) <;> first | (exfalso; simp at hgd; done) | (exfalso; simp at hgd; omega) | simp -implicitDefEqProofs (maxSteps := 2000000) [hP, hN, y1, y2, y3, y4, y10, y11, y12, y14, y15, yb4, yb142, yb12, yb25, hjl, hwj, hfj, hfj', hfjl, hJf, h0', hqk, hqk', hkT, hib, hbi, hbi', hQb, hQi, hQi', hff, hff', hffl])
              | (with_reducible refine yB_split (by simp [y1, y2, y3, y4, y10, y11, y12, y14, y15, yb4, yb142, yb12, yb25, hjl, hwj, hfj, hfj', hfjl, hJf, h0', hqk, hqk', hkT, hib, hbi, hbi', hQb, hQi, hQi', hff, hff', hffl]) (fun hgd => ?_) (fun hgd => ?_) <;> first | (exfalso; simp at hgd; done) | (exfalso; simp at hgd; omega) | (simp -implicitDefEqProofs (maxSteps := 2000000) [hP, hN, y1, y2, y3, y4, y10, y11, y12, y14, y15, yb4, yb142, yb12, yb25, hjl, hwj, hfj, hfj', hfjl, hJf, h0', hqk, hqk', hkT, hib, hbi, hbi', hQb, hQi, hQi', hff, hff', hffl] <;> (try refine ⟨by kernel_rfl, ?_⟩)))
              | with_reducible refine xTwo_intro ?_ ?_
              | (with_reducible refine xCond_split (fun hcd => ?_) (fun hcd => ?_) <;> (try (exfalso; clear hP hN; simp_all; done)) <;> (try (exfalso; simp at *; omega)))
              | with_reducible refine WP.block ?_
              | (with_reducible ((first | refine WP.skip ?_ | refine WP.exit ?_ | refine WP.ret ?_); simp [y1, y2, y3, y4, y10, y11, y12, y14, y15, yb4, yb142, yb12, yb25, hjl, hwj, hfj, hfj', hfjl, hJf, h0', hqk, hqk', hkT, hib, hbi, hbi', hQb, hQi, hQi', hff, hff', hffl])))
            all_goals simp [hsu]
          | true =>
            rw [ht] at c2
            rw [hcj, ht, hm, h0', if_pos (by simp), hjs] at hsu
            repeat' (first
              | with_reducible refine WP.seq ?_
              | (with_reducible ((first | refine WP.region (hn := []) ?_ | refine xC_intro (c1) ?_ | refine xC_intro (c2) ?_ | refine WP.cond' ?_); simp -implicitDefEqProofs (maxSteps := 2000000) [hP, hN, y1, y2, y3, y4, y10, y11, y12, y14, y15, yb4, yb142, yb12, yb25, hjl, hwj, hfj, hfj', hfjl, hJf, h0', hqk, hqk', hkT, hib, hbi, hbi', hQb, hQi, hQi', hff, hff', hffl, hQn, hwf, show (T.q.length + 1) * 8 ≤ 140737488355328 by omega, show T.q.length + 1 ≤ 9223372036854775807 by omega]))
              | (with_reducible ((first | refine WP.draw (hn := []) (by rw [hP]; kernel_rfl) (by kernel_rfl) ?_ | refine yC_intro (c1) ?_ | refine yC_intro (c2) ?_); simp -implicitDefEqProofs (maxSteps := 2000000) [hP, hN, y1, y2, y3, y4, y10, y11, y12, y14, y15, yb4, yb142, yb12, yb25, hjl, hwj, hfj, hfj', hfjl, hJf, h0', hqk, hqk', hkT, hib, hbi, hbi', hQb, hQi, hQi', hff, hff', hffl, hQn, hwf, show (T.q.length + 1) * 8 ≤ 140737488355328 by omega, show T.q.length + 1 ≤ 9223372036854775807 by omega]; (try refine ⟨by kernel_rfl, ?_⟩)))
              | (with_reducible refine xB_split (by simp [y1, y2, y3, y4, y10, y11, y12, y14, y15, yb4, yb142, yb12, yb25, hjl, hwj, hfj, hfj', hfjl, hJf, h0', hqk, hqk', hkT, hib, hbi, hbi', hQb, hQi, hQi', hff, hff', hffl, hQn, hwf, show (T.q.length + 1) * 8 ≤ 140737488355328 by omega, show T.q.length + 1 ≤ 9223372036854775807 by omega]) (fun hgd => ?_) (fun hgd => ?_) <;> first | (exfalso; simp at hgd; done) | (exfalso; simp at hgd; omega) | simp -implicitDefEqProofs (maxSteps := 2000000) [hP, hN, y1, y2, y3, y4, y10, y11, y12, y14, y15, yb4, yb142, yb12, yb25, hjl, hwj, hfj, hfj', hfjl, hJf, h0', hqk, hqk', hkT, hib, hbi, hbi', hQb, hQi, hQi', hff, hff', hffl, hQn, hwf, show (T.q.length + 1) * 8 ≤ 140737488355328 by omega, show T.q.length + 1 ≤ 9223372036854775807 by omega])
              | (with_reducible refine yB_split (by simp [y1, y2, y3, y4, y10, y11, y12, y14, y15, yb4, yb142, yb12, yb25, hjl, hwj, hfj, hfj', hfjl, hJf, h0', hqk, hqk', hkT, hib, hbi, hbi', hQb, hQi, hQi', hff, hff', hffl, hQn, hwf, show (T.q.length + 1) * 8 ≤ 140737488355328 by omega, show T.q.length + 1 ≤ 9223372036854775807 by omega]) (fun hgd => ?_) (fun hgd => ?_) <;> first | (exfalso; simp at hgd; done) | (exfalso; simp at hgd; omega) | (simp -implicitDefEqProofs (maxSteps := 2000000) [hP, hN, y1, y2, y3, y4, y10, y11, y12, y14, y15, yb4, yb142, yb12, yb25, hjl, hwj, hfj, hfj', hfjl, hJf, h0', hqk, hqk', hkT, hib, hbi, hbi', hQb, hQi, hQi', hff, hff', hffl, hQn, hwf, show (T.q.length + 1) * 8 ≤ 140737488355328 by omega, show T.q.length + 1 ≤ 9223372036854775807 by omega] <;> (try refine ⟨by kernel_rfl, ?_⟩)))
              | with_reducible refine xTwo_intro ?_ ?_
              | (with_reducible refine xCond_split (fun hcd => ?_) (fun hcd => ?_) <;> (try (exfalso; clear hP hN; simp_all; done)) <;> (try (exfalso; simp at *; omega)))
              | with_reducible refine WP.block ?_
              | (with_reducible ((first | refine WP.skip ?_ | refine WP.exit ?_ | refine WP.ret ?_); simp [y1, y2, y3, y4, y10, y11, y12, y14, y15, yb4, yb142, yb12, yb25, hjl, hwj, hfj, hfj', hfjl, hJf, h0', hqk, hqk', hkT, hib, hbi, hbi', hQb, hQi, hQi', hff, hff', hffl, hQn, hwf, show (T.q.length + 1) * 8 ≤ 140737488355328 by omega, show T.q.length + 1 ≤ 9223372036854775807 by omega])))
            all_goals (simp [hsu, List.map_set])
      · have h0' : (fAt T.far j == 0) = false := by simp [h0]
        rw [hcj, h0', Bool.false_and, Bool.false_and, if_neg (by simp)] at hsu
        repeat' (first
          | with_reducible refine WP.seq ?_
          | (with_reducible ((first | refine WP.region (hn := []) ?_ | refine WP.cond' ?_); simp -implicitDefEqProofs (maxSteps := 2000000) [hP, hN, y1, y2, y3, y4, y10, y11, y12, y14, y15, yb4, yb142, yb12, yb25, hjl, hwj, hfj, hfj', hfjl, hJf, h0']))
          | (with_reducible ((first | refine WP.draw (hn := []) (by rw [hP]; kernel_rfl) (by kernel_rfl) ?_); simp -implicitDefEqProofs (maxSteps := 2000000) [hP, hN, y1, y2, y3, y4, y10, y11, y12, y14, y15, yb4, yb142, yb12, yb25, hjl, hwj, hfj, hfj', hfjl, hJf, h0']; (try refine ⟨by kernel_rfl, ?_⟩)))
          | (with_reducible refine xB_split (by simp [y1, y2, y3, y4, y10, y11, y12, y14, y15, yb4, yb142, yb12, yb25, hjl, hwj, hfj, hfj', hfjl, hJf, h0']) (fun hgd => ?_) (fun hgd => ?_) <;> first | (exfalso; simp at hgd; done) | (exfalso; simp at hgd; omega) | simp -implicitDefEqProofs (maxSteps := 2000000) [hP, hN, y1, y2, y3, y4, y10, y11, y12, y14, y15, yb4, yb142, yb12, yb25, hjl, hwj, hfj, hfj', hfjl, hJf, h0'])
          | (with_reducible refine yB_split (by simp [y1, y2, y3, y4, y10, y11, y12, y14, y15, yb4, yb142, yb12, yb25, hjl, hwj, hfj, hfj', hfjl, hJf, h0']) (fun hgd => ?_) (fun hgd => ?_) <;> first | (exfalso; simp at hgd; done) | (exfalso; simp at hgd; omega) | (simp -implicitDefEqProofs (maxSteps := 2000000) [hP, hN, y1, y2, y3, y4, y10, y11, y12, y14, y15, yb4, yb142, yb12, yb25, hjl, hwj, hfj, hfj', hfjl, hJf, h0'] <;> (try refine ⟨by kernel_rfl, ?_⟩)))
          | with_reducible refine xTwo_intro ?_ ?_
          | (with_reducible refine xCond_split (fun hcd => ?_) (fun hcd => ?_) <;> (try (exfalso; clear hP hN; simp_all; done)) <;> (try (exfalso; simp at *; omega)))
          | with_reducible refine WP.block ?_
          | (with_reducible ((first | refine WP.skip ?_ | refine WP.exit ?_ | refine WP.ret ?_); simp [y1, y2, y3, y4, y10, y11, y12, y14, y15, yb4, yb142, yb12, yb25, hjl, hwj, hfj, hfj', hfjl, hJf, h0'])))
        all_goals simp [hsu]
    · have hj' : j = i := by omega
      subst hj'
      repeat' (first
        | with_reducible refine WP.seq ?_
        | (with_reducible ((first | refine WP.region (hn := []) ?_ | refine WP.cond' ?_); simp -implicitDefEqProofs (maxSteps := 2000000) [hP, hN, y1, y2, y3, y4, y10, y11, y12, y14, y15, yb4, yb142, yb12, yb25, hjl, hwk]))
        | (with_reducible ((first | refine WP.draw (hn := []) (by rw [hP]; kernel_rfl) (by kernel_rfl) ?_); simp -implicitDefEqProofs (maxSteps := 2000000) [hP, hN, y1, y2, y3, y4, y10, y11, y12, y14, y15, yb4, yb142, yb12, yb25, hjl, hwk]; (try refine ⟨by kernel_rfl, ?_⟩)))
        | (with_reducible refine xB_split (by simp [y1, y2, y3, y4, y10, y11, y12, y14, y15, yb4, yb142, yb12, yb25, hjl, hwk]) (fun hgd => ?_) (fun hgd => ?_) <;> first | (exfalso; simp at hgd; done) | (exfalso; simp at hgd; omega) | simp -implicitDefEqProofs (maxSteps := 2000000) [hP, hN, y1, y2, y3, y4, y10, y11, y12, y14, y15, yb4, yb142, yb12, yb25, hjl, hwk])
        | (with_reducible refine yB_split (by simp [y1, y2, y3, y4, y10, y11, y12, y14, y15, yb4, yb142, yb12, yb25, hjl, hwk]) (fun hgd => ?_) (fun hgd => ?_) <;> first | (exfalso; simp at hgd; done) | (exfalso; simp at hgd; omega) | (simp -implicitDefEqProofs (maxSteps := 2000000) [hP, hN, y1, y2, y3, y4, y10, y11, y12, y14, y15, yb4, yb142, yb12, yb25, hjl, hwk] <;> (try refine ⟨by kernel_rfl, ?_⟩)))
        | with_reducible refine xTwo_intro ?_ ?_
        | (with_reducible refine xCond_split (fun hcd => ?_) (fun hcd => ?_) <;> (try (exfalso; clear hP hN; simp_all; done)) <;> (try (exfalso; simp at *; omega)))
        | with_reducible refine WP.block ?_
        | (with_reducible ((first | refine WP.skip ?_ | refine WP.exit ?_ | refine WP.ret ?_); simp [y1, y2, y3, y4, y10, y11, y12, y14, y15, yb4, yb142, yb12, yb25, hjl, hwk])))
      all_goals exact ⟨hki, by omega⟩
  · have hst : bK i may has tch i = bK i may has tch k := by
      have := bK_stop hlt (i - k)
      rw [show k + (i - k) = i by omega] at this; exact this
    have hbest : bestA i may has hasF tch = aS (bK i may has tch k).far hasF i := by unfold bestA; rw [hst]
    have hbl : bestL i may has hasF tch = if bestOk i may has hasF tch then (List.range (fAt (bK i may has tch k).far (bestA i may has hasF tch).toNat).toNat).map (pS i (bK i may has tch k).far tch (bestA i may has hasF tch).toNat) else [] := by unfold bestL; rw [hst]
    generalize hS : bK i may has tch k = S at *
    have hSf := hI.len
    have hSle := hI.le
    repeat' (first
      | with_reducible refine WP.seq ?_
      | (with_reducible ((first | refine WP.region (hn := []) ?_ | refine WP.cond' ?_); simp -implicitDefEqProofs (maxSteps := 2000000) [hP, hN, g1, g2, g3, g4, g10, g11, g12, g14, hb4, hb142, hb12, hb25, hlt]))
      | (with_reducible ((first | refine WP.draw (hn := []) (by rw [hP]; kernel_rfl) (by kernel_rfl) ?_); simp -implicitDefEqProofs (maxSteps := 2000000) [hP, hN, g1, g2, g3, g4, g10, g11, g12, g14, hb4, hb142, hb12, hb25, hlt]; (try refine ⟨by kernel_rfl, ?_⟩)))
      | (with_reducible refine xB_split (by simp [g1, g2, g3, g4, g10, g11, g12, g14, hb4, hb142, hb12, hb25, hlt]) (fun hgd => ?_) (fun hgd => ?_) <;> first | (exfalso; simp at hgd; done) | (exfalso; simp at hgd; omega) | simp -implicitDefEqProofs (maxSteps := 2000000) [hP, hN, g1, g2, g3, g4, g10, g11, g12, g14, hb4, hb142, hb12, hb25, hlt])
      | (with_reducible refine yB_split (by simp [g1, g2, g3, g4, g10, g11, g12, g14, hb4, hb142, hb12, hb25, hlt]) (fun hgd => ?_) (fun hgd => ?_) <;> first | (exfalso; simp at hgd; done) | (exfalso; simp at hgd; omega) | (simp -implicitDefEqProofs (maxSteps := 2000000) [hP, hN, g1, g2, g3, g4, g10, g11, g12, g14, hb4, hb142, hb12, hb25, hlt] <;> (try refine ⟨by kernel_rfl, ?_⟩)))
      | with_reducible refine xTwo_intro ?_ ?_
      | (with_reducible refine xCond_split (fun hcd => ?_) (fun hcd => ?_) <;> (try (exfalso; clear hP hN; simp_all; done)) <;> (try (exfalso; simp at *; omega)))
      | with_reducible refine WP.block ?_
      | (with_reducible ((first | refine WP.skip ?_ | refine WP.exit ?_ | refine WP.ret ?_); simp [g1, g2, g3, g4, g10, g11, g12, g14, hb4, hb142, hb12, hb25, hlt])))
    refine WP.loopN [] i (fun j st => st.t 1 = .pv (zs p) ∧ st.t 4 = .ptr 4 0 ∧ st.t 10 = .pv (Z i) ∧ st.t 11 = .arr 25 i ∧ st.h 4 = some (.box [.pv (.sl (cs.map encC)), .pv (.sl (bs.map iv)), .pv (.sl (op.map B))] true false) ∧ st.h 25 = some (.row 3 1 (S.far.map Z) 0) ∧ st.t 16 = .pv (Z (aS S.far hasF j)) ∧ st.t 17 = .pv (Z j) ∧ st.h 142 = none) (by simp [aS, g1, g4, g10, g11, hb4, hb142, hb25]) ?_
    clear g1 g2 g3 g4 g10 g11 g12 g14 hb4 hb142 hb12 hb25 st
    rintro j st hj ⟨g1, g4, g10, g11, hb4, hb25, g16, g17, hb142⟩
    have hA := aS_rng (hasF := hasF) (far := S.far) j
    by_cases hjl : j < i
    · have hwj := wr_succ hjl (by omega)
      have hfj := far_get hI hjl
      have hfjl : j < S.far.length := by omega
      have hfj' := get_of hfj hfjl
      have c2 := chp' j hjl
      have hib := hbn j hjl
      have hbi := (hbg j hjl).1
      have hbi' := hbg' j hjl
      have hsu : aS S.far hasF (j + 1) = if decide (0 < fAt S.far j) && hasF j && (decide (aS S.far hasF j < 0) || decide (fAt S.far j < fAt S.far (aS S.far hasF j).toNat)) then (j : Int) else aS S.far hasF j := rfl
      generalize aS S.far hasF j = A at *
      by_cases h0 : 0 < fAt S.far j
      · cases hh : hasF j with
        | false =>
          rw [hh] at c2
          rw [hh, Bool.and_false, Bool.false_and, if_neg (by simp)] at hsu
          repeat' (first
            | with_reducible refine WP.seq ?_
            | (with_reducible ((first | refine WP.region (hn := []) ?_ | refine xC_intro (c2) ?_ | refine WP.cond' ?_); simp -implicitDefEqProofs (maxSteps := 2000000) [hP, hN, g1, g4, g10, g11, hb4, hb25, g16, g17, hb142, hjl, hwj, hfj, hfj', hfjl, hSf, h0, hib, hbi, hbi']))
            | (with_reducible ((first | refine WP.draw (hn := []) (by rw [hP]; kernel_rfl) (by kernel_rfl) ?_ | refine yC_intro (c2) ?_); simp -implicitDefEqProofs (maxSteps := 2000000) [hP, hN, g1, g4, g10, g11, hb4, hb25, g16, g17, hb142, hjl, hwj, hfj, hfj', hfjl, hSf, h0, hib, hbi, hbi']; (try refine ⟨by kernel_rfl, ?_⟩)))
            | (with_reducible refine xB_split (by simp [g1, g4, g10, g11, hb4, hb25, g16, g17, hb142, hjl, hwj, hfj, hfj', hfjl, hSf, h0, hib, hbi, hbi']) (fun hgd => ?_) (fun hgd => ?_) <;> first | (exfalso; simp at hgd; done) | (exfalso; simp at hgd; omega) | simp -implicitDefEqProofs (maxSteps := 2000000) [hP, hN, g1, g4, g10, g11, hb4, hb25, g16, g17, hb142, hjl, hwj, hfj, hfj', hfjl, hSf, h0, hib, hbi, hbi'])
            | (with_reducible refine yB_split (by simp [g1, g4, g10, g11, hb4, hb25, g16, g17, hb142, hjl, hwj, hfj, hfj', hfjl, hSf, h0, hib, hbi, hbi']) (fun hgd => ?_) (fun hgd => ?_) <;> first | (exfalso; simp at hgd; done) | (exfalso; simp at hgd; omega) | (simp -implicitDefEqProofs (maxSteps := 2000000) [hP, hN, g1, g4, g10, g11, hb4, hb25, g16, g17, hb142, hjl, hwj, hfj, hfj', hfjl, hSf, h0, hib, hbi, hbi'] <;> (try refine ⟨by kernel_rfl, ?_⟩)))
            | with_reducible refine xTwo_intro ?_ ?_
            | (with_reducible refine xCond_split (fun hcd => ?_) (fun hcd => ?_) <;> (try (exfalso; clear hP hN; simp_all; done)) <;> (try (exfalso; simp at *; omega)))
            | with_reducible refine WP.block ?_
            | (with_reducible ((first | refine WP.skip ?_ | refine WP.exit ?_ | refine WP.ret ?_); simp [g1, g4, g10, g11, hb4, hb25, g16, g17, hb142, hjl, hwj, hfj, hfj', hfjl, hSf, h0, hib, hbi, hbi'])))
          all_goals simp [hsu]
        | true =>
          rw [hh] at c2
          by_cases hA0 : A < 0
          · rw [hh, if_pos (by simp [h0, hA0])] at hsu
            repeat' (first
              | with_reducible refine WP.seq ?_
              | (with_reducible ((first | refine WP.region (hn := []) ?_ | refine xC_intro (c2) ?_ | refine WP.cond' ?_); simp -implicitDefEqProofs (maxSteps := 2000000) [hP, hN, g1, g4, g10, g11, hb4, hb25, g16, g17, hb142, hjl, hwj, hfj, hfj', hfjl, hSf, h0, hib, hbi, hbi', hA0]))
              | (with_reducible ((first | refine WP.draw (hn := []) (by rw [hP]; kernel_rfl) (by kernel_rfl) ?_ | refine yC_intro (c2) ?_); simp -implicitDefEqProofs (maxSteps := 2000000) [hP, hN, g1, g4, g10, g11, hb4, hb25, g16, g17, hb142, hjl, hwj, hfj, hfj', hfjl, hSf, h0, hib, hbi, hbi', hA0]; (try refine ⟨by kernel_rfl, ?_⟩)))
              | (with_reducible refine xB_split (by simp [g1, g4, g10, g11, hb4, hb25, g16, g17, hb142, hjl, hwj, hfj, hfj', hfjl, hSf, h0, hib, hbi, hbi', hA0]) (fun hgd => ?_) (fun hgd => ?_) <;> first | (exfalso; simp at hgd; done) | (exfalso; simp at hgd; omega) | simp -implicitDefEqProofs (maxSteps := 2000000) [hP, hN, g1, g4, g10, g11, hb4, hb25, g16, g17, hb142, hjl, hwj, hfj, hfj', hfjl, hSf, h0, hib, hbi, hbi', hA0])
              | (with_reducible refine yB_split (by simp [g1, g4, g10, g11, hb4, hb25, g16, g17, hb142, hjl, hwj, hfj, hfj', hfjl, hSf, h0, hib, hbi, hbi', hA0]) (fun hgd => ?_) (fun hgd => ?_) <;> first | (exfalso; simp at hgd; done) | (exfalso; simp at hgd; omega) | (simp -implicitDefEqProofs (maxSteps := 2000000) [hP, hN, g1, g4, g10, g11, hb4, hb25, g16, g17, hb142, hjl, hwj, hfj, hfj', hfjl, hSf, h0, hib, hbi, hbi', hA0] <;> (try refine ⟨by kernel_rfl, ?_⟩)))
              | with_reducible refine xTwo_intro ?_ ?_
              | (with_reducible refine xCond_split (fun hcd => ?_) (fun hcd => ?_) <;> (try (exfalso; clear hP hN; simp_all; done)) <;> (try (exfalso; simp at *; omega)))
              | with_reducible refine WP.block ?_
              | (with_reducible ((first | refine WP.skip ?_ | refine WP.exit ?_ | refine WP.ret ?_); simp [g1, g4, g10, g11, hb4, hb25, g16, g17, hb142, hjl, hwj, hfj, hfj', hfjl, hSf, h0, hib, hbi, hbi', hA0])))
            all_goals simp [hsu]
          · have hA1 : 0 ≤ A := by omega
            have hA2 : A.toNat < i := by omega
            have hA3 : A.toNat < S.far.length := by omega
            have hfa := far_get hI hA2
            have hfa' := get_of hfa hA3
            by_cases hlt2 : fAt S.far j < fAt S.far A.toNat
            · rw [hh, if_pos (by simp [h0, hlt2])] at hsu
              repeat' (first
                | with_reducible refine WP.seq ?_
                | (with_reducible ((first | refine WP.region (hn := []) ?_ | refine xC_intro (c2) ?_ | refine WP.cond' ?_); simp -implicitDefEqProofs (maxSteps := 2000000) [hP, hN, g1, g4, g10, g11, hb4, hb25, g16, g17, hb142, hjl, hwj, hfj, hfj', hfjl, hSf, h0, hib, hbi, hbi', hA0, hA1, hA2, hA3, hfa, hfa', hlt2]))
                | (with_reducible ((first | refine WP.draw (hn := []) (by rw [hP]; kernel_rfl) (by kernel_rfl) ?_ | refine yC_intro (c2) ?_); simp -implicitDefEqProofs (maxSteps := 2000000) [hP, hN, g1, g4, g10, g11, hb4, hb25, g16, g17, hb142, hjl, hwj, hfj, hfj', hfjl, hSf, h0, hib, hbi, hbi', hA0, hA1, hA2, hA3, hfa, hfa', hlt2]; (try refine ⟨by kernel_rfl, ?_⟩)))
                | (with_reducible refine xB_split (by simp [g1, g4, g10, g11, hb4, hb25, g16, g17, hb142, hjl, hwj, hfj, hfj', hfjl, hSf, h0, hib, hbi, hbi', hA0, hA1, hA2, hA3, hfa, hfa', hlt2]) (fun hgd => ?_) (fun hgd => ?_) <;> first | (exfalso; simp at hgd; done) | (exfalso; simp at hgd; omega) | simp -implicitDefEqProofs (maxSteps := 2000000) [hP, hN, g1, g4, g10, g11, hb4, hb25, g16, g17, hb142, hjl, hwj, hfj, hfj', hfjl, hSf, h0, hib, hbi, hbi', hA0, hA1, hA2, hA3, hfa, hfa', hlt2])
                | (with_reducible refine yB_split (by simp [g1, g4, g10, g11, hb4, hb25, g16, g17, hb142, hjl, hwj, hfj, hfj', hfjl, hSf, h0, hib, hbi, hbi', hA0, hA1, hA2, hA3, hfa, hfa', hlt2]) (fun hgd => ?_) (fun hgd => ?_) <;> first | (exfalso; simp at hgd; done) | (exfalso; simp at hgd; omega) | (simp -implicitDefEqProofs (maxSteps := 2000000) [hP, hN, g1, g4, g10, g11, hb4, hb25, g16, g17, hb142, hjl, hwj, hfj, hfj', hfjl, hSf, h0, hib, hbi, hbi', hA0, hA1, hA2, hA3, hfa, hfa', hlt2] <;> (try refine ⟨by kernel_rfl, ?_⟩)))
                | with_reducible refine xTwo_intro ?_ ?_
                | (with_reducible refine xCond_split (fun hcd => ?_) (fun hcd => ?_) <;> (try (exfalso; clear hP hN; simp_all; done)) <;> (try (exfalso; simp at *; omega)))
                | with_reducible refine WP.block ?_
                | (with_reducible ((first | refine WP.skip ?_ | refine WP.exit ?_ | refine WP.ret ?_); simp [g1, g4, g10, g11, hb4, hb25, g16, g17, hb142, hjl, hwj, hfj, hfj', hfjl, hSf, h0, hib, hbi, hbi', hA0, hA1, hA2, hA3, hfa, hfa', hlt2])))
              all_goals simp [hsu]
            · rw [hh, if_neg (by simp [hlt2]; omega)] at hsu
              repeat' (first
                | with_reducible refine WP.seq ?_
                | (with_reducible ((first | refine WP.region (hn := []) ?_ | refine xC_intro (c2) ?_ | refine WP.cond' ?_); simp -implicitDefEqProofs (maxSteps := 2000000) [hP, hN, g1, g4, g10, g11, hb4, hb25, g16, g17, hb142, hjl, hwj, hfj, hfj', hfjl, hSf, h0, hib, hbi, hbi', hA0, hA1, hA2, hA3, hfa, hfa', hlt2]))
                | (with_reducible ((first | refine WP.draw (hn := []) (by rw [hP]; kernel_rfl) (by kernel_rfl) ?_ | refine yC_intro (c2) ?_); simp -implicitDefEqProofs (maxSteps := 2000000) [hP, hN, g1, g4, g10, g11, hb4, hb25, g16, g17, hb142, hjl, hwj, hfj, hfj', hfjl, hSf, h0, hib, hbi, hbi', hA0, hA1, hA2, hA3, hfa, hfa', hlt2]; (try refine ⟨by kernel_rfl, ?_⟩)))
                | (with_reducible refine xB_split (by simp [g1, g4, g10, g11, hb4, hb25, g16, g17, hb142, hjl, hwj, hfj, hfj', hfjl, hSf, h0, hib, hbi, hbi', hA0, hA1, hA2, hA3, hfa, hfa', hlt2]) (fun hgd => ?_) (fun hgd => ?_) <;> first | (exfalso; simp at hgd; done) | (exfalso; simp at hgd; omega) | simp -implicitDefEqProofs (maxSteps := 2000000) [hP, hN, g1, g4, g10, g11, hb4, hb25, g16, g17, hb142, hjl, hwj, hfj, hfj', hfjl, hSf, h0, hib, hbi, hbi', hA0, hA1, hA2, hA3, hfa, hfa', hlt2])
                | (with_reducible refine yB_split (by simp [g1, g4, g10, g11, hb4, hb25, g16, g17, hb142, hjl, hwj, hfj, hfj', hfjl, hSf, h0, hib, hbi, hbi', hA0, hA1, hA2, hA3, hfa, hfa', hlt2]) (fun hgd => ?_) (fun hgd => ?_) <;> first | (exfalso; simp at hgd; done) | (exfalso; simp at hgd; omega) | (simp -implicitDefEqProofs (maxSteps := 2000000) [hP, hN, g1, g4, g10, g11, hb4, hb25, g16, g17, hb142, hjl, hwj, hfj, hfj', hfjl, hSf, h0, hib, hbi, hbi', hA0, hA1, hA2, hA3, hfa, hfa', hlt2] <;> (try refine ⟨by kernel_rfl, ?_⟩)))
                | with_reducible refine xTwo_intro ?_ ?_
                | (with_reducible refine xCond_split (fun hcd => ?_) (fun hcd => ?_) <;> (try (exfalso; clear hP hN; simp_all; done)) <;> (try (exfalso; simp at *; omega)))
                | with_reducible refine WP.block ?_
                | (with_reducible ((first | refine WP.skip ?_ | refine WP.exit ?_ | refine WP.ret ?_); simp [g1, g4, g10, g11, hb4, hb25, g16, g17, hb142, hjl, hwj, hfj, hfj', hfjl, hSf, h0, hib, hbi, hbi', hA0, hA1, hA2, hA3, hfa, hfa', hlt2])))
              all_goals simp [hsu]
      · rw [if_neg (by simp [h0])] at hsu
        repeat' (first
          | with_reducible refine WP.seq ?_
          | (with_reducible ((first | refine WP.region (hn := []) ?_ | refine WP.cond' ?_); simp -implicitDefEqProofs (maxSteps := 2000000) [hP, hN, g1, g4, g10, g11, hb4, hb25, g16, g17, hb142, hjl, hwj, hfj, hfj', hfjl, hSf, h0]))
          | (with_reducible ((first | refine WP.draw (hn := []) (by rw [hP]; kernel_rfl) (by kernel_rfl) ?_); simp -implicitDefEqProofs (maxSteps := 2000000) [hP, hN, g1, g4, g10, g11, hb4, hb25, g16, g17, hb142, hjl, hwj, hfj, hfj', hfjl, hSf, h0]; (try refine ⟨by kernel_rfl, ?_⟩)))
          | (with_reducible refine xB_split (by simp [g1, g4, g10, g11, hb4, hb25, g16, g17, hb142, hjl, hwj, hfj, hfj', hfjl, hSf, h0]) (fun hgd => ?_) (fun hgd => ?_) <;> first | (exfalso; simp at hgd; done) | (exfalso; simp at hgd; omega) | simp -implicitDefEqProofs (maxSteps := 2000000) [hP, hN, g1, g4, g10, g11, hb4, hb25, g16, g17, hb142, hjl, hwj, hfj, hfj', hfjl, hSf, h0])
          | (with_reducible refine yB_split (by simp [g1, g4, g10, g11, hb4, hb25, g16, g17, hb142, hjl, hwj, hfj, hfj', hfjl, hSf, h0]) (fun hgd => ?_) (fun hgd => ?_) <;> first | (exfalso; simp at hgd; done) | (exfalso; simp at hgd; omega) | (simp -implicitDefEqProofs (maxSteps := 2000000) [hP, hN, g1, g4, g10, g11, hb4, hb25, g16, g17, hb142, hjl, hwj, hfj, hfj', hfjl, hSf, h0] <;> (try refine ⟨by kernel_rfl, ?_⟩)))
          | with_reducible refine xTwo_intro ?_ ?_
          | (with_reducible refine xCond_split (fun hcd => ?_) (fun hcd => ?_) <;> (try (exfalso; clear hP hN; simp_all; done)) <;> (try (exfalso; simp at *; omega)))
          | with_reducible refine WP.block ?_
          | (with_reducible ((first | refine WP.skip ?_ | refine WP.exit ?_ | refine WP.ret ?_); simp [g1, g4, g10, g11, hb4, hb25, g16, g17, hb142, hjl, hwj, hfj, hfj', hfjl, hSf, h0])))
        all_goals simp [hsu]
    have hj' : j = i := by omega
    subst hj'
    rw [hbl]
    unfold bestOk
    rw [hbest]
    generalize hAA : aS S.far hasF j = A at *
    by_cases hA0 : A < 0
    · have hno : decide (0 ≤ A) = false := by simp; omega
      rw [hno, if_neg (by simp)]
      repeat' (first
        | with_reducible refine WP.seq ?_
        | (with_reducible ((first | refine WP.region (hn := []) ?_ | refine WP.cond' ?_); simp -implicitDefEqProofs (maxSteps := 2000000) [hP, hN, g1, g4, g10, g11, hb4, hb25, g16, g17, hb142, hjl, hA0]))
        | (with_reducible ((first | refine WP.draw (hn := []) (by rw [hP]; kernel_rfl) (by kernel_rfl) ?_); simp -implicitDefEqProofs (maxSteps := 2000000) [hP, hN, g1, g4, g10, g11, hb4, hb25, g16, g17, hb142, hjl, hA0]; (try refine ⟨by kernel_rfl, ?_⟩)))
        | (with_reducible refine xB_split (by simp [g1, g4, g10, g11, hb4, hb25, g16, g17, hb142, hjl, hA0]) (fun hgd => ?_) (fun hgd => ?_) <;> first | (exfalso; simp at hgd; done) | (exfalso; simp at hgd; omega) | simp -implicitDefEqProofs (maxSteps := 2000000) [hP, hN, g1, g4, g10, g11, hb4, hb25, g16, g17, hb142, hjl, hA0])
        | (with_reducible refine yB_split (by simp [g1, g4, g10, g11, hb4, hb25, g16, g17, hb142, hjl, hA0]) (fun hgd => ?_) (fun hgd => ?_) <;> first | (exfalso; simp at hgd; done) | (exfalso; simp at hgd; omega) | (simp -implicitDefEqProofs (maxSteps := 2000000) [hP, hN, g1, g4, g10, g11, hb4, hb25, g16, g17, hb142, hjl, hA0] <;> (try refine ⟨by kernel_rfl, ?_⟩)))
        | with_reducible refine xTwo_intro ?_ ?_
        | (with_reducible refine xCond_split (fun hcd => ?_) (fun hcd => ?_) <;> (try (exfalso; clear hP hN; simp_all; done)) <;> (try (exfalso; simp at *; omega)))
        | with_reducible refine WP.block ?_
        | (with_reducible ((first | refine WP.skip ?_ | refine WP.exit ?_ | refine WP.ret ?_); simp [g1, g4, g10, g11, hb4, hb25, g16, g17, hb142, hjl, hA0])))
    obtain ⟨a, rfl⟩ := Int.eq_ofNat_of_zero_le (show 0 ≤ A by omega)
    have hyes : decide (0 ≤ (a : Int)) = true := by simp
    rw [hyes, if_pos rfl, Int.toNat_natCast]
    have hal : a < j := by omega
    have hapos : 0 < fAt S.far a := by have := (hA.2.2 (by omega)).1; rwa [Int.toNat_natCast] at this
    have hatop := hI.top a
    have hps := pS_ok hI hsym hal hapos
    repeat' (first
      | with_reducible refine WP.seq ?_
      | (with_reducible ((first | refine WP.region (hn := [142]) ?_ | refine WP.cond' ?_); simp -implicitDefEqProofs (maxSteps := 2000000) [hP, hN, g1, g4, g10, g11, hb4, hb25, g16, g17, hb142, hjl, hA0]))
      | (with_reducible ((first | refine WP.draw (hn := [142]) (by rw [hP]; kernel_rfl) (by kernel_rfl) ?_); simp -implicitDefEqProofs (maxSteps := 2000000) [hP, hN, g1, g4, g10, g11, hb4, hb25, g16, g17, hb142, hjl, hA0]; (try refine ⟨by kernel_rfl, ?_⟩)))
      | (with_reducible refine xB_split (by simp [g1, g4, g10, g11, hb4, hb25, g16, g17, hb142, hjl, hA0]) (fun hgd => ?_) (fun hgd => ?_) <;> first | (exfalso; simp at hgd; done) | (exfalso; simp at hgd; omega) | simp -implicitDefEqProofs (maxSteps := 2000000) [hP, hN, g1, g4, g10, g11, hb4, hb25, g16, g17, hb142, hjl, hA0])
      | (with_reducible refine yB_split (by simp [g1, g4, g10, g11, hb4, hb25, g16, g17, hb142, hjl, hA0]) (fun hgd => ?_) (fun hgd => ?_) <;> first | (exfalso; simp at hgd; done) | (exfalso; simp at hgd; omega) | (simp -implicitDefEqProofs (maxSteps := 2000000) [hP, hN, g1, g4, g10, g11, hb4, hb25, g16, g17, hb142, hjl, hA0] <;> (try refine ⟨by kernel_rfl, ?_⟩)))
      | with_reducible refine xTwo_intro ?_ ?_
      | (with_reducible refine xCond_split (fun hcd => ?_) (fun hcd => ?_) <;> (try (exfalso; clear hP hN; simp_all; done)) <;> (try (exfalso; simp at *; omega)))
      | with_reducible refine WP.block ?_
      | (with_reducible ((first | refine WP.skip ?_ | refine WP.exit ?_ | refine WP.ret ?_); simp [g1, g4, g10, g11, hb4, hb25, g16, g17, hb142, hjl, hA0])))
    refine WP.loopN [] (fAt S.far a - 1).toNat (fun r st => st.t 1 = .pv (zs p) ∧ st.t 4 = .ptr 4 0 ∧ st.t 10 = .pv (Z j) ∧ st.t 11 = .arr 25 j ∧ st.h 4 = some (.box [.pv (.sl (cs.map encC)), .pv (.sl (bs.map iv)), .pv (.sl (op.map B))] true false) ∧ st.h 25 = some (.row 3 1 (S.far.map Z) 0) ∧ st.t 16 = .pv (Z (pS j S.far tch a r)) ∧ st.t 18 = .arr 142 (r + 1) ∧ st.h 142 = some (.row 3 1 (((List.range (r + 1)).map (pS j S.far tch a)).map zN) 0)) (by simp [pS, g1, g4, g10, g11, hb4, hb25, g16]) ?_
    clear g1 g4 g10 g11 hb4 hb142 hb25 g16 g17 st
    rintro r st hr ⟨g1, g4, g10, g11, hb4, hb25, g16, g18, hb142⟩
    obtain ⟨u1, u2⟩ := hps r (by omega)
    have hsx : pS j S.far tch a (r + 1) = nxt j S.far tch (pS j S.far tch a r) := rfl
    have hrg : (List.range (r + 1)).map (pS j S.far tch a) ++ [pS j S.far tch a (r + 1)] = (List.range (r + 2)).map (pS j S.far tch a) := range_step _ (r + 1)
    have hfp := far_get hI u1
    have hfpl : pS j S.far tch a r < S.far.length := by omega
    have hfp' := get_of hfp hfpl
    by_cases hrl : r < (fAt S.far a - 1).toNat
    · have hgt : 1 < fAt S.far (pS j S.far tch a r) := by omega
      obtain ⟨x1, x2, x3, x4⟩ := nxt_ok hI hsym u1 hgt
      have hwn : IntKind.i64.wrap ((j : Int) - 1) = (j : Int) - 1 := wr_id (by omega) (by omega)
      rw [hsx] at hrg ⊢
      generalize hPP : pS j S.far tch a r = P at *
      repeat' (first
        | with_reducible refine WP.seq ?_
        | (with_reducible ((first | refine WP.region (hn := []) ?_ | refine WP.cond' ?_); simp -implicitDefEqProofs (maxSteps := 2000000) [hP, hN, g1, g4, g10, g11, hb4, hb25, g16, g18, hb142, hfp, hfp', hfpl, u1, hSf, hgt, hwn]))
        | (with_reducible ((first | refine WP.draw (hn := []) (by rw [hP]; kernel_rfl) (by kernel_rfl) ?_); simp -implicitDefEqProofs (maxSteps := 2000000) [hP, hN, g1, g4, g10, g11, hb4, hb25, g16, g18, hb142, hfp, hfp', hfpl, u1, hSf, hgt, hwn]; (try refine ⟨by kernel_rfl, ?_⟩)))
        | (with_reducible refine xB_split (by simp [g1, g4, g10, g11, hb4, hb25, g16, g18, hb142, hfp, hfp', hfpl, u1, hSf, hgt, hwn]) (fun hgd => ?_) (fun hgd => ?_) <;> first | (exfalso; simp at hgd; done) | (exfalso; simp at hgd; omega) | simp -implicitDefEqProofs (maxSteps := 2000000) [hP, hN, g1, g4, g10, g11, hb4, hb25, g16, g18, hb142, hfp, hfp', hfpl, u1, hSf, hgt, hwn])
        | (with_reducible refine yB_split (by simp [g1, g4, g10, g11, hb4, hb25, g16, g18, hb142, hfp, hfp', hfpl, u1, hSf, hgt, hwn]) (fun hgd => ?_) (fun hgd => ?_) <;> first | (exfalso; simp at hgd; done) | (exfalso; simp at hgd; omega) | (simp -implicitDefEqProofs (maxSteps := 2000000) [hP, hN, g1, g4, g10, g11, hb4, hb25, g16, g18, hb142, hfp, hfp', hfpl, u1, hSf, hgt, hwn] <;> (try refine ⟨by kernel_rfl, ?_⟩)))
        | with_reducible refine xTwo_intro ?_ ?_
        | (with_reducible refine xCond_split (fun hcd => ?_) (fun hcd => ?_) <;> (try (exfalso; clear hP hN; simp_all; done)) <;> (try (exfalso; simp at *; omega)))
        | with_reducible refine WP.block ?_
        | (with_reducible ((first | refine WP.skip ?_ | refine WP.exit ?_ | refine WP.ret ?_); simp [g1, g4, g10, g11, hb4, hb25, g16, g18, hb142, hfp, hfp', hfpl, u1, hSf, hgt, hwn])))
      refine WP.loopN [] j (fun m st => st.t 1 = .pv (zs p) ∧ st.t 4 = .ptr 4 0 ∧ st.t 10 = .pv (Z j) ∧ st.t 11 = .arr 25 j ∧ st.h 4 = some (.box [.pv (.sl (cs.map encC)), .pv (.sl (bs.map iv)), .pv (.sl (op.map B))] true false) ∧ st.h 25 = some (.row 3 1 (S.far.map Z) 0) ∧ st.t 16 = .pv (Z P) ∧ st.t 18 = .arr 142 (r + 1) ∧ st.t 19 = .pv (Z (nS j S.far tch P m)) ∧ st.t 20 = .pv (Z ((j : Int) - 1 - m)) ∧ st.h 142 = some (.row 3 1 (((List.range (r + 1)).map (pS j S.far tch a)).map zN) 0)) (by simp [nS, g1, g4, g10, g11, hb4, hb25, g16, g18, hb142]) ?_
      clear g1 g4 g10 g11 hb4 hb142 hb25 g16 g18 st
      rintro m st hm ⟨g1, g4, g10, g11, hb4, hb25, g16, g18, g19, g20, hb142⟩
      by_cases hml : m < j
      · obtain ⟨y, hy⟩ : ∃ y : Nat, y = j - 1 - m := ⟨_, rfl⟩
        have hyZ : (j : Int) - 1 - m = (y : Int) := by omega
        have hyl : y < j := by omega
        rw [hyZ] at g20
        have hwm : IntKind.i64.wrap ((y : Int) - 1) = (j : Int) - 1 - ((m : Int) + 1) := by rw [show (j : Int) - 1 - ((m : Int) + 1) = (y : Int) - 1 by omega]; exact wr_id (by omega) (by omega)
        have hsu : nS j S.far tch P (m + 1) = if nC S.far tch P y then (y : Int) else nS j S.far tch P m := by simp only [nS]; rw [← hy]
        have hnC : nC S.far tch P y = ((fAt S.far y == fAt S.far P - 1) && tch y P) := rfl
        have hfy := far_get hI hyl
        have hfyl : y < S.far.length := by omega
        have hfy' := get_of hfy hfyl
        have hwp : IntKind.i64.wrap (fAt S.far P - 1) = fAt S.far P - 1 := wr_id (by omega) (by omega)
        have hib := hbn y hyl
        have hbi := (hbg y hyl).1
        have hbi' := hbg' y hyl
        have hQb := hbn P u1
        have hQi := (hbg P u1).1
        have hQi' := hbg' P u1
        have c2 := cto' y P hyl u1
        cases hce : (fAt S.far y == fAt S.far P - 1) with
        | false =>
          rw [hnC, hce, Bool.false_and, if_neg (by simp)] at hsu
          repeat' (first
            | with_reducible refine WP.seq ?_
            | (with_reducible ((first | refine WP.region (hn := []) ?_ | refine WP.cond' ?_); simp -implicitDefEqProofs (maxSteps := 2000000) [hP, hN, g1, g4, g10, g11, hb4, hb25, g16, g18, g19, g20, hb142, hml, hyl, hwm, hfy, hfy', hfyl, hfp, hfp', hfpl, u1, hSf, hwp, hce]))
            | (with_reducible ((first | refine WP.draw (hn := []) (by rw [hP]; kernel_rfl) (by kernel_rfl) ?_); simp -implicitDefEqProofs (maxSteps := 2000000) [hP, hN, g1, g4, g10, g11, hb4, hb25, g16, g18, g19, g20, hb142, hml, hyl, hwm, hfy, hfy', hfyl, hfp, hfp', hfpl, u1, hSf, hwp, hce]; (try refine ⟨by kernel_rfl, ?_⟩)))
            | (with_reducible refine xB_split (by simp [g1, g4, g10, g11, hb4, hb25, g16, g18, g19, g20, hb142, hml, hyl, hwm, hfy, hfy', hfyl, hfp, hfp', hfpl, u1, hSf, hwp, hce]) (fun hgd => ?_) (fun hgd => ?_) <;> first | (exfalso; simp at hgd; done) | (exfalso; simp at hgd; omega) | simp -implicitDefEqProofs (maxSteps := 2000000) [hP, hN, g1, g4, g10, g11, hb4, hb25, g16, g18, g19, g20, hb142, hml, hyl, hwm, hfy, hfy', hfyl, hfp, hfp', hfpl, u1, hSf, hwp, hce])
            | (with_reducible refine yB_split (by simp [g1, g4, g10, g11, hb4, hb25, g16, g18, g19, g20, hb142, hml, hyl, hwm, hfy, hfy', hfyl, hfp, hfp', hfpl, u1, hSf, hwp, hce]) (fun hgd => ?_) (fun hgd => ?_) <;> first | (exfalso; simp at hgd; done) | (exfalso; simp at hgd; omega) | (simp -implicitDefEqProofs (maxSteps := 2000000) [hP, hN, g1, g4, g10, g11, hb4, hb25, g16, g18, g19, g20, hb142, hml, hyl, hwm, hfy, hfy', hfyl, hfp, hfp', hfpl, u1, hSf, hwp, hce] <;> (try refine ⟨by kernel_rfl, ?_⟩)))
            | with_reducible refine xTwo_intro ?_ ?_
            | (with_reducible refine xCond_split (fun hcd => ?_) (fun hcd => ?_) <;> (try (exfalso; clear hP hN; simp_all; done)) <;> (try (exfalso; simp at *; omega)))
            | with_reducible refine WP.block ?_
            | (with_reducible ((first | refine WP.skip ?_ | refine WP.exit ?_ | refine WP.ret ?_); simp [g1, g4, g10, g11, hb4, hb25, g16, g18, g19, g20, hb142, hml, hyl, hwm, hfy, hfy', hfyl, hfp, hfp', hfpl, u1, hSf, hwp, hce])))
          all_goals simp [hsu]
        | true =>
          cases ht : tch y P with
          | false =>
            rw [ht] at c2
            rw [hnC, ht, Bool.and_false, if_neg (by simp)] at hsu
            repeat' (first
              | with_reducible refine WP.seq ?_
              | (with_reducible ((first | refine WP.region (hn := []) ?_ | refine xC_intro (c2) ?_ | refine WP.cond' ?_); simp -implicitDefEqProofs (maxSteps := 2000000) [hP, hN, g1, g4, g10, g11, hb4, hb25, g16, g18, g19, g20, hb142, hml, hyl, hwm, hfy, hfy', hfyl, hfp, hfp', hfpl, u1, hSf, hwp, hce, hib, hbi, hbi', hQb, hQi, hQi']))
              | (with_reducible ((first | refine WP.draw (hn := []) (by rw [hP]; kernel_rfl) (by kernel_rfl) ?_ | refine yC_intro (c2) ?_); simp -implicitDefEqProofs (maxSteps := 2000000) [hP, hN, g1, g4, g10, g11, hb4, hb25, g16, g18, g19, g20, hb142, hml, hyl, hwm, hfy, hfy', hfyl, hfp, hfp', hfpl, u1, hSf, hwp, hce, hib, hbi, hbi', hQb, hQi, hQi']; (try refine ⟨by kernel_rfl, ?_⟩)))
              | (with_reducible refine xB_split (by simp [g1, g4, g10, g11, hb4, hb25, g16, g18, g19, g20, hb142, hml, hyl, hwm, hfy, hfy', hfyl, hfp, hfp', hfpl, u1, hSf, hwp, hce, hib, hbi, hbi', hQb, hQi, hQi']) (fun hgd => ?_) (fun hgd => ?_) <;> first | (exfalso; simp at hgd; done) | (exfalso; simp at hgd; omega) | simp -implicitDefEqProofs (maxSteps := 2000000) [hP, hN, g1, g4, g10, g11, hb4, hb25, g16, g18, g19, g20, hb142, hml, hyl, hwm, hfy, hfy', hfyl, hfp, hfp', hfpl, u1, hSf, hwp, hce, hib, hbi, hbi', hQb, hQi, hQi'])
              | (with_reducible refine yB_split (by simp [g1, g4, g10, g11, hb4, hb25, g16, g18, g19, g20, hb142, hml, hyl, hwm, hfy, hfy', hfyl, hfp, hfp', hfpl, u1, hSf, hwp, hce, hib, hbi, hbi', hQb, hQi, hQi']) (fun hgd => ?_) (fun hgd => ?_) <;> first | (exfalso; simp at hgd; done) | (exfalso; simp at hgd; omega) | (simp -implicitDefEqProofs (maxSteps := 2000000) [hP, hN, g1, g4, g10, g11, hb4, hb25, g16, g18, g19, g20, hb142, hml, hyl, hwm, hfy, hfy', hfyl, hfp, hfp', hfpl, u1, hSf, hwp, hce, hib, hbi, hbi', hQb, hQi, hQi'] <;> (try refine ⟨by kernel_rfl, ?_⟩)))
              | with_reducible refine xTwo_intro ?_ ?_
              | (with_reducible refine xCond_split (fun hcd => ?_) (fun hcd => ?_) <;> (try (exfalso; clear hP hN; simp_all; done)) <;> (try (exfalso; simp at *; omega)))
              | with_reducible refine WP.block ?_
              | (with_reducible ((first | refine WP.skip ?_ | refine WP.exit ?_ | refine WP.ret ?_); simp [g1, g4, g10, g11, hb4, hb25, g16, g18, g19, g20, hb142, hml, hyl, hwm, hfy, hfy', hfyl, hfp, hfp', hfpl, u1, hSf, hwp, hce, hib, hbi, hbi', hQb, hQi, hQi'])))
            all_goals simp [hsu]
          | true =>
            rw [ht] at c2
            rw [hnC, ht, hce, if_pos (by simp)] at hsu
            repeat' (first
              | with_reducible refine WP.seq ?_
              | (with_reducible ((first | refine WP.region (hn := []) ?_ | refine xC_intro (c2) ?_ | refine WP.cond' ?_); simp -implicitDefEqProofs (maxSteps := 2000000) [hP, hN, g1, g4, g10, g11, hb4, hb25, g16, g18, g19, g20, hb142, hml, hyl, hwm, hfy, hfy', hfyl, hfp, hfp', hfpl, u1, hSf, hwp, hce, hib, hbi, hbi', hQb, hQi, hQi']))
              | (with_reducible ((first | refine WP.draw (hn := []) (by rw [hP]; kernel_rfl) (by kernel_rfl) ?_ | refine yC_intro (c2) ?_); simp -implicitDefEqProofs (maxSteps := 2000000) [hP, hN, g1, g4, g10, g11, hb4, hb25, g16, g18, g19, g20, hb142, hml, hyl, hwm, hfy, hfy', hfyl, hfp, hfp', hfpl, u1, hSf, hwp, hce, hib, hbi, hbi', hQb, hQi, hQi']; (try refine ⟨by kernel_rfl, ?_⟩)))
              | (with_reducible refine xB_split (by simp [g1, g4, g10, g11, hb4, hb25, g16, g18, g19, g20, hb142, hml, hyl, hwm, hfy, hfy', hfyl, hfp, hfp', hfpl, u1, hSf, hwp, hce, hib, hbi, hbi', hQb, hQi, hQi']) (fun hgd => ?_) (fun hgd => ?_) <;> first | (exfalso; simp at hgd; done) | (exfalso; simp at hgd; omega) | simp -implicitDefEqProofs (maxSteps := 2000000) [hP, hN, g1, g4, g10, g11, hb4, hb25, g16, g18, g19, g20, hb142, hml, hyl, hwm, hfy, hfy', hfyl, hfp, hfp', hfpl, u1, hSf, hwp, hce, hib, hbi, hbi', hQb, hQi, hQi'])
              | (with_reducible refine yB_split (by simp [g1, g4, g10, g11, hb4, hb25, g16, g18, g19, g20, hb142, hml, hyl, hwm, hfy, hfy', hfyl, hfp, hfp', hfpl, u1, hSf, hwp, hce, hib, hbi, hbi', hQb, hQi, hQi']) (fun hgd => ?_) (fun hgd => ?_) <;> first | (exfalso; simp at hgd; done) | (exfalso; simp at hgd; omega) | (simp -implicitDefEqProofs (maxSteps := 2000000) [hP, hN, g1, g4, g10, g11, hb4, hb25, g16, g18, g19, g20, hb142, hml, hyl, hwm, hfy, hfy', hfyl, hfp, hfp', hfpl, u1, hSf, hwp, hce, hib, hbi, hbi', hQb, hQi, hQi'] <;> (try refine ⟨by kernel_rfl, ?_⟩)))
              | with_reducible refine xTwo_intro ?_ ?_
              | (with_reducible refine xCond_split (fun hcd => ?_) (fun hcd => ?_) <;> (try (exfalso; clear hP hN; simp_all; done)) <;> (try (exfalso; simp at *; omega)))
              | with_reducible refine WP.block ?_
              | (with_reducible ((first | refine WP.skip ?_ | refine WP.exit ?_ | refine WP.ret ?_); simp [g1, g4, g10, g11, hb4, hb25, g16, g18, g19, g20, hb142, hml, hyl, hwm, hfy, hfy', hfyl, hfp, hfp', hfpl, u1, hSf, hwp, hce, hib, hbi, hbi', hQb, hQi, hQi'])))
            all_goals simp [hsu]
      · have hm' : m = j := by omega
        subst hm'
        have hng : ¬ (0 : Int) ≤ (m : Int) - 1 - m := by omega
        rw [x1] at g19
        repeat' (first
          | with_reducible refine WP.seq ?_
          | (with_reducible ((first | refine WP.region (hn := []) ?_ | refine WP.cond' ?_); simp -implicitDefEqProofs (maxSteps := 2000000) [hP, hN, g1, g4, g10, g11, hb4, hb25, g16, g18, g19, g20, hb142, hng, show (r + 1 + 1) * 8 ≤ 140737488355328 by omega, show r + 1 + 1 ≤ 9223372036854775807 by omega]))
          | (with_reducible ((first | refine WP.draw (hn := []) (by rw [hP]; kernel_rfl) (by kernel_rfl) ?_); simp -implicitDefEqProofs (maxSteps := 2000000) [hP, hN, g1, g4, g10, g11, hb4, hb25, g16, g18, g19, g20, hb142, hng, show (r + 1 + 1) * 8 ≤ 140737488355328 by omega, show r + 1 + 1 ≤ 9223372036854775807 by omega]; (try refine ⟨by kernel_rfl, ?_⟩)))
          | (with_reducible refine xB_split (by simp [g1, g4, g10, g11, hb4, hb25, g16, g18, g19, g20, hb142, hng, show (r + 1 + 1) * 8 ≤ 140737488355328 by omega, show r + 1 + 1 ≤ 9223372036854775807 by omega]) (fun hgd => ?_) (fun hgd => ?_) <;> first | (exfalso; simp at hgd; done) | (exfalso; simp at hgd; omega) | simp -implicitDefEqProofs (maxSteps := 2000000) [hP, hN, g1, g4, g10, g11, hb4, hb25, g16, g18, g19, g20, hb142, hng, show (r + 1 + 1) * 8 ≤ 140737488355328 by omega, show r + 1 + 1 ≤ 9223372036854775807 by omega])
          | (with_reducible refine yB_split (by simp [g1, g4, g10, g11, hb4, hb25, g16, g18, g19, g20, hb142, hng, show (r + 1 + 1) * 8 ≤ 140737488355328 by omega, show r + 1 + 1 ≤ 9223372036854775807 by omega]) (fun hgd => ?_) (fun hgd => ?_) <;> first | (exfalso; simp at hgd; done) | (exfalso; simp at hgd; omega) | (simp -implicitDefEqProofs (maxSteps := 2000000) [hP, hN, g1, g4, g10, g11, hb4, hb25, g16, g18, g19, g20, hb142, hng, show (r + 1 + 1) * 8 ≤ 140737488355328 by omega, show r + 1 + 1 ≤ 9223372036854775807 by omega] <;> (try refine ⟨by kernel_rfl, ?_⟩)))
          | with_reducible refine xTwo_intro ?_ ?_
          | (with_reducible refine xCond_split (fun hcd => ?_) (fun hcd => ?_) <;> (try (exfalso; clear hP hN; simp_all; done)) <;> (try (exfalso; simp at *; omega)))
          | with_reducible refine WP.block ?_
          | (with_reducible ((first | refine WP.skip ?_ | refine WP.exit ?_ | refine WP.ret ?_); simp [g1, g4, g10, g11, hb4, hb25, g16, g18, g19, g20, hb142, hng, show (r + 1 + 1) * 8 ≤ 140737488355328 by omega, show r + 1 + 1 ≤ 9223372036854775807 by omega])))
        all_goals exact ⟨by omega, by simpa using congrArg (List.map zN) hrg⟩
    · have hr' : r + 1 = (fAt S.far a).toNat := by omega
      have hgt : ¬ 1 < fAt S.far (pS j S.far tch a r) := by omega
      rw [hr'] at hb142 g18
      repeat' (first
        | with_reducible refine WP.seq ?_
        | (with_reducible ((first | refine WP.region (hn := []) ?_ | refine WP.cond' ?_); simp -implicitDefEqProofs (maxSteps := 2000000) [hP, hN, g1, g4, g10, g11, hb4, hb25, g16, g18, hb142, hfp, hfp', hfpl, u1, hSf, hgt]))
        | (with_reducible ((first | refine WP.draw (hn := []) (by rw [hP]; kernel_rfl) (by kernel_rfl) ?_); simp -implicitDefEqProofs (maxSteps := 2000000) [hP, hN, g1, g4, g10, g11, hb4, hb25, g16, g18, hb142, hfp, hfp', hfpl, u1, hSf, hgt]; (try refine ⟨by kernel_rfl, ?_⟩)))
        | (with_reducible refine xB_split (by simp [g1, g4, g10, g11, hb4, hb25, g16, g18, hb142, hfp, hfp', hfpl, u1, hSf, hgt]) (fun hgd => ?_) (fun hgd => ?_) <;> first | (exfalso; simp at hgd; done) | (exfalso; simp at hgd; omega) | simp -implicitDefEqProofs (maxSteps := 2000000) [hP, hN, g1, g4, g10, g11, hb4, hb25, g16, g18, hb142, hfp, hfp', hfpl, u1, hSf, hgt])
        | (with_reducible refine yB_split (by simp [g1, g4, g10, g11, hb4, hb25, g16, g18, hb142, hfp, hfp', hfpl, u1, hSf, hgt]) (fun hgd => ?_) (fun hgd => ?_) <;> first | (exfalso; simp at hgd; done) | (exfalso; simp at hgd; omega) | (simp -implicitDefEqProofs (maxSteps := 2000000) [hP, hN, g1, g4, g10, g11, hb4, hb25, g16, g18, hb142, hfp, hfp', hfpl, u1, hSf, hgt] <;> (try refine ⟨by kernel_rfl, ?_⟩)))
        | with_reducible refine xTwo_intro ?_ ?_
        | (with_reducible refine xCond_split (fun hcd => ?_) (fun hcd => ?_) <;> (try (exfalso; clear hP hN; simp_all; done)) <;> (try (exfalso; simp at *; omega)))
        | with_reducible refine WP.block ?_
        | (with_reducible ((first | refine WP.skip ?_ | refine WP.exit ?_ | refine WP.ret ?_); simp [g1, g4, g10, g11, hb4, hb25, g16, g18, hb142, hfp, hfp', hfpl, u1, hSf, hgt])))
end Go.Ab
