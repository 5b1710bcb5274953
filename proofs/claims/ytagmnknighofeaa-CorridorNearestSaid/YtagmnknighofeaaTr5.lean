/- Contracts: valid trees, leaves, splitting, settling. -/
import Derived.Test.YtagmnknighofeaaTr4
import Derived.Test.YtagmnknighofeaaTrD
import Derived.Test.YtagmnknighofeaaTrQ
set_option linter.all false
namespace Go.Ab
open Go.Proofs
abbrev zN (n : Nat) : PV := Z (n : Int)
abbrev ns (l : List Nat) : PV := .sl (l.map zN)
theorem d24 (t : Tr) (hl : t.cells.length ≤ 9223372036854775807) : DetH Try.prog 24 [.pv (encT t)] [] [] (.pv (B (validT t))) := by
  have cb := d77 t hl
  refine detP_of Try.func24 rfl (by kernel_rfl) (by simp [Try.f24]) rfl ?_
  intro C hP hN
  simp only [Try.f24] at hN ⊢
  repeat' (first
    | with_reducible refine WP.seq ?_
    | (with_reducible refine WP.region (hn := []) ?_; simp -implicitDefEqProofs [hP, hN])
    | (with_reducible refine WP.draw (hn := []) (by rw [hP]; kernel_rfl) (by kernel_rfl) ?_; simp -implicitDefEqProofs [hP, hN]; (try refine ⟨by kernel_rfl, ?_⟩))
    | (with_reducible refine xB_split (by simp) (fun hgd => ?_) (fun hgd => ?_) <;> first | (exfalso; simp at hgd; done) | (exfalso; simp at hgd; omega) | simp -implicitDefEqProofs [hP, hN])
    | (with_reducible refine yB_split (by simp) (fun hgd => ?_) (fun hgd => ?_) <;> first | (exfalso; simp at hgd; done) | (exfalso; simp at hgd; omega) | (simp -implicitDefEqProofs [hP, hN] <;> (try refine ⟨by kernel_rfl, ?_⟩)))
    | (with_reducible refine xC_intro (cb) ?_; simp -implicitDefEqProofs [hP, hN])
    | (with_reducible refine yC_intro (cb) ?_; simp -implicitDefEqProofs [hP, hN]; (try refine ⟨by kernel_rfl, ?_⟩))
    | with_reducible refine xTwo_intro ?_ ?_
    | (with_reducible refine WP.cond' ?_; simp -implicitDefEqProofs [hP, hN])
    | (with_reducible refine xCond_split (fun hcd => ?_) (fun hcd => ?_) <;> (try (exfalso; clear hP hN; simp_all; done)) <;> (try (exfalso; simp at *; omega)))
    | with_reducible refine WP.block ?_
    | (with_reducible refine WP.skip ?_; simp)
    | (with_reducible refine WP.exit ?_; simp)
    | (with_reducible refine WP.ret ?_; simp))
theorem d25 (t : Tr) (hl : t.cells.length ≤ 9223372036854775807) : DetH Try.prog 25 [.pv (encT t)] [] [] (.pv (B (validT t))) := by
  have cb := d52 t hl
  refine detP_of Try.func25 rfl (by kernel_rfl) (by simp [Try.f25]) rfl ?_
  intro C hP hN
  simp only [Try.f25] at hN ⊢
  repeat' (first
    | with_reducible refine WP.seq ?_
    | (with_reducible refine WP.region (hn := []) ?_; simp -implicitDefEqProofs [hP, hN])
    | (with_reducible refine WP.draw (hn := []) (by rw [hP]; kernel_rfl) (by kernel_rfl) ?_; simp -implicitDefEqProofs [hP, hN]; (try refine ⟨by kernel_rfl, ?_⟩))
    | (with_reducible refine xB_split (by simp) (fun hgd => ?_) (fun hgd => ?_) <;> first | (exfalso; simp at hgd; done) | (exfalso; simp at hgd; omega) | simp -implicitDefEqProofs [hP, hN])
    | (with_reducible refine yB_split (by simp) (fun hgd => ?_) (fun hgd => ?_) <;> first | (exfalso; simp at hgd; done) | (exfalso; simp at hgd; omega) | (simp -implicitDefEqProofs [hP, hN] <;> (try refine ⟨by kernel_rfl, ?_⟩)))
    | (with_reducible refine xC_intro (cb) ?_; simp -implicitDefEqProofs [hP, hN])
    | (with_reducible refine yC_intro (cb) ?_; simp -implicitDefEqProofs [hP, hN]; (try refine ⟨by kernel_rfl, ?_⟩))
    | with_reducible refine xTwo_intro ?_ ?_
    | (with_reducible refine WP.cond' ?_; simp -implicitDefEqProofs [hP, hN])
    | (with_reducible refine xCond_split (fun hcd => ?_) (fun hcd => ?_) <;> (try (exfalso; clear hP hN; simp_all; done)) <;> (try (exfalso; simp at *; omega)))
    | with_reducible refine WP.block ?_
    | (with_reducible refine WP.skip ?_; simp)
    | (with_reducible refine WP.exit ?_; simp)
    | (with_reducible refine WP.ret ?_; simp))
theorem d72 (r : List (Int × Int)) : DetH Try.prog 72 [.pv (iv r)] [] [] (.pv (.tup [encT (newT r), B (rootOk r)])) := by
  have cv : DetH Try.prog 25 [.pv (.agg [iv r, .sl [.agg [Z (-1), Z (-1), Z (-1), Z 0, .sl [], Z 0, .sl [], .sl []]]])] [] [] (.pv (B (rootOk r))) := by
    have := d25 ⟨r, [leafC zeroV]⟩ (by simp)
    rw [new_valid] at this; exact this
  cases h : rootOk r with
  | true =>
    rw [h] at cv
    refine detP_of Try.func72 rfl (by kernel_rfl) (by simp [Try.f72]) rfl ?_
    intro C hP hN
    simp only [Try.f72] at hN ⊢
    repeat' (first
      | with_reducible refine WP.seq ?_
      | (with_reducible refine WP.region (hn := []) ?_; simp -implicitDefEqProofs [hP, hN])
      | (with_reducible refine WP.draw (hn := []) (by rw [hP]; kernel_rfl) (by kernel_rfl) ?_; simp -implicitDefEqProofs [hP, hN]; (try refine ⟨by kernel_rfl, ?_⟩))
      | (with_reducible refine xB_split (by simp) (fun hgd => ?_) (fun hgd => ?_) <;> first | (exfalso; simp at hgd; done) | (exfalso; simp at hgd; omega) | simp -implicitDefEqProofs [hP, hN])
      | (with_reducible refine yB_split (by simp) (fun hgd => ?_) (fun hgd => ?_) <;> first | (exfalso; simp at hgd; done) | (exfalso; simp at hgd; omega) | (simp -implicitDefEqProofs [hP, hN] <;> (try refine ⟨by kernel_rfl, ?_⟩)))
      | (with_reducible refine xC_intro (cv) ?_; simp -implicitDefEqProofs [hP, hN])
      | (with_reducible refine yC_intro (cv) ?_; simp -implicitDefEqProofs [hP, hN]; (try refine ⟨by kernel_rfl, ?_⟩))
      | with_reducible refine xTwo_intro ?_ ?_
      | (with_reducible refine WP.cond' ?_; simp -implicitDefEqProofs [hP, hN])
      | (with_reducible refine xCond_split (fun hcd => ?_) (fun hcd => ?_) <;> (try (exfalso; clear hP hN; simp_all; done)) <;> (try (exfalso; simp at *; omega)))
      | with_reducible refine WP.block ?_
      | (with_reducible refine WP.skip ?_; simp)
      | (with_reducible refine WP.exit ?_; simp)
      | (with_reducible refine WP.ret ?_; simp))
    all_goals simp [newT, h, leafC, zeroV]
  | false =>
    rw [h] at cv
    refine detP_of Try.func72 rfl (by kernel_rfl) (by simp [Try.f72]) rfl ?_
    intro C hP hN
    simp only [Try.f72] at hN ⊢
    repeat' (first
      | with_reducible refine WP.seq ?_
      | (with_reducible refine WP.region (hn := []) ?_; simp -implicitDefEqProofs [hP, hN])
      | (with_reducible refine WP.draw (hn := []) (by rw [hP]; kernel_rfl) (by kernel_rfl) ?_; simp -implicitDefEqProofs [hP, hN]; (try refine ⟨by kernel_rfl, ?_⟩))
      | (with_reducible refine xB_split (by simp) (fun hgd => ?_) (fun hgd => ?_) <;> first | (exfalso; simp at hgd; done) | (exfalso; simp at hgd; omega) | simp -implicitDefEqProofs [hP, hN])
      | (with_reducible refine yB_split (by simp) (fun hgd => ?_) (fun hgd => ?_) <;> first | (exfalso; simp at hgd; done) | (exfalso; simp at hgd; omega) | (simp -implicitDefEqProofs [hP, hN] <;> (try refine ⟨by kernel_rfl, ?_⟩)))
      | (with_reducible refine xC_intro (cv) ?_; simp -implicitDefEqProofs [hP, hN])
      | (with_reducible refine yC_intro (cv) ?_; simp -implicitDefEqProofs [hP, hN]; (try refine ⟨by kernel_rfl, ?_⟩))
      | with_reducible refine xTwo_intro ?_ ?_
      | (with_reducible refine WP.cond' ?_; simp -implicitDefEqProofs [hP, hN])
      | (with_reducible refine xCond_split (fun hcd => ?_) (fun hcd => ?_) <;> (try (exfalso; clear hP hN; simp_all; done)) <;> (try (exfalso; simp at *; omega)))
      | with_reducible refine WP.block ?_
      | (with_reducible refine WP.skip ?_; simp)
      | (with_reducible refine WP.exit ?_; simp)
      | (with_reducible refine WP.ret ?_; simp))
    all_goals simp [newT, h]
theorem leaves_step {t : Tr} {i : Nat} {c : Cel} (hc : t.cells[i]? = some c) : leavesN t (i + 1) = if leafB c then leavesN t i ++ [i] else leavesN t i := by
  rw [leavesN_succ]; simp [leafN, hc]
set_option maxHeartbeats 4000000 in
theorem d100 (t : Tr) (hl : t.cells.length ≤ 9223372036854775807) : DetH Try.prog 100 [.pv (encT t)] [] [] (.pv (ns (leavesL t))) := by
  have cv := d25 t hl
  cases hv : validT t with
  | false =>
    have e : leavesL t = [] := by simp [leavesL, hv]
    rw [hv] at cv
    rw [e]
    refine detP_of Try.func100 rfl (by kernel_rfl) (by simp [Try.f100]) rfl ?_
    intro C hP hN
    simp only [Try.f100] at hN ⊢
    repeat' (first
      | with_reducible refine WP.seq ?_
      | (with_reducible refine WP.region (hn := []) ?_; simp -implicitDefEqProofs [hP, hN])
      | (with_reducible refine WP.draw (hn := []) (by rw [hP]; kernel_rfl) (by kernel_rfl) ?_; simp -implicitDefEqProofs [hP, hN]; (try refine ⟨by kernel_rfl, ?_⟩))
      | (with_reducible refine xB_split (by simp) (fun hgd => ?_) (fun hgd => ?_) <;> first | (exfalso; simp at hgd; done) | (exfalso; simp at hgd; omega) | simp -implicitDefEqProofs [hP, hN])
      | (with_reducible refine yB_split (by simp) (fun hgd => ?_) (fun hgd => ?_) <;> first | (exfalso; simp at hgd; done) | (exfalso; simp at hgd; omega) | (simp -implicitDefEqProofs [hP, hN] <;> (try refine ⟨by kernel_rfl, ?_⟩)))
      | (with_reducible refine xC_intro (cv) ?_; simp -implicitDefEqProofs [hP, hN])
      | (with_reducible refine yC_intro (cv) ?_; simp -implicitDefEqProofs [hP, hN]; (try refine ⟨by kernel_rfl, ?_⟩))
      | with_reducible refine xTwo_intro ?_ ?_
      | (with_reducible refine WP.cond' ?_; simp -implicitDefEqProofs [hP, hN])
      | (with_reducible refine xCond_split (fun hcd => ?_) (fun hcd => ?_) <;> (try (exfalso; clear hP hN; simp_all; done)) <;> (try (exfalso; simp at *; omega)))
      | with_reducible refine WP.block ?_
      | (with_reducible refine WP.skip ?_; simp)
      | (with_reducible refine WP.exit ?_; simp)
      | (with_reducible refine WP.ret ?_; simp))
  | true =>
    have hz := sizeOk_iff.1 (valid_size hv)
    have e : leavesL t = leavesN t t.cells.length := by simp [leavesL, hv]
    rw [hv] at cv
    rw [e]
    refine detP_of Try.func100 rfl (by kernel_rfl) (by simp [Try.f100]) rfl ?_
    intro C hP hN
    simp only [Try.f100] at hN ⊢
    repeat' (first
      | with_reducible refine WP.seq ?_
      | (with_reducible refine WP.region (hn := [3]) ?_; simp -implicitDefEqProofs [hP, hN])
      | (with_reducible refine WP.draw (hn := [3]) (by rw [hP]; kernel_rfl) (by kernel_rfl) ?_; simp -implicitDefEqProofs [hP, hN]; (try refine ⟨by kernel_rfl, ?_⟩))
      | (with_reducible refine xB_split (by simp) (fun hgd => ?_) (fun hgd => ?_) <;> first | (exfalso; simp at hgd; done) | (exfalso; simp at hgd; omega) | simp -implicitDefEqProofs [hP, hN])
      | (with_reducible refine yB_split (by simp) (fun hgd => ?_) (fun hgd => ?_) <;> first | (exfalso; simp at hgd; done) | (exfalso; simp at hgd; omega) | (simp -implicitDefEqProofs [hP, hN] <;> (try refine ⟨by kernel_rfl, ?_⟩)))
      | (with_reducible refine xC_intro (cv) ?_; simp -implicitDefEqProofs [hP, hN])
      | (with_reducible refine yC_intro (cv) ?_; simp -implicitDefEqProofs [hP, hN]; (try refine ⟨by kernel_rfl, ?_⟩))
      | with_reducible refine xTwo_intro ?_ ?_
      | (with_reducible refine WP.cond' ?_; simp -implicitDefEqProofs [hP, hN])
      | (with_reducible refine xCond_split (fun hcd => ?_) (fun hcd => ?_) <;> (try (exfalso; clear hP hN; simp_all; done)) <;> (try (exfalso; simp at *; omega)))
      | with_reducible refine WP.block ?_
      | (with_reducible refine WP.skip ?_; simp)
      | (with_reducible refine WP.exit ?_; simp)
      | (with_reducible refine WP.ret ?_; simp))
    refine WP.loopN [] t.cells.length (fun i st => st.t 1 = .ptr 1 0 ∧ st.t 3 = .arr 3 (leavesN t i).length ∧ st.t 4 = .pv (Z i) ∧ st.h 1 = some (.box [.pv (iv t.root), .pv (.sl (t.cells.map encC))] true false) ∧ st.h 3 = some (.row 3 1 ((leavesN t i).map zN) 0)) (by simp [leavesN]) ?_
    rintro i st hi ⟨g1, g3, g4, hb1, hb3⟩
    have hle := leavesN_len t i
    by_cases hlt : i < t.cells.length
    · have hw := wr_succ hlt hl
      generalize hc : t.cells[i] = c at *
      have hci : t.cells[i]? = some c := by rw [List.getElem?_eq_getElem hlt, hc]
      have cl := d116 c
      have hs := leaves_step hci
      cases hlf : leafB c with
      | true =>
        rw [hlf] at cl hs
        rw [if_pos rfl] at hs
        have hb : ((leavesN t i).length + 1) * 8 ≤ 140737488355328 := by omega
        have hb' : (leavesN t i).length + 1 ≤ 9223372036854775807 := by omega
        repeat' (first
          | with_reducible refine WP.seq ?_
          | (with_reducible refine WP.region (hn := []) ?_; simp -implicitDefEqProofs [hP, hN, g1, g3, g4, hb1, hb3, hlt, hw, hci, hc, hb, hb'])
          | (with_reducible refine WP.draw (hn := []) (by rw [hP]; kernel_rfl) (by kernel_rfl) ?_; simp -implicitDefEqProofs [hP, hN, g1, g3, g4, hb1, hb3, hlt, hw, hci, hc, hb, hb']; (try refine ⟨by kernel_rfl, ?_⟩))
          | (with_reducible refine xB_split (by simp [g1, g3, g4, hb1, hb3, hlt, hw, hci, hc, hb, hb']) (fun hgd => ?_) (fun hgd => ?_) <;> first | (exfalso; simp at hgd; done) | (exfalso; simp at hgd; omega) | simp -implicitDefEqProofs [hP, hN, g1, g3, g4, hb1, hb3, hlt, hw, hci, hc, hb, hb'])
          | (with_reducible refine yB_split (by simp [g1, g3, g4, hb1, hb3, hlt, hw, hci, hc, hb, hb']) (fun hgd => ?_) (fun hgd => ?_) <;> first | (exfalso; simp at hgd; done) | (exfalso; simp at hgd; omega) | (simp -implicitDefEqProofs [hP, hN, g1, g3, g4, hb1, hb3, hlt, hw, hci, hc, hb, hb'] <;> (try refine ⟨by kernel_rfl, ?_⟩)))
          | (with_reducible refine xC_intro (cl) ?_; simp -implicitDefEqProofs [hP, hN, g1, g3, g4, hb1, hb3, hlt, hw, hci, hc, hb, hb'])
          | (with_reducible refine yC_intro (cl) ?_; simp -implicitDefEqProofs [hP, hN, g1, g3, g4, hb1, hb3, hlt, hw, hci, hc, hb, hb']; (try refine ⟨by kernel_rfl, ?_⟩))
          | with_reducible refine xTwo_intro ?_ ?_
          | (with_reducible refine WP.cond' ?_; simp -implicitDefEqProofs [hP, hN, g1, g3, g4, hb1, hb3, hlt, hw, hci, hc, hb, hb'])
          | (with_reducible refine xCond_split (fun hcd => ?_) (fun hcd => ?_) <;> (try (exfalso; clear hP hN; simp_all; done)) <;> (try (exfalso; simp at *; omega)))
          | with_reducible refine WP.block ?_
          | (with_reducible refine WP.skip ?_; simp [g1, g3, g4, hb1, hb3, hlt, hw, hci, hc, hb, hb'])
          | (with_reducible refine WP.exit ?_; simp [g1, g3, g4, hb1, hb3, hlt, hw, hci, hc, hb, hb'])
          | (with_reducible refine WP.ret ?_; simp [g1, g3, g4, hb1, hb3, hlt, hw, hci, hc, hb, hb']))
        all_goals simp [hs]
      | false =>
        rw [hlf] at cl hs
        rw [if_neg (by simp)] at hs
        repeat' (first
          | with_reducible refine WP.seq ?_
          | (with_reducible refine WP.region (hn := []) ?_; simp -implicitDefEqProofs [hP, hN, g1, g3, g4, hb1, hb3, hlt, hw, hci, hc])
          | (with_reducible refine WP.draw (hn := []) (by rw [hP]; kernel_rfl) (by kernel_rfl) ?_; simp -implicitDefEqProofs [hP, hN, g1, g3, g4, hb1, hb3, hlt, hw, hci, hc]; (try refine ⟨by kernel_rfl, ?_⟩))
          | (with_reducible refine xB_split (by simp [g1, g3, g4, hb1, hb3, hlt, hw, hci, hc]) (fun hgd => ?_) (fun hgd => ?_) <;> first | (exfalso; simp at hgd; done) | (exfalso; simp at hgd; omega) | simp -implicitDefEqProofs [hP, hN, g1, g3, g4, hb1, hb3, hlt, hw, hci, hc])
          | (with_reducible refine yB_split (by simp [g1, g3, g4, hb1, hb3, hlt, hw, hci, hc]) (fun hgd => ?_) (fun hgd => ?_) <;> first | (exfalso; simp at hgd; done) | (exfalso; simp at hgd; omega) | (simp -implicitDefEqProofs [hP, hN, g1, g3, g4, hb1, hb3, hlt, hw, hci, hc] <;> (try refine ⟨by kernel_rfl, ?_⟩)))
          | (with_reducible refine xC_intro (cl) ?_; simp -implicitDefEqProofs [hP, hN, g1, g3, g4, hb1, hb3, hlt, hw, hci, hc])
          | (with_reducible refine yC_intro (cl) ?_; simp -implicitDefEqProofs [hP, hN, g1, g3, g4, hb1, hb3, hlt, hw, hci, hc]; (try refine ⟨by kernel_rfl, ?_⟩))
          | with_reducible refine xTwo_intro ?_ ?_
          | (with_reducible refine WP.cond' ?_; simp -implicitDefEqProofs [hP, hN, g1, g3, g4, hb1, hb3, hlt, hw, hci, hc])
          | (with_reducible refine xCond_split (fun hcd => ?_) (fun hcd => ?_) <;> (try (exfalso; clear hP hN; simp_all; done)) <;> (try (exfalso; simp at *; omega)))
          | with_reducible refine WP.block ?_
          | (with_reducible refine WP.skip ?_; simp [g1, g3, g4, hb1, hb3, hlt, hw, hci, hc])
          | (with_reducible refine WP.exit ?_; simp [g1, g3, g4, hb1, hb3, hlt, hw, hci, hc])
          | (with_reducible refine WP.ret ?_; simp [g1, g3, g4, hb1, hb3, hlt, hw, hci, hc]))
        all_goals simp [hs]
    · have hi' : i = t.cells.length := by omega
      subst hi'
      repeat' (first
        | with_reducible refine WP.seq ?_
        | (with_reducible refine WP.region (hn := []) ?_; simp -implicitDefEqProofs [hP, hN, g1, g3, g4, hb1, hb3, hlt])
        | (with_reducible refine WP.draw (hn := []) (by rw [hP]; kernel_rfl) (by kernel_rfl) ?_; simp -implicitDefEqProofs [hP, hN, g1, g3, g4, hb1, hb3, hlt]; (try refine ⟨by kernel_rfl, ?_⟩))
        | (with_reducible refine xB_split (by simp [g1, g3, g4, hb1, hb3, hlt]) (fun hgd => ?_) (fun hgd => ?_) <;> first | (exfalso; simp at hgd; done) | (exfalso; simp at hgd; omega) | simp -implicitDefEqProofs [hP, hN, g1, g3, g4, hb1, hb3, hlt])
        | (with_reducible refine yB_split (by simp [g1, g3, g4, hb1, hb3, hlt]) (fun hgd => ?_) (fun hgd => ?_) <;> first | (exfalso; simp at hgd; done) | (exfalso; simp at hgd; omega) | (simp -implicitDefEqProofs [hP, hN, g1, g3, g4, hb1, hb3, hlt] <;> (try refine ⟨by kernel_rfl, ?_⟩)))
        | with_reducible refine xTwo_intro ?_ ?_
        | (with_reducible refine WP.cond' ?_; simp -implicitDefEqProofs [hP, hN, g1, g3, g4, hb1, hb3, hlt])
        | (with_reducible refine xCond_split (fun hcd => ?_) (fun hcd => ?_) <;> (try (exfalso; clear hP hN; simp_all; done)) <;> (try (exfalso; simp at *; omega)))
        | with_reducible refine WP.block ?_
        | (with_reducible refine WP.skip ?_; simp [g1, g3, g4, hb1, hb3, hlt])
        | (with_reducible refine WP.exit ?_; simp [g1, g3, g4, hb1, hb3, hlt])
        | (with_reducible refine WP.ret ?_; simp [g1, g3, g4, hb1, hb3, hlt]))
set_option maxHeartbeats 4000000 in
theorem d37 (k : Int) : DetH Try.prog 37 [.pv (Z k)] [] [] (.pv (encVd (labelV k))) := by
  by_cases h1 : k = 1
  · subst h1
    refine detP_of Try.func37 rfl (by kernel_rfl) (by simp [Try.f37]) rfl ?_
    intro C hP hN
    simp only [Try.f37] at hN ⊢
    repeat' (first
      | with_reducible refine WP.seq ?_
      | (with_reducible refine WP.region (hn := []) ?_; simp -implicitDefEqProofs [hP, hN])
      | (with_reducible refine WP.draw (hn := []) (by rw [hP]; kernel_rfl) (by kernel_rfl) ?_; simp -implicitDefEqProofs [hP, hN]; (try refine ⟨by kernel_rfl, ?_⟩))
      | (with_reducible refine xB_split (by simp) (fun hgd => ?_) (fun hgd => ?_) <;> first | (exfalso; simp at hgd; done) | (exfalso; simp at hgd; omega) | simp -implicitDefEqProofs [hP, hN])
      | (with_reducible refine yB_split (by simp) (fun hgd => ?_) (fun hgd => ?_) <;> first | (exfalso; simp at hgd; done) | (exfalso; simp at hgd; omega) | (simp -implicitDefEqProofs [hP, hN] <;> (try refine ⟨by kernel_rfl, ?_⟩)))
      | with_reducible refine xTwo_intro ?_ ?_
      | (with_reducible refine WP.cond' ?_; simp -implicitDefEqProofs [hP, hN])
      | (with_reducible refine xCond_split (fun hcd => ?_) (fun hcd => ?_) <;> (try (exfalso; clear hP hN; simp_all; done)) <;> (try (exfalso; simp at *; omega)))
      | with_reducible refine WP.block ?_
      | (with_reducible refine WP.skip ?_; simp)
      | (with_reducible refine WP.exit ?_; simp)
      | (with_reducible refine WP.ret ?_; simp))
    all_goals simp [labelV]
  · by_cases h2 : k = 2
    · subst h2
      refine detP_of Try.func37 rfl (by kernel_rfl) (by simp [Try.f37]) rfl ?_
      intro C hP hN
      simp only [Try.f37] at hN ⊢
      repeat' (first
        | with_reducible refine WP.seq ?_
        | (with_reducible refine WP.region (hn := []) ?_; simp -implicitDefEqProofs [hP, hN])
        | (with_reducible refine WP.draw (hn := []) (by rw [hP]; kernel_rfl) (by kernel_rfl) ?_; simp -implicitDefEqProofs [hP, hN]; (try refine ⟨by kernel_rfl, ?_⟩))
        | (with_reducible refine xB_split (by simp) (fun hgd => ?_) (fun hgd => ?_) <;> first | (exfalso; simp at hgd; done) | (exfalso; simp at hgd; omega) | simp -implicitDefEqProofs [hP, hN])
        | (with_reducible refine yB_split (by simp) (fun hgd => ?_) (fun hgd => ?_) <;> first | (exfalso; simp at hgd; done) | (exfalso; simp at hgd; omega) | (simp -implicitDefEqProofs [hP, hN] <;> (try refine ⟨by kernel_rfl, ?_⟩)))
        | with_reducible refine xTwo_intro ?_ ?_
        | (with_reducible refine WP.cond' ?_; simp -implicitDefEqProofs [hP, hN])
        | (with_reducible refine xCond_split (fun hcd => ?_) (fun hcd => ?_) <;> (try (exfalso; clear hP hN; simp_all; done)) <;> (try (exfalso; simp at *; omega)))
        | with_reducible refine WP.block ?_
        | (with_reducible refine WP.skip ?_; simp)
        | (with_reducible refine WP.exit ?_; simp)
        | (with_reducible refine WP.ret ?_; simp))
      all_goals simp [labelV]
    · by_cases h3 : k = 3
      · subst h3
        refine detP_of Try.func37 rfl (by kernel_rfl) (by simp [Try.f37]) rfl ?_
        intro C hP hN
        simp only [Try.f37] at hN ⊢
        repeat' (first
          | with_reducible refine WP.seq ?_
          | (with_reducible refine WP.region (hn := []) ?_; simp -implicitDefEqProofs [hP, hN])
          | (with_reducible refine WP.draw (hn := []) (by rw [hP]; kernel_rfl) (by kernel_rfl) ?_; simp -implicitDefEqProofs [hP, hN]; (try refine ⟨by kernel_rfl, ?_⟩))
          | (with_reducible refine xB_split (by simp) (fun hgd => ?_) (fun hgd => ?_) <;> first | (exfalso; simp at hgd; done) | (exfalso; simp at hgd; omega) | simp -implicitDefEqProofs [hP, hN])
          | (with_reducible refine yB_split (by simp) (fun hgd => ?_) (fun hgd => ?_) <;> first | (exfalso; simp at hgd; done) | (exfalso; simp at hgd; omega) | (simp -implicitDefEqProofs [hP, hN] <;> (try refine ⟨by kernel_rfl, ?_⟩)))
          | with_reducible refine xTwo_intro ?_ ?_
          | (with_reducible refine WP.cond' ?_; simp -implicitDefEqProofs [hP, hN])
          | (with_reducible refine xCond_split (fun hcd => ?_) (fun hcd => ?_) <;> (try (exfalso; clear hP hN; simp_all; done)) <;> (try (exfalso; simp at *; omega)))
          | with_reducible refine WP.block ?_
          | (with_reducible refine WP.skip ?_; simp)
          | (with_reducible refine WP.exit ?_; simp)
          | (with_reducible refine WP.ret ?_; simp))
        all_goals simp [labelV]
      · skip
        refine detP_of Try.func37 rfl (by kernel_rfl) (by simp [Try.f37]) rfl ?_
        intro C hP hN
        simp only [Try.f37] at hN ⊢
        repeat' (first
          | with_reducible refine WP.seq ?_
          | (with_reducible refine WP.region (hn := []) ?_; simp -implicitDefEqProofs [hP, hN, h1, h2, h3])
          | (with_reducible refine WP.draw (hn := []) (by rw [hP]; kernel_rfl) (by kernel_rfl) ?_; simp -implicitDefEqProofs [hP, hN, h1, h2, h3]; (try refine ⟨by kernel_rfl, ?_⟩))
          | (with_reducible refine xB_split (by simp [h1, h2, h3]) (fun hgd => ?_) (fun hgd => ?_) <;> first | (exfalso; simp at hgd; done) | (exfalso; simp at hgd; omega) | simp -implicitDefEqProofs [hP, hN, h1, h2, h3])
          | (with_reducible refine yB_split (by simp [h1, h2, h3]) (fun hgd => ?_) (fun hgd => ?_) <;> first | (exfalso; simp at hgd; done) | (exfalso; simp at hgd; omega) | (simp -implicitDefEqProofs [hP, hN, h1, h2, h3] <;> (try refine ⟨by kernel_rfl, ?_⟩)))
          | with_reducible refine xTwo_intro ?_ ?_
          | (with_reducible refine WP.cond' ?_; simp -implicitDefEqProofs [hP, hN, h1, h2, h3])
          | (with_reducible refine xCond_split (fun hcd => ?_) (fun hcd => ?_) <;> (try (exfalso; clear hP hN; simp_all; done)) <;> (try (exfalso; simp at *; omega)))
          | with_reducible refine WP.block ?_
          | (with_reducible refine WP.skip ?_; simp [h1, h2, h3])
          | (with_reducible refine WP.exit ?_; simp [h1, h2, h3])
          | (with_reducible refine WP.ret ?_; simp [h1, h2, h3]))
        all_goals simp [labelV, h1, h2, h3, zeroV]
theorem splitT_no {t : Tr} {i j : Int} (h : splitOk t i j = false) : splitT t i j = t := by simp [splitT, h]
theorem settleT_no {t : Tr} {i : Int} {v : Verd} (h : settleOk t i v = false) : settleT t i v = t := by simp [settleT, h]
set_option maxRecDepth 10000 in
set_option maxHeartbeats 8000000 in
theorem d89 (t : Tr) (i j : Int) (hl : t.cells.length ≤ 9223372036854775807) : DetH Try.prog 89 [.pv (encT t), .pv (Z i), .pv (Z j)] [] [] (.pv (.tup [encT (splitT t i j), B (splitOk t i j)])) := by
  have cb := d52 t hl
  cases hv : validT t with
  | false =>
    have hno : splitOk t i j = false := by simp [splitOk, hv]
    rw [splitT_no hno, hno]
    rw [hv] at cb
    refine detP_of Try.func89 rfl (by kernel_rfl) (by simp [Try.f89]) rfl ?_
    intro C hP hN
    simp only [Try.f89] at hN ⊢
    repeat' (first
      | with_reducible refine WP.seq ?_
      | (with_reducible refine WP.region (hn := []) ?_; simp -implicitDefEqProofs [hP, hN])
      | (with_reducible refine WP.draw (hn := []) (by rw [hP]; kernel_rfl) (by kernel_rfl) ?_; simp -implicitDefEqProofs [hP, hN]; (try refine ⟨by kernel_rfl, ?_⟩))
      | (with_reducible refine xB_split (by simp) (fun hgd => ?_) (fun hgd => ?_) <;> first | (exfalso; simp at hgd; done) | (exfalso; simp at hgd; omega) | simp -implicitDefEqProofs [hP, hN])
      | (with_reducible refine yB_split (by simp) (fun hgd => ?_) (fun hgd => ?_) <;> first | (exfalso; simp at hgd; done) | (exfalso; simp at hgd; omega) | (simp -implicitDefEqProofs [hP, hN] <;> (try refine ⟨by kernel_rfl, ?_⟩)))
      | (with_reducible refine xC_intro (cb) ?_; simp -implicitDefEqProofs [hP, hN])
      | (with_reducible refine yC_intro (cb) ?_; simp -implicitDefEqProofs [hP, hN]; (try refine ⟨by kernel_rfl, ?_⟩))
      | with_reducible refine xTwo_intro ?_ ?_
      | (with_reducible refine WP.cond' ?_; simp -implicitDefEqProofs [hP, hN])
      | (with_reducible refine xCond_split (fun hcd => ?_) (fun hcd => ?_) <;> (try (exfalso; clear hP hN; simp_all; done)) <;> (try (exfalso; simp at *; omega)))
      | with_reducible refine WP.block ?_
      | (with_reducible refine WP.skip ?_; simp)
      | (with_reducible refine WP.exit ?_; simp)
      | (with_reducible refine WP.ret ?_; simp))
  | true =>
    rw [hv] at cb
    have hbl := boxesL_len hv
    have hz := sizeOk_iff.1 (valid_size hv)
    by_cases h1 : i < 0
    · have hno : splitOk t i j = false := by
        have : decide (0 ≤ i) = false := by simp; omega
        simp [splitOk, this]
      rw [splitT_no hno, hno]
      refine detP_of Try.func89 rfl (by kernel_rfl) (by simp [Try.f89]) rfl ?_
      intro C hP hN
      simp only [Try.f89] at hN ⊢
      repeat' (first
        | with_reducible refine WP.seq ?_
        | (with_reducible refine WP.region (hn := []) ?_; simp -implicitDefEqProofs [hP, hN, h1])
        | (with_reducible refine WP.draw (hn := []) (by rw [hP]; kernel_rfl) (by kernel_rfl) ?_; simp -implicitDefEqProofs [hP, hN, h1]; (try refine ⟨by kernel_rfl, ?_⟩))
        | (with_reducible refine xB_split (by simp [h1]) (fun hgd => ?_) (fun hgd => ?_) <;> first | (exfalso; simp at hgd; done) | (exfalso; simp at hgd; omega) | simp -implicitDefEqProofs [hP, hN, h1])
        | (with_reducible refine yB_split (by simp [h1]) (fun hgd => ?_) (fun hgd => ?_) <;> first | (exfalso; simp at hgd; done) | (exfalso; simp at hgd; omega) | (simp -implicitDefEqProofs [hP, hN, h1] <;> (try refine ⟨by kernel_rfl, ?_⟩)))
        | (with_reducible refine xC_intro (cb) ?_; simp -implicitDefEqProofs [hP, hN, h1])
        | (with_reducible refine yC_intro (cb) ?_; simp -implicitDefEqProofs [hP, hN, h1]; (try refine ⟨by kernel_rfl, ?_⟩))
        | with_reducible refine xTwo_intro ?_ ?_
        | (with_reducible refine WP.cond' ?_; simp -implicitDefEqProofs [hP, hN, h1])
        | (with_reducible refine xCond_split (fun hcd => ?_) (fun hcd => ?_) <;> (try (exfalso; clear hP hN; simp_all; done)) <;> (try (exfalso; simp at *; omega)))
        | with_reducible refine WP.block ?_
        | (with_reducible refine WP.skip ?_; simp [h1])
        | (with_reducible refine WP.exit ?_; simp [h1])
        | (with_reducible refine WP.ret ?_; simp [h1]))
    · obtain ⟨k, rfl⟩ := Int.eq_ofNat_of_zero_le (show 0 ≤ i by omega)
      by_cases h2 : t.cells.length ≤ k
      · have hno : splitOk t k j = false := by
          have : decide ((k : Int) < t.cells.length) = false := by simp; omega
          simp only [splitOk, this, Bool.and_false, Bool.false_and]
        rw [splitT_no hno, hno]
        refine detP_of Try.func89 rfl (by kernel_rfl) (by simp [Try.f89]) rfl ?_
        intro C hP hN
        simp only [Try.f89] at hN ⊢
        repeat' (first
          | with_reducible refine WP.seq ?_
          | (with_reducible refine WP.region (hn := []) ?_; simp -implicitDefEqProofs [hP, hN, h1, h2, hbl])
          | (with_reducible refine WP.draw (hn := []) (by rw [hP]; kernel_rfl) (by kernel_rfl) ?_; simp -implicitDefEqProofs [hP, hN, h1, h2, hbl]; (try refine ⟨by kernel_rfl, ?_⟩))
          | (with_reducible refine xB_split (by simp [h1, h2, hbl]) (fun hgd => ?_) (fun hgd => ?_) <;> first | (exfalso; simp at hgd; done) | (exfalso; simp at hgd; omega) | simp -implicitDefEqProofs [hP, hN, h1, h2, hbl])
          | (with_reducible refine yB_split (by simp [h1, h2, hbl]) (fun hgd => ?_) (fun hgd => ?_) <;> first | (exfalso; simp at hgd; done) | (exfalso; simp at hgd; omega) | (simp -implicitDefEqProofs [hP, hN, h1, h2, hbl] <;> (try refine ⟨by kernel_rfl, ?_⟩)))
          | (with_reducible refine xC_intro (cb) ?_; simp -implicitDefEqProofs [hP, hN, h1, h2, hbl])
          | (with_reducible refine yC_intro (cb) ?_; simp -implicitDefEqProofs [hP, hN, h1, h2, hbl]; (try refine ⟨by kernel_rfl, ?_⟩))
          | with_reducible refine xTwo_intro ?_ ?_
          | (with_reducible refine WP.cond' ?_; simp -implicitDefEqProofs [hP, hN, h1, h2, hbl])
          | (with_reducible refine xCond_split (fun hcd => ?_) (fun hcd => ?_) <;> (try (exfalso; clear hP hN; simp_all; done)) <;> (try (exfalso; simp at *; omega)))
          | with_reducible refine WP.block ?_
          | (with_reducible refine WP.skip ?_; simp [h1, h2, hbl])
          | (with_reducible refine WP.exit ?_; simp [h1, h2, hbl])
          | (with_reducible refine WP.ret ?_; simp [h1, h2, hbl]))
      · have hlt : k < t.cells.length := by omega
        have hlt' : k < (boxesL t).length := by omega
        generalize hc : t.cells[k] = c at *
        have hci : t.cells[k]? = some c := by rw [List.getElem?_eq_getElem hlt, hc]
        generalize hbk : (boxesL t)[k] = b at *
        have hbi : (boxesL t)[k]? = some b := by rw [List.getElem?_eq_getElem hlt', hbk]
        obtain ⟨hb1, hb2⟩ := boxesL_ok hbi
        have cl := d116 c
        have ch := d119 b j (by omega)
        have hw : IntKind.i64.wrap ((t.cells.length : Int) + 2) = (t.cells.length : Int) + 2 := wr_id (by omega) (by omega)
        have hw1 : IntKind.i64.wrap ((t.cells.length : Int) + 1) = (t.cells.length : Int) + 1 := wr_id (by omega) (by omega)
        cases hlf : leafB c with
        | false =>
          have hno : splitOk t k j = false := by simp [splitOk, leafN, hci, hlf]
          rw [splitT_no hno, hno]
          rw [hlf] at cl
          refine detP_of Try.func89 rfl (by kernel_rfl) (by simp [Try.f89]) rfl ?_
          intro C hP hN
          simp only [Try.f89] at hN ⊢
          repeat' (first
            | with_reducible refine WP.seq ?_
            | (with_reducible refine WP.region (hn := []) ?_; simp -implicitDefEqProofs [hP, hN, h1, h2, hbl, hlt, hlt', hci, hc])
            | (with_reducible refine WP.draw (hn := []) (by rw [hP]; kernel_rfl) (by kernel_rfl) ?_; simp -implicitDefEqProofs [hP, hN, h1, h2, hbl, hlt, hlt', hci, hc]; (try refine ⟨by kernel_rfl, ?_⟩))
            | (with_reducible refine xB_split (by simp [h1, h2, hbl, hlt, hlt', hci, hc]) (fun hgd => ?_) (fun hgd => ?_) <;> first | (exfalso; simp at hgd; done) | (exfalso; simp at hgd; omega) | simp -implicitDefEqProofs [hP, hN, h1, h2, hbl, hlt, hlt', hci, hc])
            | (with_reducible refine yB_split (by simp [h1, h2, hbl, hlt, hlt', hci, hc]) (fun hgd => ?_) (fun hgd => ?_) <;> first | (exfalso; simp at hgd; done) | (exfalso; simp at hgd; omega) | (simp -implicitDefEqProofs [hP, hN, h1, h2, hbl, hlt, hlt', hci, hc] <;> (try refine ⟨by kernel_rfl, ?_⟩)))
            | (with_reducible refine xC_intro (cb) ?_; simp -implicitDefEqProofs [hP, hN, h1, h2, hbl, hlt, hlt', hci, hc])
            | (with_reducible refine yC_intro (cb) ?_; simp -implicitDefEqProofs [hP, hN, h1, h2, hbl, hlt, hlt', hci, hc]; (try refine ⟨by kernel_rfl, ?_⟩))
            | (with_reducible refine xC_intro (cl) ?_; simp -implicitDefEqProofs [hP, hN, h1, h2, hbl, hlt, hlt', hci, hc])
            | (with_reducible refine yC_intro (cl) ?_; simp -implicitDefEqProofs [hP, hN, h1, h2, hbl, hlt, hlt', hci, hc]; (try refine ⟨by kernel_rfl, ?_⟩))
            | with_reducible refine xTwo_intro ?_ ?_
            | (with_reducible refine WP.cond' ?_; simp -implicitDefEqProofs [hP, hN, h1, h2, hbl, hlt, hlt', hci, hc])
            | (with_reducible refine xCond_split (fun hcd => ?_) (fun hcd => ?_) <;> (try (exfalso; clear hP hN; simp_all; done)) <;> (try (exfalso; simp at *; omega)))
            | with_reducible refine WP.block ?_
            | (with_reducible refine WP.skip ?_; simp [h1, h2, hbl, hlt, hlt', hci, hc])
            | (with_reducible refine WP.exit ?_; simp [h1, h2, hbl, hlt, hlt', hci, hc])
            | (with_reducible refine WP.ret ?_; simp [h1, h2, hbl, hlt, hlt', hci, hc]))
        | true =>
          rw [hlf] at cl
          by_cases h3 : 2048 < t.cells.length + 2
          · have hno : splitOk t k j = false := by
              have : decide (t.cells.length + 2 ≤ 2048) = false := by simp; omega
              simp only [splitOk, this, Bool.and_false, Bool.false_and]
            have h3' : (2048 : Int) < t.cells.length + 2 := by omega
            rw [splitT_no hno, hno]
            refine detP_of Try.func89 rfl (by kernel_rfl) (by simp [Try.f89]) rfl ?_
            intro C hP hN
            simp only [Try.f89] at hN ⊢
            repeat' (first
              | with_reducible refine WP.seq ?_
              | (with_reducible refine WP.region (hn := []) ?_; simp -implicitDefEqProofs [hP, hN, h1, h2, hbl, hlt, hlt', hci, hc, hw, h3'])
              | (with_reducible refine WP.draw (hn := []) (by rw [hP]; kernel_rfl) (by kernel_rfl) ?_; simp -implicitDefEqProofs [hP, hN, h1, h2, hbl, hlt, hlt', hci, hc, hw, h3']; (try refine ⟨by kernel_rfl, ?_⟩))
              | (with_reducible refine xB_split (by simp [h1, h2, hbl, hlt, hlt', hci, hc, hw, h3']) (fun hgd => ?_) (fun hgd => ?_) <;> first | (exfalso; simp at hgd; done) | (exfalso; simp at hgd; omega) | simp -implicitDefEqProofs [hP, hN, h1, h2, hbl, hlt, hlt', hci, hc, hw, h3'])
              | (with_reducible refine yB_split (by simp [h1, h2, hbl, hlt, hlt', hci, hc, hw, h3']) (fun hgd => ?_) (fun hgd => ?_) <;> first | (exfalso; simp at hgd; done) | (exfalso; simp at hgd; omega) | (simp -implicitDefEqProofs [hP, hN, h1, h2, hbl, hlt, hlt', hci, hc, hw, h3'] <;> (try refine ⟨by kernel_rfl, ?_⟩)))
              | (with_reducible refine xC_intro (cb) ?_; simp -implicitDefEqProofs [hP, hN, h1, h2, hbl, hlt, hlt', hci, hc, hw, h3'])
              | (with_reducible refine yC_intro (cb) ?_; simp -implicitDefEqProofs [hP, hN, h1, h2, hbl, hlt, hlt', hci, hc, hw, h3']; (try refine ⟨by kernel_rfl, ?_⟩))
              | (with_reducible refine xC_intro (cl) ?_; simp -implicitDefEqProofs [hP, hN, h1, h2, hbl, hlt, hlt', hci, hc, hw, h3'])
              | (with_reducible refine yC_intro (cl) ?_; simp -implicitDefEqProofs [hP, hN, h1, h2, hbl, hlt, hlt', hci, hc, hw, h3']; (try refine ⟨by kernel_rfl, ?_⟩))
              | with_reducible refine xTwo_intro ?_ ?_
              | (with_reducible refine WP.cond' ?_; simp -implicitDefEqProofs [hP, hN, h1, h2, hbl, hlt, hlt', hci, hc, hw, h3'])
              | (with_reducible refine xCond_split (fun hcd => ?_) (fun hcd => ?_) <;> (try (exfalso; clear hP hN; simp_all; done)) <;> (try (exfalso; simp at *; omega)))
              | with_reducible refine WP.block ?_
              | (with_reducible refine WP.skip ?_; simp [h1, h2, hbl, hlt, hlt', hci, hc, hw, h3'])
              | (with_reducible refine WP.exit ?_; simp [h1, h2, hbl, hlt, hlt', hci, hc, hw, h3'])
              | (with_reducible refine WP.ret ?_; simp [h1, h2, hbl, hlt, hlt', hci, hc, hw, h3']))
          · have h3' : ¬ (2048 : Int) < t.cells.length + 2 := by omega
            cases hh : halveOk b j with
            | false =>
              have hno : splitOk t k j = false := by simp [splitOk, hbi, hh]
              rw [splitT_no hno, hno]
              rw [hh] at ch
              refine detP_of Try.func89 rfl (by kernel_rfl) (by simp [Try.f89]) rfl ?_
              intro C hP hN
              simp only [Try.f89] at hN ⊢
              repeat' (first
                | with_reducible refine WP.seq ?_
                | (with_reducible refine WP.region (hn := []) ?_; simp -implicitDefEqProofs [hP, hN, h1, h2, hbl, hlt, hlt', hci, hc, hbk, hbi, hw, h3'])
                | (with_reducible refine WP.draw (hn := []) (by rw [hP]; kernel_rfl) (by kernel_rfl) ?_; simp -implicitDefEqProofs [hP, hN, h1, h2, hbl, hlt, hlt', hci, hc, hbk, hbi, hw, h3']; (try refine ⟨by kernel_rfl, ?_⟩))
                | (with_reducible refine xB_split (by simp [h1, h2, hbl, hlt, hlt', hci, hc, hbk, hbi, hw, h3']) (fun hgd => ?_) (fun hgd => ?_) <;> first | (exfalso; simp at hgd; done) | (exfalso; simp at hgd; omega) | simp -implicitDefEqProofs [hP, hN, h1, h2, hbl, hlt, hlt', hci, hc, hbk, hbi, hw, h3'])
                | (with_reducible refine yB_split (by simp [h1, h2, hbl, hlt, hlt', hci, hc, hbk, hbi, hw, h3']) (fun hgd => ?_) (fun hgd => ?_) <;> first | (exfalso; simp at hgd; done) | (exfalso; simp at hgd; omega) | (simp -implicitDefEqProofs [hP, hN, h1, h2, hbl, hlt, hlt', hci, hc, hbk, hbi, hw, h3'] <;> (try refine ⟨by kernel_rfl, ?_⟩)))
                | (with_reducible refine xC_intro (cb) ?_; simp -implicitDefEqProofs [hP, hN, h1, h2, hbl, hlt, hlt', hci, hc, hbk, hbi, hw, h3'])
                | (with_reducible refine yC_intro (cb) ?_; simp -implicitDefEqProofs [hP, hN, h1, h2, hbl, hlt, hlt', hci, hc, hbk, hbi, hw, h3']; (try refine ⟨by kernel_rfl, ?_⟩))
                | (with_reducible refine xC_intro (cl) ?_; simp -implicitDefEqProofs [hP, hN, h1, h2, hbl, hlt, hlt', hci, hc, hbk, hbi, hw, h3'])
                | (with_reducible refine yC_intro (cl) ?_; simp -implicitDefEqProofs [hP, hN, h1, h2, hbl, hlt, hlt', hci, hc, hbk, hbi, hw, h3']; (try refine ⟨by kernel_rfl, ?_⟩))
                | (with_reducible refine xC_intro (ch) ?_; simp -implicitDefEqProofs [hP, hN, h1, h2, hbl, hlt, hlt', hci, hc, hbk, hbi, hw, h3'])
                | (with_reducible refine yC_intro (ch) ?_; simp -implicitDefEqProofs [hP, hN, h1, h2, hbl, hlt, hlt', hci, hc, hbk, hbi, hw, h3']; (try refine ⟨by kernel_rfl, ?_⟩))
                | with_reducible refine xTwo_intro ?_ ?_
                | (with_reducible refine WP.cond' ?_; simp -implicitDefEqProofs [hP, hN, h1, h2, hbl, hlt, hlt', hci, hc, hbk, hbi, hw, h3'])
                | (with_reducible refine xCond_split (fun hcd => ?_) (fun hcd => ?_) <;> (try (exfalso; clear hP hN; simp_all; done)) <;> (try (exfalso; simp at *; omega)))
                | with_reducible refine WP.block ?_
                | (with_reducible refine WP.skip ?_; simp [h1, h2, hbl, hlt, hlt', hci, hc, hbk, hbi, hw, h3'])
                | (with_reducible refine WP.exit ?_; simp [h1, h2, hbl, hlt, hlt', hci, hc, hbk, hbi, hw, h3'])
                | (with_reducible refine WP.ret ?_; simp [h1, h2, hbl, hlt, hlt', hci, hc, hbk, hbi, hw, h3']))
            | true =>
              have hyes : splitOk t k j = true := by
                simp only [splitOk, hv, leafN, Int.toNat_natCast, hci, hlf, hbi, Option.getD_some, hh, Bool.and_true, Bool.true_and, Bool.and_eq_true, decide_eq_true_eq]
                omega
              have hT : splitT t k j = splitC t k j c.v := by simp [splitT, hyes, vAt, hci]
              rw [hT, hyes]
              rw [hh] at ch
              have hcl := leafB_eq hlf
              refine detP_of Try.func89 rfl (by kernel_rfl) (by simp [Try.f89]) rfl ?_
              intro C hP hN
              simp only [Try.f89] at hN ⊢
              repeat' (first
                | with_reducible refine WP.seq ?_
                | (with_reducible refine WP.region (hn := []) ?_; simp -implicitDefEqProofs [hP, hN, h1, h2, hbl, hlt, hlt', hci, hc, hbk, hbi, hw, hw1, h3', show t.cells.length * 112 ≤ 140737488355328 by omega, show (t.cells.length + 2) * 112 ≤ 140737488355328 by omega, show t.cells.length + 2 ≤ 9223372036854775807 by omega, show t.cells.length ≤ 9223372036854775807 by omega])
                | (with_reducible refine WP.draw (hn := []) (by rw [hP]; kernel_rfl) (by kernel_rfl) ?_; simp -implicitDefEqProofs [hP, hN, h1, h2, hbl, hlt, hlt', hci, hc, hbk, hbi, hw, hw1, h3', show t.cells.length * 112 ≤ 140737488355328 by omega, show (t.cells.length + 2) * 112 ≤ 140737488355328 by omega, show t.cells.length + 2 ≤ 9223372036854775807 by omega, show t.cells.length ≤ 9223372036854775807 by omega]; (try refine ⟨by kernel_rfl, ?_⟩))
                | (with_reducible refine xB_split (by simp [h1, h2, hbl, hlt, hlt', hci, hc, hbk, hbi, hw, hw1, h3', show t.cells.length * 112 ≤ 140737488355328 by omega, show (t.cells.length + 2) * 112 ≤ 140737488355328 by omega, show t.cells.length + 2 ≤ 9223372036854775807 by omega, show t.cells.length ≤ 9223372036854775807 by omega]) (fun hgd => ?_) (fun hgd => ?_) <;> first | (exfalso; simp at hgd; done) | (exfalso; simp at hgd; omega) | simp -implicitDefEqProofs [hP, hN, h1, h2, hbl, hlt, hlt', hci, hc, hbk, hbi, hw, hw1, h3', show t.cells.length * 112 ≤ 140737488355328 by omega, show (t.cells.length + 2) * 112 ≤ 140737488355328 by omega, show t.cells.length + 2 ≤ 9223372036854775807 by omega, show t.cells.length ≤ 9223372036854775807 by omega])
                | (with_reducible refine yB_split (by simp [h1, h2, hbl, hlt, hlt', hci, hc, hbk, hbi, hw, hw1, h3', show t.cells.length * 112 ≤ 140737488355328 by omega, show (t.cells.length + 2) * 112 ≤ 140737488355328 by omega, show t.cells.length + 2 ≤ 9223372036854775807 by omega, show t.cells.length ≤ 9223372036854775807 by omega]) (fun hgd => ?_) (fun hgd => ?_) <;> first | (exfalso; simp at hgd; done) | (exfalso; simp at hgd; omega) | (simp -implicitDefEqProofs [hP, hN, h1, h2, hbl, hlt, hlt', hci, hc, hbk, hbi, hw, hw1, h3', show t.cells.length * 112 ≤ 140737488355328 by omega, show (t.cells.length + 2) * 112 ≤ 140737488355328 by omega, show t.cells.length + 2 ≤ 9223372036854775807 by omega, show t.cells.length ≤ 9223372036854775807 by omega] <;> (try refine ⟨by kernel_rfl, ?_⟩)))
                | (with_reducible refine xC_intro (cb) ?_; simp -implicitDefEqProofs [hP, hN, h1, h2, hbl, hlt, hlt', hci, hc, hbk, hbi, hw, hw1, h3', show t.cells.length * 112 ≤ 140737488355328 by omega, show (t.cells.length + 2) * 112 ≤ 140737488355328 by omega, show t.cells.length + 2 ≤ 9223372036854775807 by omega, show t.cells.length ≤ 9223372036854775807 by omega])
                | (with_reducible refine yC_intro (cb) ?_; simp -implicitDefEqProofs [hP, hN, h1, h2, hbl, hlt, hlt', hci, hc, hbk, hbi, hw, hw1, h3', show t.cells.length * 112 ≤ 140737488355328 by omega, show (t.cells.length + 2) * 112 ≤ 140737488355328 by omega, show t.cells.length + 2 ≤ 9223372036854775807 by omega, show t.cells.length ≤ 9223372036854775807 by omega]; (try refine ⟨by kernel_rfl, ?_⟩))
                | (with_reducible refine xC_intro (cl) ?_; simp -implicitDefEqProofs [hP, hN, h1, h2, hbl, hlt, hlt', hci, hc, hbk, hbi, hw, hw1, h3', show t.cells.length * 112 ≤ 140737488355328 by omega, show (t.cells.length + 2) * 112 ≤ 140737488355328 by omega, show t.cells.length + 2 ≤ 9223372036854775807 by omega, show t.cells.length ≤ 9223372036854775807 by omega])
                | (with_reducible refine yC_intro (cl) ?_; simp -implicitDefEqProofs [hP, hN, h1, h2, hbl, hlt, hlt', hci, hc, hbk, hbi, hw, hw1, h3', show t.cells.length * 112 ≤ 140737488355328 by omega, show (t.cells.length + 2) * 112 ≤ 140737488355328 by omega, show t.cells.length + 2 ≤ 9223372036854775807 by omega, show t.cells.length ≤ 9223372036854775807 by omega]; (try refine ⟨by kernel_rfl, ?_⟩))
                | (with_reducible refine xC_intro (ch) ?_; simp -implicitDefEqProofs [hP, hN, h1, h2, hbl, hlt, hlt', hci, hc, hbk, hbi, hw, hw1, h3', show t.cells.length * 112 ≤ 140737488355328 by omega, show (t.cells.length + 2) * 112 ≤ 140737488355328 by omega, show t.cells.length + 2 ≤ 9223372036854775807 by omega, show t.cells.length ≤ 9223372036854775807 by omega])
                | (with_reducible refine yC_intro (ch) ?_; simp -implicitDefEqProofs [hP, hN, h1, h2, hbl, hlt, hlt', hci, hc, hbk, hbi, hw, hw1, h3', show t.cells.length * 112 ≤ 140737488355328 by omega, show (t.cells.length + 2) * 112 ≤ 140737488355328 by omega, show t.cells.length + 2 ≤ 9223372036854775807 by omega, show t.cells.length ≤ 9223372036854775807 by omega]; (try refine ⟨by kernel_rfl, ?_⟩))
                | with_reducible refine xTwo_intro ?_ ?_
                | (with_reducible refine WP.cond' ?_; simp -implicitDefEqProofs [hP, hN, h1, h2, hbl, hlt, hlt', hci, hc, hbk, hbi, hw, hw1, h3', show t.cells.length * 112 ≤ 140737488355328 by omega, show (t.cells.length + 2) * 112 ≤ 140737488355328 by omega, show t.cells.length + 2 ≤ 9223372036854775807 by omega, show t.cells.length ≤ 9223372036854775807 by omega])
                | (with_reducible refine xCond_split (fun hcd => ?_) (fun hcd => ?_) <;> (try (exfalso; clear hP hN; simp_all; done)) <;> (try (exfalso; simp at *; omega)))
                | with_reducible refine WP.block ?_
                | (with_reducible refine WP.skip ?_; simp [h1, h2, hbl, hlt, hlt', hci, hc, hbk, hbi, hw, hw1, h3', show t.cells.length * 112 ≤ 140737488355328 by omega, show (t.cells.length + 2) * 112 ≤ 140737488355328 by omega, show t.cells.length + 2 ≤ 9223372036854775807 by omega, show t.cells.length ≤ 9223372036854775807 by omega])
                | (with_reducible refine WP.exit ?_; simp [h1, h2, hbl, hlt, hlt', hci, hc, hbk, hbi, hw, hw1, h3', show t.cells.length * 112 ≤ 140737488355328 by omega, show (t.cells.length + 2) * 112 ≤ 140737488355328 by omega, show t.cells.length + 2 ≤ 9223372036854775807 by omega, show t.cells.length ≤ 9223372036854775807 by omega])
                | (with_reducible refine WP.ret ?_; simp [h1, h2, hbl, hlt, hlt', hci, hc, hbk, hbi, hw, hw1, h3', show t.cells.length * 112 ≤ 140737488355328 by omega, show (t.cells.length + 2) * 112 ≤ 140737488355328 by omega, show t.cells.length + 2 ≤ 9223372036854775807 by omega, show t.cells.length ≤ 9223372036854775807 by omega]))
              all_goals (rw [hcl]; simp [splitC, leafC, List.map_set, zeroV] <;> rfl)
set_option maxRecDepth 10000 in
set_option maxHeartbeats 8000000 in
theorem d90 (t : Tr) (i : Int) (v : Verd) (hl : t.cells.length ≤ 9223372036854775807) : DetH Try.prog 90 [.pv (encT t), .pv (Z i), .pv (encVd v)] [] [] (.pv (.tup [encT (settleT t i v), B (settleOk t i v)])) := by
  have cb := d25 t hl
  cases hv : validT t with
  | false =>
    have hno : settleOk t i v = false := by simp [settleOk, hv]
    rw [settleT_no hno, hno]
    rw [hv] at cb
    refine detP_of Try.func90 rfl (by kernel_rfl) (by simp [Try.f90]) rfl ?_
    intro C hP hN
    simp only [Try.f90] at hN ⊢
    repeat' (first
      | with_reducible refine WP.seq ?_
      | (with_reducible refine WP.region (hn := []) ?_; simp -implicitDefEqProofs [hP, hN])
      | (with_reducible refine WP.draw (hn := []) (by rw [hP]; kernel_rfl) (by kernel_rfl) ?_; simp -implicitDefEqProofs [hP, hN]; (try refine ⟨by kernel_rfl, ?_⟩))
      | (with_reducible refine xB_split (by simp) (fun hgd => ?_) (fun hgd => ?_) <;> first | (exfalso; simp at hgd; done) | (exfalso; simp at hgd; omega) | simp -implicitDefEqProofs [hP, hN])
      | (with_reducible refine yB_split (by simp) (fun hgd => ?_) (fun hgd => ?_) <;> first | (exfalso; simp at hgd; done) | (exfalso; simp at hgd; omega) | (simp -implicitDefEqProofs [hP, hN] <;> (try refine ⟨by kernel_rfl, ?_⟩)))
      | (with_reducible refine xC_intro (cb) ?_; simp -implicitDefEqProofs [hP, hN])
      | (with_reducible refine yC_intro (cb) ?_; simp -implicitDefEqProofs [hP, hN]; (try refine ⟨by kernel_rfl, ?_⟩))
      | with_reducible refine xTwo_intro ?_ ?_
      | (with_reducible refine WP.cond' ?_; simp -implicitDefEqProofs [hP, hN])
      | (with_reducible refine xCond_split (fun hcd => ?_) (fun hcd => ?_) <;> (try (exfalso; clear hP hN; simp_all; done)) <;> (try (exfalso; simp at *; omega)))
      | with_reducible refine WP.block ?_
      | (with_reducible refine WP.skip ?_; simp)
      | (with_reducible refine WP.exit ?_; simp)
      | (with_reducible refine WP.ret ?_; simp))
  | true =>
    rw [hv] at cb
    have hz := sizeOk_iff.1 (valid_size hv)
    by_cases h1 : i < 0
    · have hno : settleOk t i v = false := by
        have : decide (0 ≤ i) = false := by simp; omega
        simp only [settleOk, this, Bool.and_false, Bool.false_and]
      rw [settleT_no hno, hno]
      refine detP_of Try.func90 rfl (by kernel_rfl) (by simp [Try.f90]) rfl ?_
      intro C hP hN
      simp only [Try.f90] at hN ⊢
      repeat' (first
        | with_reducible refine WP.seq ?_
        | (with_reducible refine WP.region (hn := []) ?_; simp -implicitDefEqProofs [hP, hN, h1])
        | (with_reducible refine WP.draw (hn := []) (by rw [hP]; kernel_rfl) (by kernel_rfl) ?_; simp -implicitDefEqProofs [hP, hN, h1]; (try refine ⟨by kernel_rfl, ?_⟩))
        | (with_reducible refine xB_split (by simp [h1]) (fun hgd => ?_) (fun hgd => ?_) <;> first | (exfalso; simp at hgd; done) | (exfalso; simp at hgd; omega) | simp -implicitDefEqProofs [hP, hN, h1])
        | (with_reducible refine yB_split (by simp [h1]) (fun hgd => ?_) (fun hgd => ?_) <;> first | (exfalso; simp at hgd; done) | (exfalso; simp at hgd; omega) | (simp -implicitDefEqProofs [hP, hN, h1] <;> (try refine ⟨by kernel_rfl, ?_⟩)))
        | (with_reducible refine xC_intro (cb) ?_; simp -implicitDefEqProofs [hP, hN, h1])
        | (with_reducible refine yC_intro (cb) ?_; simp -implicitDefEqProofs [hP, hN, h1]; (try refine ⟨by kernel_rfl, ?_⟩))
        | with_reducible refine xTwo_intro ?_ ?_
        | (with_reducible refine WP.cond' ?_; simp -implicitDefEqProofs [hP, hN, h1])
        | (with_reducible refine xCond_split (fun hcd => ?_) (fun hcd => ?_) <;> (try (exfalso; clear hP hN; simp_all; done)) <;> (try (exfalso; simp at *; omega)))
        | with_reducible refine WP.block ?_
        | (with_reducible refine WP.skip ?_; simp [h1])
        | (with_reducible refine WP.exit ?_; simp [h1])
        | (with_reducible refine WP.ret ?_; simp [h1]))
    · obtain ⟨k, rfl⟩ := Int.eq_ofNat_of_zero_le (show 0 ≤ i by omega)
      by_cases h2 : t.cells.length ≤ k
      · have hno : settleOk t k v = false := by
          have : decide ((k : Int) < t.cells.length) = false := by simp; omega
          simp only [settleOk, this, Bool.and_false, Bool.false_and]
        rw [settleT_no hno, hno]
        refine detP_of Try.func90 rfl (by kernel_rfl) (by simp [Try.f90]) rfl ?_
        intro C hP hN
        simp only [Try.f90] at hN ⊢
        repeat' (first
          | with_reducible refine WP.seq ?_
          | (with_reducible refine WP.region (hn := []) ?_; simp -implicitDefEqProofs [hP, hN, h1, h2])
          | (with_reducible refine WP.draw (hn := []) (by rw [hP]; kernel_rfl) (by kernel_rfl) ?_; simp -implicitDefEqProofs [hP, hN, h1, h2]; (try refine ⟨by kernel_rfl, ?_⟩))
          | (with_reducible refine xB_split (by simp [h1, h2]) (fun hgd => ?_) (fun hgd => ?_) <;> first | (exfalso; simp at hgd; done) | (exfalso; simp at hgd; omega) | simp -implicitDefEqProofs [hP, hN, h1, h2])
          | (with_reducible refine yB_split (by simp [h1, h2]) (fun hgd => ?_) (fun hgd => ?_) <;> first | (exfalso; simp at hgd; done) | (exfalso; simp at hgd; omega) | (simp -implicitDefEqProofs [hP, hN, h1, h2] <;> (try refine ⟨by kernel_rfl, ?_⟩)))
          | (with_reducible refine xC_intro (cb) ?_; simp -implicitDefEqProofs [hP, hN, h1, h2])
          | (with_reducible refine yC_intro (cb) ?_; simp -implicitDefEqProofs [hP, hN, h1, h2]; (try refine ⟨by kernel_rfl, ?_⟩))
          | with_reducible refine xTwo_intro ?_ ?_
          | (with_reducible refine WP.cond' ?_; simp -implicitDefEqProofs [hP, hN, h1, h2])
          | (with_reducible refine xCond_split (fun hcd => ?_) (fun hcd => ?_) <;> (try (exfalso; clear hP hN; simp_all; done)) <;> (try (exfalso; simp at *; omega)))
          | with_reducible refine WP.block ?_
          | (with_reducible refine WP.skip ?_; simp [h1, h2])
          | (with_reducible refine WP.exit ?_; simp [h1, h2])
          | (with_reducible refine WP.ret ?_; simp [h1, h2]))
      · have hlt : k < t.cells.length := by omega
        generalize hc : t.cells[k] = c at *
        have hci : t.cells[k]? = some c := by rw [List.getElem?_eq_getElem hlt, hc]
        have cl := d116 c
        have cf := d117 v
        cases hlf : leafB c with
        | false =>
          have hno : settleOk t k v = false := by simp [settleOk, leafN, hci, hlf]
          rw [settleT_no hno, hno]
          rw [hlf] at cl
          refine detP_of Try.func90 rfl (by kernel_rfl) (by simp [Try.f90]) rfl ?_
          intro C hP hN
          simp only [Try.f90] at hN ⊢
          repeat' (first
            | with_reducible refine WP.seq ?_
            | (with_reducible refine WP.region (hn := []) ?_; simp -implicitDefEqProofs [hP, hN, h1, h2, hlt, hci, hc])
            | (with_reducible refine WP.draw (hn := []) (by rw [hP]; kernel_rfl) (by kernel_rfl) ?_; simp -implicitDefEqProofs [hP, hN, h1, h2, hlt, hci, hc]; (try refine ⟨by kernel_rfl, ?_⟩))
            | (with_reducible refine xB_split (by simp [h1, h2, hlt, hci, hc]) (fun hgd => ?_) (fun hgd => ?_) <;> first | (exfalso; simp at hgd; done) | (exfalso; simp at hgd; omega) | simp -implicitDefEqProofs [hP, hN, h1, h2, hlt, hci, hc])
            | (with_reducible refine yB_split (by simp [h1, h2, hlt, hci, hc]) (fun hgd => ?_) (fun hgd => ?_) <;> first | (exfalso; simp at hgd; done) | (exfalso; simp at hgd; omega) | (simp -implicitDefEqProofs [hP, hN, h1, h2, hlt, hci, hc] <;> (try refine ⟨by kernel_rfl, ?_⟩)))
            | (with_reducible refine xC_intro (cb) ?_; simp -implicitDefEqProofs [hP, hN, h1, h2, hlt, hci, hc])
            | (with_reducible refine yC_intro (cb) ?_; simp -implicitDefEqProofs [hP, hN, h1, h2, hlt, hci, hc]; (try refine ⟨by kernel_rfl, ?_⟩))
            | (with_reducible refine xC_intro (cl) ?_; simp -implicitDefEqProofs [hP, hN, h1, h2, hlt, hci, hc])
            | (with_reducible refine yC_intro (cl) ?_; simp -implicitDefEqProofs [hP, hN, h1, h2, hlt, hci, hc]; (try refine ⟨by kernel_rfl, ?_⟩))
            | with_reducible refine xTwo_intro ?_ ?_
            | (with_reducible refine WP.cond' ?_; simp -implicitDefEqProofs [hP, hN, h1, h2, hlt, hci, hc])
            | (with_reducible refine xCond_split (fun hcd => ?_) (fun hcd => ?_) <;> (try (exfalso; clear hP hN; simp_all; done)) <;> (try (exfalso; simp at *; omega)))
            | with_reducible refine WP.block ?_
            | (with_reducible refine WP.skip ?_; simp [h1, h2, hlt, hci, hc])
            | (with_reducible refine WP.exit ?_; simp [h1, h2, hlt, hci, hc])
            | (with_reducible refine WP.ret ?_; simp [h1, h2, hlt, hci, hc]))
        | true =>
          rw [hlf] at cl
          by_cases h3 : c.v.kind = 0
          · have h3' : (c.v.kind != 0) = false := by simp [h3]
            cases hf : inFormB v with
            | false =>
              have hno : settleOk t k v = false := by simp [settleOk, hf]
              rw [settleT_no hno, hno]
              rw [hf] at cf
              refine detP_of Try.func90 rfl (by kernel_rfl) (by simp [Try.f90]) rfl ?_
              intro C hP hN
              simp only [Try.f90] at hN ⊢
              repeat' (first
                | with_reducible refine WP.seq ?_
                | (with_reducible refine WP.region (hn := []) ?_; simp -implicitDefEqProofs [hP, hN, h1, h2, hlt, hci, hc, h3'])
                | (with_reducible refine WP.draw (hn := []) (by rw [hP]; kernel_rfl) (by kernel_rfl) ?_; simp -implicitDefEqProofs [hP, hN, h1, h2, hlt, hci, hc, h3']; (try refine ⟨by kernel_rfl, ?_⟩))
                | (with_reducible refine xB_split (by simp [h1, h2, hlt, hci, hc, h3']) (fun hgd => ?_) (fun hgd => ?_) <;> first | (exfalso; simp at hgd; done) | (exfalso; simp at hgd; omega) | simp -implicitDefEqProofs [hP, hN, h1, h2, hlt, hci, hc, h3'])
                | (with_reducible refine yB_split (by simp [h1, h2, hlt, hci, hc, h3']) (fun hgd => ?_) (fun hgd => ?_) <;> first | (exfalso; simp at hgd; done) | (exfalso; simp at hgd; omega) | (simp -implicitDefEqProofs [hP, hN, h1, h2, hlt, hci, hc, h3'] <;> (try refine ⟨by kernel_rfl, ?_⟩)))
                | (with_reducible refine xC_intro (cb) ?_; simp -implicitDefEqProofs [hP, hN, h1, h2, hlt, hci, hc, h3'])
                | (with_reducible refine yC_intro (cb) ?_; simp -implicitDefEqProofs [hP, hN, h1, h2, hlt, hci, hc, h3']; (try refine ⟨by kernel_rfl, ?_⟩))
                | (with_reducible refine xC_intro (cl) ?_; simp -implicitDefEqProofs [hP, hN, h1, h2, hlt, hci, hc, h3'])
                | (with_reducible refine yC_intro (cl) ?_; simp -implicitDefEqProofs [hP, hN, h1, h2, hlt, hci, hc, h3']; (try refine ⟨by kernel_rfl, ?_⟩))
                | (with_reducible refine xC_intro (cf) ?_; simp -implicitDefEqProofs [hP, hN, h1, h2, hlt, hci, hc, h3'])
                | (with_reducible refine yC_intro (cf) ?_; simp -implicitDefEqProofs [hP, hN, h1, h2, hlt, hci, hc, h3']; (try refine ⟨by kernel_rfl, ?_⟩))
                | with_reducible refine xTwo_intro ?_ ?_
                | (with_reducible refine WP.cond' ?_; simp -implicitDefEqProofs [hP, hN, h1, h2, hlt, hci, hc, h3'])
                | (with_reducible refine xCond_split (fun hcd => ?_) (fun hcd => ?_) <;> (try (exfalso; clear hP hN; simp_all; done)) <;> (try (exfalso; simp at *; omega)))
                | with_reducible refine WP.block ?_
                | (with_reducible refine WP.skip ?_; simp [h1, h2, hlt, hci, hc, h3'])
                | (with_reducible refine WP.exit ?_; simp [h1, h2, hlt, hci, hc, h3'])
                | (with_reducible refine WP.ret ?_; simp [h1, h2, hlt, hci, hc, h3']))
            | true =>
              rw [hf] at cf
              have hyes : settleOk t k v = true := by
                simp [settleOk, hv, leafN, hci, hlf, hf, vAt, h3, hlt, hc]
              have hT : settleT t k v = settleC t k v := by simp [settleT, hyes]
              rw [hT, hyes]
              have hcl := leafB_eq hlf
              have q1 : c.joint = -1 := by rw [hcl]; rfl
              have q2 : c.low = -1 := by rw [hcl]; rfl
              have q3 : c.high = -1 := by rw [hcl]; rfl
              refine detP_of Try.func90 rfl (by kernel_rfl) (by simp [Try.f90]) rfl ?_
              intro C hP hN
              simp only [Try.f90] at hN ⊢
              repeat' (first
                | with_reducible refine WP.seq ?_
                | (with_reducible refine WP.region (hn := []) ?_; simp -implicitDefEqProofs [hP, hN, h1, h2, hlt, hci, hc, h3', show t.cells.length * 112 ≤ 140737488355328 by omega, show t.cells.length ≤ 9223372036854775807 by omega])
                | (with_reducible refine WP.draw (hn := []) (by rw [hP]; kernel_rfl) (by kernel_rfl) ?_; simp -implicitDefEqProofs [hP, hN, h1, h2, hlt, hci, hc, h3', show t.cells.length * 112 ≤ 140737488355328 by omega, show t.cells.length ≤ 9223372036854775807 by omega]; (try refine ⟨by kernel_rfl, ?_⟩))
                | (with_reducible refine xB_split (by simp [h1, h2, hlt, hci, hc, h3', show t.cells.length * 112 ≤ 140737488355328 by omega, show t.cells.length ≤ 9223372036854775807 by omega]) (fun hgd => ?_) (fun hgd => ?_) <;> first | (exfalso; simp at hgd; done) | (exfalso; simp at hgd; omega) | simp -implicitDefEqProofs [hP, hN, h1, h2, hlt, hci, hc, h3', show t.cells.length * 112 ≤ 140737488355328 by omega, show t.cells.length ≤ 9223372036854775807 by omega])
                | (with_reducible refine yB_split (by simp [h1, h2, hlt, hci, hc, h3', show t.cells.length * 112 ≤ 140737488355328 by omega, show t.cells.length ≤ 9223372036854775807 by omega]) (fun hgd => ?_) (fun hgd => ?_) <;> first | (exfalso; simp at hgd; done) | (exfalso; simp at hgd; omega) | (simp -implicitDefEqProofs [hP, hN, h1, h2, hlt, hci, hc, h3', show t.cells.length * 112 ≤ 140737488355328 by omega, show t.cells.length ≤ 9223372036854775807 by omega] <;> (try refine ⟨by kernel_rfl, ?_⟩)))
                | (with_reducible refine xC_intro (cb) ?_; simp -implicitDefEqProofs [hP, hN, h1, h2, hlt, hci, hc, h3', show t.cells.length * 112 ≤ 140737488355328 by omega, show t.cells.length ≤ 9223372036854775807 by omega])
                | (with_reducible refine yC_intro (cb) ?_; simp -implicitDefEqProofs [hP, hN, h1, h2, hlt, hci, hc, h3', show t.cells.length * 112 ≤ 140737488355328 by omega, show t.cells.length ≤ 9223372036854775807 by omega]; (try refine ⟨by kernel_rfl, ?_⟩))
                | (with_reducible refine xC_intro (cl) ?_; simp -implicitDefEqProofs [hP, hN, h1, h2, hlt, hci, hc, h3', show t.cells.length * 112 ≤ 140737488355328 by omega, show t.cells.length ≤ 9223372036854775807 by omega])
                | (with_reducible refine yC_intro (cl) ?_; simp -implicitDefEqProofs [hP, hN, h1, h2, hlt, hci, hc, h3', show t.cells.length * 112 ≤ 140737488355328 by omega, show t.cells.length ≤ 9223372036854775807 by omega]; (try refine ⟨by kernel_rfl, ?_⟩))
                | (with_reducible refine xC_intro (cf) ?_; simp -implicitDefEqProofs [hP, hN, h1, h2, hlt, hci, hc, h3', show t.cells.length * 112 ≤ 140737488355328 by omega, show t.cells.length ≤ 9223372036854775807 by omega])
                | (with_reducible refine yC_intro (cf) ?_; simp -implicitDefEqProofs [hP, hN, h1, h2, hlt, hci, hc, h3', show t.cells.length * 112 ≤ 140737488355328 by omega, show t.cells.length ≤ 9223372036854775807 by omega]; (try refine ⟨by kernel_rfl, ?_⟩))
                | with_reducible refine xTwo_intro ?_ ?_
                | (with_reducible refine WP.cond' ?_; simp -implicitDefEqProofs [hP, hN, h1, h2, hlt, hci, hc, h3', show t.cells.length * 112 ≤ 140737488355328 by omega, show t.cells.length ≤ 9223372036854775807 by omega])
                | (with_reducible refine xCond_split (fun hcd => ?_) (fun hcd => ?_) <;> (try (exfalso; clear hP hN; simp_all; done)) <;> (try (exfalso; simp at *; omega)))
                | with_reducible refine WP.block ?_
                | (with_reducible refine WP.skip ?_; simp [h1, h2, hlt, hci, hc, h3', show t.cells.length * 112 ≤ 140737488355328 by omega, show t.cells.length ≤ 9223372036854775807 by omega])
                | (with_reducible refine WP.exit ?_; simp [h1, h2, hlt, hci, hc, h3', show t.cells.length * 112 ≤ 140737488355328 by omega, show t.cells.length ≤ 9223372036854775807 by omega])
                | (with_reducible refine WP.ret ?_; simp [h1, h2, hlt, hci, hc, h3', show t.cells.length * 112 ≤ 140737488355328 by omega, show t.cells.length ≤ 9223372036854775807 by omega]))
              all_goals simp [settleC, leafC, List.map_set, q1, q2, q3]
          · have h3' : (c.v.kind != 0) = true := by simp [h3]
            have hno : settleOk t k v = false := by simp [settleOk, vAt, hci, h3]
            rw [settleT_no hno, hno]
            refine detP_of Try.func90 rfl (by kernel_rfl) (by simp [Try.f90]) rfl ?_
            intro C hP hN
            simp only [Try.f90] at hN ⊢
            repeat' (first
              | with_reducible refine WP.seq ?_
              | (with_reducible refine WP.region (hn := []) ?_; simp -implicitDefEqProofs [hP, hN, h1, h2, hlt, hci, hc, h3'])
              | (with_reducible refine WP.draw (hn := []) (by rw [hP]; kernel_rfl) (by kernel_rfl) ?_; simp -implicitDefEqProofs [hP, hN, h1, h2, hlt, hci, hc, h3']; (try refine ⟨by kernel_rfl, ?_⟩))
              | (with_reducible refine xB_split (by simp [h1, h2, hlt, hci, hc, h3']) (fun hgd => ?_) (fun hgd => ?_) <;> first | (exfalso; simp at hgd; done) | (exfalso; simp at hgd; omega) | simp -implicitDefEqProofs [hP, hN, h1, h2, hlt, hci, hc, h3'])
              | (with_reducible refine yB_split (by simp [h1, h2, hlt, hci, hc, h3']) (fun hgd => ?_) (fun hgd => ?_) <;> first | (exfalso; simp at hgd; done) | (exfalso; simp at hgd; omega) | (simp -implicitDefEqProofs [hP, hN, h1, h2, hlt, hci, hc, h3'] <;> (try refine ⟨by kernel_rfl, ?_⟩)))
              | (with_reducible refine xC_intro (cb) ?_; simp -implicitDefEqProofs [hP, hN, h1, h2, hlt, hci, hc, h3'])
              | (with_reducible refine yC_intro (cb) ?_; simp -implicitDefEqProofs [hP, hN, h1, h2, hlt, hci, hc, h3']; (try refine ⟨by kernel_rfl, ?_⟩))
              | (with_reducible refine xC_intro (cl) ?_; simp -implicitDefEqProofs [hP, hN, h1, h2, hlt, hci, hc, h3'])
              | (with_reducible refine yC_intro (cl) ?_; simp -implicitDefEqProofs [hP, hN, h1, h2, hlt, hci, hc, h3']; (try refine ⟨by kernel_rfl, ?_⟩))
              | (with_reducible refine xC_intro (cf) ?_; simp -implicitDefEqProofs [hP, hN, h1, h2, hlt, hci, hc, h3'])
              | (with_reducible refine yC_intro (cf) ?_; simp -implicitDefEqProofs [hP, hN, h1, h2, hlt, hci, hc, h3']; (try refine ⟨by kernel_rfl, ?_⟩))
              | with_reducible refine xTwo_intro ?_ ?_
              | (with_reducible refine WP.cond' ?_; simp -implicitDefEqProofs [hP, hN, h1, h2, hlt, hci, hc, h3'])
              | (with_reducible refine xCond_split (fun hcd => ?_) (fun hcd => ?_) <;> (try (exfalso; clear hP hN; simp_all; done)) <;> (try (exfalso; simp at *; omega)))
              | with_reducible refine WP.block ?_
              | (with_reducible refine WP.skip ?_; simp [h1, h2, hlt, hci, hc, h3'])
              | (with_reducible refine WP.exit ?_; simp [h1, h2, hlt, hci, hc, h3'])
              | (with_reducible refine WP.ret ?_; simp [h1, h2, hlt, hci, hc, h3']))
end Go.Ab
