/- Tr1, Tr2, TrP, TrM, TrQ, TrC, TrB, TrD: as one text. -/
import Derived.Test.YtagmnknighofeaaCfA
set_option linter.all false
/- Contracts: cells and verdicts. -/
namespace Go.Ab
open Go.Proofs
structure Verd where
  kind : Int
  nor : List (Int × Int × Int)
  pair : Int
  left : List Int
  right : List Int
structure Cel where
  joint : Int
  low : Int
  high : Int
  v : Verd
structure Tr where
  root : List (Int × Int)
  cells : List Cel
abbrev encVec (v : Int × Int × Int) : PV := .val (.agg #[.int .i64 v.1, .int .i64 v.2.1, .int .i64 v.2.2])
abbrev vecs (l : List (Int × Int × Int)) : PV := .sl (l.map encVec)
abbrev encW (p : Int) (l r : List Int) : PV := .agg [Z p, zs l, zs r]
abbrev encVd (v : Verd) : PV := .agg [Z v.kind, vecs v.nor, Z v.pair, zs v.left, zs v.right]
abbrev encC (c : Cel) : PV := .agg [Z c.joint, Z c.low, Z c.high, Z c.v.kind, vecs c.v.nor, Z c.v.pair, zs c.v.left, zs c.v.right]
abbrev encT (t : Tr) : PV := .agg [iv t.root, .sl (t.cells.map encC)]
def leafB (c : Cel) : Bool := c.joint == -1 && c.low == -1 && c.high == -1
def emptyW (p : Int) (l r : List Int) : Bool := p == 0 && (l.length : Int) == 0 && (r.length : Int) == 0
def inFormB (v : Verd) : Bool := if v.kind = 0 ∨ v.kind = 1 then emptyW v.pair v.left v.right else if v.kind = 2 then ((v.nor.length : Int) == 0) else false
def zeroB (v : Verd) : Bool := v.kind == 0 && ((v.nor.length : Int) == 0) && emptyW v.pair v.left v.right
theorem len_beq0 {α : Type} (l : List α) : ((l.length : Int) == 0) = decide (l.length = 0) := by
  by_cases h : l.length = 0
  · simp [h]
  · have : ((l.length : Int) == 0) = false := by simp; intro h'; exact h (by rw [h']; rfl)
    rw [this]; simp [h]
theorem d87 (c : Cel) : DetH Try.prog 87 [.pv (encC c)] [] [] (.pv (B (leafB c))) := by
  refine detP_of Try.func87 rfl (by kernel_rfl) (by simp [Try.f87]) rfl ?_
  intro C hP hN
  simp only [Try.f87] at hN ⊢
  repeat' (first
    | with_reducible refine WP.seq ?_
    | (with_reducible ((first | refine WP.region (hn := []) ?_ | refine WP.cond' ?_); simp -implicitDefEqProofs (maxSteps := 2000000) [hP, hN]))
    | (with_reducible ((first | refine WP.draw (hn := []) (by rw [hP]; kernel_rfl) (by kernel_rfl) ?_); simp -implicitDefEqProofs (maxSteps := 2000000) [hP, hN]; (try refine ⟨by kernel_rfl, ?_⟩)))
    | (with_reducible refine xB_split (by simp) (fun hgd => ?_) (fun hgd => ?_) <;> first | (exfalso; simp at hgd; done) | (exfalso; simp at hgd; omega) | simp -implicitDefEqProofs (maxSteps := 2000000) [hP, hN])
    | (with_reducible refine yB_split (by simp) (fun hgd => ?_) (fun hgd => ?_) <;> first | (exfalso; simp at hgd; done) | (exfalso; simp at hgd; omega) | (simp -implicitDefEqProofs (maxSteps := 2000000) [hP, hN] <;> (try refine ⟨by kernel_rfl, ?_⟩)))
    | with_reducible refine xTwo_intro ?_ ?_
    | (with_reducible refine xCond_split (fun hcd => ?_) (fun hcd => ?_) <;> (try (exfalso; clear hP hN; simp_all; done)) <;> (try (exfalso; simp at *; omega)))
    | with_reducible refine WP.block ?_
    | (with_reducible ((first | refine WP.skip ?_ | refine WP.exit ?_ | refine WP.ret ?_); simp)))
  all_goals (simp_all [leafB])
theorem d116 (c : Cel) : DetH Try.prog 116 [.pv (encC c)] [] [] (.pv (B (leafB c))) := by
  refine detP_of Try.func116 rfl (by kernel_rfl) (by simp [Try.f116]) rfl ?_
  intro C hP hN
  simp only [Try.f116] at hN ⊢
  repeat' (first
    | with_reducible refine WP.seq ?_
    | (with_reducible ((first | refine WP.region (hn := []) ?_ | refine WP.cond' ?_); simp -implicitDefEqProofs (maxSteps := 2000000) [hP, hN]))
    | (with_reducible ((first | refine WP.draw (hn := []) (by rw [hP]; kernel_rfl) (by kernel_rfl) ?_); simp -implicitDefEqProofs (maxSteps := 2000000) [hP, hN]; (try refine ⟨by kernel_rfl, ?_⟩)))
    | (with_reducible refine xB_split (by simp) (fun hgd => ?_) (fun hgd => ?_) <;> first | (exfalso; simp at hgd; done) | (exfalso; simp at hgd; omega) | simp -implicitDefEqProofs (maxSteps := 2000000) [hP, hN])
    | (with_reducible refine yB_split (by simp) (fun hgd => ?_) (fun hgd => ?_) <;> first | (exfalso; simp at hgd; done) | (exfalso; simp at hgd; omega) | (simp -implicitDefEqProofs (maxSteps := 2000000) [hP, hN] <;> (try refine ⟨by kernel_rfl, ?_⟩)))
    | with_reducible refine xTwo_intro ?_ ?_
    | (with_reducible refine xCond_split (fun hcd => ?_) (fun hcd => ?_) <;> (try (exfalso; clear hP hN; simp_all; done)) <;> (try (exfalso; simp at *; omega)))
    | with_reducible refine WP.block ?_
    | (with_reducible ((first | refine WP.skip ?_ | refine WP.exit ?_ | refine WP.ret ?_); simp)))
  all_goals (simp_all [leafB])
theorem d156 (p : Int) (l r : List Int) : DetH Try.prog 156 [.pv (encW p l r)] [] [] (.pv (B (emptyW p l r))) := by
  refine detP_of Try.func156 rfl (by kernel_rfl) (by simp [Try.f156]) rfl ?_
  intro C hP hN
  simp only [Try.f156] at hN ⊢
  repeat' (first
    | with_reducible refine WP.seq ?_
    | (with_reducible ((first | refine WP.region (hn := []) ?_ | refine WP.cond' ?_); simp -implicitDefEqProofs (maxSteps := 2000000) [hP, hN]))
    | (with_reducible ((first | refine WP.draw (hn := []) (by rw [hP]; kernel_rfl) (by kernel_rfl) ?_); simp -implicitDefEqProofs (maxSteps := 2000000) [hP, hN]; (try refine ⟨by kernel_rfl, ?_⟩)))
    | (with_reducible refine xB_split (by simp) (fun hgd => ?_) (fun hgd => ?_) <;> first | (exfalso; simp at hgd; done) | (exfalso; simp at hgd; omega) | simp -implicitDefEqProofs (maxSteps := 2000000) [hP, hN])
    | (with_reducible refine yB_split (by simp) (fun hgd => ?_) (fun hgd => ?_) <;> first | (exfalso; simp at hgd; done) | (exfalso; simp at hgd; omega) | (simp -implicitDefEqProofs (maxSteps := 2000000) [hP, hN] <;> (try refine ⟨by kernel_rfl, ?_⟩)))
    | with_reducible refine xTwo_intro ?_ ?_
    | (with_reducible refine xCond_split (fun hcd => ?_) (fun hcd => ?_) <;> (try (exfalso; clear hP hN; simp_all; done)) <;> (try (exfalso; simp at *; omega)))
    | with_reducible refine WP.block ?_
    | (with_reducible ((first | refine WP.skip ?_ | refine WP.exit ?_ | refine WP.ret ?_); simp)))
  all_goals (simp_all [emptyW])
theorem d165 (p : Int) (l r : List Int) : DetH Try.prog 165 [.pv (encW p l r)] [] [] (.pv (B (emptyW p l r))) := by
  refine detP_of Try.func165 rfl (by kernel_rfl) (by simp [Try.f165]) rfl ?_
  intro C hP hN
  simp only [Try.f165] at hN ⊢
  repeat' (first
    | with_reducible refine WP.seq ?_
    | (with_reducible ((first | refine WP.region (hn := []) ?_ | refine WP.cond' ?_); simp -implicitDefEqProofs (maxSteps := 2000000) [hP, hN]))
    | (with_reducible ((first | refine WP.draw (hn := []) (by rw [hP]; kernel_rfl) (by kernel_rfl) ?_); simp -implicitDefEqProofs (maxSteps := 2000000) [hP, hN]; (try refine ⟨by kernel_rfl, ?_⟩)))
    | (with_reducible refine xB_split (by simp) (fun hgd => ?_) (fun hgd => ?_) <;> first | (exfalso; simp at hgd; done) | (exfalso; simp at hgd; omega) | simp -implicitDefEqProofs (maxSteps := 2000000) [hP, hN])
    | (with_reducible refine yB_split (by simp) (fun hgd => ?_) (fun hgd => ?_) <;> first | (exfalso; simp at hgd; done) | (exfalso; simp at hgd; omega) | (simp -implicitDefEqProofs (maxSteps := 2000000) [hP, hN] <;> (try refine ⟨by kernel_rfl, ?_⟩)))
    | with_reducible refine xTwo_intro ?_ ?_
    | (with_reducible refine xCond_split (fun hcd => ?_) (fun hcd => ?_) <;> (try (exfalso; clear hP hN; simp_all; done)) <;> (try (exfalso; simp at *; omega)))
    | with_reducible refine WP.block ?_
    | (with_reducible ((first | refine WP.skip ?_ | refine WP.exit ?_ | refine WP.ret ?_); simp)))
  all_goals (simp_all [emptyW])
theorem d97 (v : Verd) : DetH Try.prog 97 [.pv (encVd v)] [] [] (.pv (B (inFormB v))) := by
  have ce := d156 v.pair v.left v.right
  have h0 := len_beq0 v.nor
  generalize hE : emptyW v.pair v.left v.right = E at ce
  refine detP_of Try.func97 rfl (by kernel_rfl) (by simp [Try.f97]) rfl ?_
  intro C hP hN
  simp only [Try.f97] at hN ⊢
  repeat' (first
    | with_reducible refine WP.seq ?_
    | (with_reducible ((first | refine WP.region (hn := []) ?_ | refine xC_intro (ce) ?_ | refine WP.cond' ?_); simp -implicitDefEqProofs (maxSteps := 2000000) [hP, hN]))
    | (with_reducible ((first | refine WP.draw (hn := []) (by rw [hP]; kernel_rfl) (by kernel_rfl) ?_ | refine yC_intro (ce) ?_); simp -implicitDefEqProofs (maxSteps := 2000000) [hP, hN]; (try refine ⟨by kernel_rfl, ?_⟩)))
    | (with_reducible refine xB_split (by simp) (fun hgd => ?_) (fun hgd => ?_) <;> first | (exfalso; simp at hgd; done) | (exfalso; simp at hgd; omega) | simp -implicitDefEqProofs (maxSteps := 2000000) [hP, hN])
    | (with_reducible refine yB_split (by simp) (fun hgd => ?_) (fun hgd => ?_) <;> first | (exfalso; simp at hgd; done) | (exfalso; simp at hgd; omega) | (simp -implicitDefEqProofs (maxSteps := 2000000) [hP, hN] <;> (try refine ⟨by kernel_rfl, ?_⟩)))
    | with_reducible refine xTwo_intro ?_ ?_
    | (with_reducible refine xCond_split (fun hcd => ?_) (fun hcd => ?_) <;> (try (exfalso; clear hP hN; simp_all; done)) <;> (try (exfalso; simp at *; omega)))
    | with_reducible refine WP.block ?_
    | (with_reducible ((first | refine WP.skip ?_ | refine WP.exit ?_ | refine WP.ret ?_); simp)))
  all_goals (simp_all [inFormB])
theorem d117 (v : Verd) : DetH Try.prog 117 [.pv (encVd v)] [] [] (.pv (B (inFormB v))) := by
  have ce := d165 v.pair v.left v.right
  have h0 := len_beq0 v.nor
  generalize hE : emptyW v.pair v.left v.right = E at ce
  refine detP_of Try.func117 rfl (by kernel_rfl) (by simp [Try.f117]) rfl ?_
  intro C hP hN
  simp only [Try.f117] at hN ⊢
  repeat' (first
    | with_reducible refine WP.seq ?_
    | (with_reducible ((first | refine WP.region (hn := []) ?_ | refine xC_intro (ce) ?_ | refine WP.cond' ?_); simp -implicitDefEqProofs (maxSteps := 2000000) [hP, hN]))
    | (with_reducible ((first | refine WP.draw (hn := []) (by rw [hP]; kernel_rfl) (by kernel_rfl) ?_ | refine yC_intro (ce) ?_); simp -implicitDefEqProofs (maxSteps := 2000000) [hP, hN]; (try refine ⟨by kernel_rfl, ?_⟩)))
    | (with_reducible refine xB_split (by simp) (fun hgd => ?_) (fun hgd => ?_) <;> first | (exfalso; simp at hgd; done) | (exfalso; simp at hgd; omega) | simp -implicitDefEqProofs (maxSteps := 2000000) [hP, hN])
    | (with_reducible refine yB_split (by simp) (fun hgd => ?_) (fun hgd => ?_) <;> first | (exfalso; simp at hgd; done) | (exfalso; simp at hgd; omega) | (simp -implicitDefEqProofs (maxSteps := 2000000) [hP, hN] <;> (try refine ⟨by kernel_rfl, ?_⟩)))
    | with_reducible refine xTwo_intro ?_ ?_
    | (with_reducible refine xCond_split (fun hcd => ?_) (fun hcd => ?_) <;> (try (exfalso; clear hP hN; simp_all; done)) <;> (try (exfalso; simp at *; omega)))
    | with_reducible refine WP.block ?_
    | (with_reducible ((first | refine WP.skip ?_ | refine WP.exit ?_ | refine WP.ret ?_); simp)))
  all_goals (simp_all [inFormB])
theorem d147 (v : Verd) : DetH Try.prog 147 [.pv (encVd v)] [] [] (.pv (B (zeroB v))) := by
  have ce := d156 v.pair v.left v.right
  generalize hE : emptyW v.pair v.left v.right = E at ce
  refine detP_of Try.func147 rfl (by kernel_rfl) (by simp [Try.f147]) rfl ?_
  intro C hP hN
  simp only [Try.f147] at hN ⊢
  repeat' (first
    | with_reducible refine WP.seq ?_
    | (with_reducible ((first | refine WP.region (hn := []) ?_ | refine xC_intro (ce) ?_ | refine WP.cond' ?_); simp -implicitDefEqProofs (maxSteps := 2000000) [hP, hN]))
    | (with_reducible ((first | refine WP.draw (hn := []) (by rw [hP]; kernel_rfl) (by kernel_rfl) ?_ | refine yC_intro (ce) ?_); simp -implicitDefEqProofs (maxSteps := 2000000) [hP, hN]; (try refine ⟨by kernel_rfl, ?_⟩)))
    | (with_reducible refine xB_split (by simp) (fun hgd => ?_) (fun hgd => ?_) <;> first | (exfalso; simp at hgd; done) | (exfalso; simp at hgd; omega) | simp -implicitDefEqProofs (maxSteps := 2000000) [hP, hN])
    | (with_reducible refine yB_split (by simp) (fun hgd => ?_) (fun hgd => ?_) <;> first | (exfalso; simp at hgd; done) | (exfalso; simp at hgd; omega) | (simp -implicitDefEqProofs (maxSteps := 2000000) [hP, hN] <;> (try refine ⟨by kernel_rfl, ?_⟩)))
    | with_reducible refine xTwo_intro ?_ ?_
    | (with_reducible refine xCond_split (fun hcd => ?_) (fun hcd => ?_) <;> (try (exfalso; clear hP hN; simp_all; done)) <;> (try (exfalso; simp at *; omega)))
    | with_reducible refine WP.block ?_
    | (with_reducible ((first | refine WP.skip ?_ | refine WP.exit ?_ | refine WP.ret ?_); simp)))
  all_goals (simp_all [zeroB])
theorem d118 (v : Verd) : DetH Try.prog 118 [.pv (encVd v)] [] [] (.pv (B (zeroB v))) := by
  have ce := d165 v.pair v.left v.right
  generalize hE : emptyW v.pair v.left v.right = E at ce
  refine detP_of Try.func118 rfl (by kernel_rfl) (by simp [Try.f118]) rfl ?_
  intro C hP hN
  simp only [Try.f118] at hN ⊢
  repeat' (first
    | with_reducible refine WP.seq ?_
    | (with_reducible ((first | refine WP.region (hn := []) ?_ | refine xC_intro (ce) ?_ | refine WP.cond' ?_); simp -implicitDefEqProofs (maxSteps := 2000000) [hP, hN]))
    | (with_reducible ((first | refine WP.draw (hn := []) (by rw [hP]; kernel_rfl) (by kernel_rfl) ?_ | refine yC_intro (ce) ?_); simp -implicitDefEqProofs (maxSteps := 2000000) [hP, hN]; (try refine ⟨by kernel_rfl, ?_⟩)))
    | (with_reducible refine xB_split (by simp) (fun hgd => ?_) (fun hgd => ?_) <;> first | (exfalso; simp at hgd; done) | (exfalso; simp at hgd; omega) | simp -implicitDefEqProofs (maxSteps := 2000000) [hP, hN])
    | (with_reducible refine yB_split (by simp) (fun hgd => ?_) (fun hgd => ?_) <;> first | (exfalso; simp at hgd; done) | (exfalso; simp at hgd; omega) | (simp -implicitDefEqProofs (maxSteps := 2000000) [hP, hN] <;> (try refine ⟨by kernel_rfl, ?_⟩)))
    | with_reducible refine xTwo_intro ?_ ?_
    | (with_reducible refine xCond_split (fun hcd => ?_) (fun hcd => ?_) <;> (try (exfalso; clear hP hN; simp_all; done)) <;> (try (exfalso; simp at *; omega)))
    | with_reducible refine WP.block ?_
    | (with_reducible ((first | refine WP.skip ?_ | refine WP.exit ?_ | refine WP.ret ?_); simp)))
  all_goals (simp_all [zeroB])
def rootOk (r : List (Int × Int)) : Bool := decide (1 ≤ r.length) && decide (r.length ≤ 10) && allB vI r
set_option maxHeartbeats 2000000 in
theorem d146 (r : List (Int × Int)) : DetH Try.prog 146 [.pv (iv r)] [] [] (.pv (B (rootOk r))) := by
  by_cases h1 : r.length < 1
  · have hr : rootOk r = false := by simp [rootOk]; omega
    have h1' : (r.length : Int) < 1 := by omega
    rw [hr]
    refine detP_of Try.func146 rfl (by kernel_rfl) (by simp [Try.f146]) rfl ?_
    intro C hP hN
    simp only [Try.f146] at hN ⊢
    repeat' (first
      | with_reducible refine WP.seq ?_
      | (with_reducible ((first | refine WP.region (hn := []) ?_ | refine WP.cond' ?_); simp -implicitDefEqProofs (maxSteps := 2000000) [hP, hN, h1', h1]))
      | (with_reducible ((first | refine WP.draw (hn := []) (by rw [hP]; kernel_rfl) (by kernel_rfl) ?_); simp -implicitDefEqProofs (maxSteps := 2000000) [hP, hN, h1', h1]; (try refine ⟨by kernel_rfl, ?_⟩)))
      | (with_reducible refine xB_split (by simp [h1', h1]) (fun hgd => ?_) (fun hgd => ?_) <;> first | (exfalso; simp at hgd; done) | (exfalso; simp at hgd; omega) | simp -implicitDefEqProofs (maxSteps := 2000000) [hP, hN, h1', h1])
      | (with_reducible refine yB_split (by simp [h1', h1]) (fun hgd => ?_) (fun hgd => ?_) <;> first | (exfalso; simp at hgd; done) | (exfalso; simp at hgd; omega) | (simp -implicitDefEqProofs (maxSteps := 2000000) [hP, hN, h1', h1] <;> (try refine ⟨by kernel_rfl, ?_⟩)))
      | with_reducible refine xTwo_intro ?_ ?_
      | (with_reducible refine xCond_split (fun hcd => ?_) (fun hcd => ?_) <;> (try (exfalso; clear hP hN; simp_all; done)) <;> (try (exfalso; simp at *; omega)))
      | with_reducible refine WP.block ?_
      | (with_reducible ((first | refine WP.skip ?_ | refine WP.exit ?_ | refine WP.ret ?_); simp [h1', h1])))
  have h1' : ¬ (r.length : Int) < 1 := by omega
  by_cases h2 : 10 < r.length
  · have hr : rootOk r = false := by simp [rootOk]; omega
    have h2' : (10 : Int) < r.length := by omega
    rw [hr]
    refine detP_of Try.func146 rfl (by kernel_rfl) (by simp [Try.f146]) rfl ?_
    intro C hP hN
    simp only [Try.f146] at hN ⊢
    repeat' (first
      | with_reducible refine WP.seq ?_
      | (with_reducible ((first | refine WP.region (hn := []) ?_ | refine WP.cond' ?_); simp -implicitDefEqProofs (maxSteps := 2000000) [hP, hN, h1', h1, h2, h2']))
      | (with_reducible ((first | refine WP.draw (hn := []) (by rw [hP]; kernel_rfl) (by kernel_rfl) ?_); simp -implicitDefEqProofs (maxSteps := 2000000) [hP, hN, h1', h1, h2, h2']; (try refine ⟨by kernel_rfl, ?_⟩)))
      | (with_reducible refine xB_split (by simp [h1', h1, h2, h2']) (fun hgd => ?_) (fun hgd => ?_) <;> first | (exfalso; simp at hgd; done) | (exfalso; simp at hgd; omega) | simp -implicitDefEqProofs (maxSteps := 2000000) [hP, hN, h1', h1, h2, h2'])
      | (with_reducible refine yB_split (by simp [h1', h1, h2, h2']) (fun hgd => ?_) (fun hgd => ?_) <;> first | (exfalso; simp at hgd; done) | (exfalso; simp at hgd; omega) | (simp -implicitDefEqProofs (maxSteps := 2000000) [hP, hN, h1', h1, h2, h2'] <;> (try refine ⟨by kernel_rfl, ?_⟩)))
      | with_reducible refine xTwo_intro ?_ ?_
      | (with_reducible refine xCond_split (fun hcd => ?_) (fun hcd => ?_) <;> (try (exfalso; clear hP hN; simp_all; done)) <;> (try (exfalso; simp at *; omega)))
      | with_reducible refine WP.block ?_
      | (with_reducible ((first | refine WP.skip ?_ | refine WP.exit ?_ | refine WP.ret ?_); simp [h1', h1, h2, h2'])))
  have h2' : ¬ (10 : Int) < r.length := by omega
  have hr : rootOk r = allB vI r := by
    unfold rootOk
    have a1 : decide (1 ≤ r.length) = true := by simp; omega
    have a2 : decide (r.length ≤ 10) = true := by simp; omega
    rw [a1, a2]; simp
  rw [hr]
  refine detP_of Try.func146 rfl (by kernel_rfl) (by simp [Try.f146]) rfl ?_
  intro C hP hN
  simp only [Try.f146] at hN ⊢
  repeat' (first
    | with_reducible refine WP.seq ?_
    | (with_reducible ((first | refine WP.region (hn := []) ?_ | refine WP.cond' ?_); simp -implicitDefEqProofs (maxSteps := 2000000) [hP, hN, h1', h1, h2, h2']))
    | (with_reducible ((first | refine WP.draw (hn := []) (by rw [hP]; kernel_rfl) (by kernel_rfl) ?_); simp -implicitDefEqProofs (maxSteps := 2000000) [hP, hN, h1', h1, h2, h2']; (try refine ⟨by kernel_rfl, ?_⟩)))
    | (with_reducible refine xB_split (by simp [h1', h1, h2, h2']) (fun hgd => ?_) (fun hgd => ?_) <;> first | (exfalso; simp at hgd; done) | (exfalso; simp at hgd; omega) | simp -implicitDefEqProofs (maxSteps := 2000000) [hP, hN, h1', h1, h2, h2'])
    | (with_reducible refine yB_split (by simp [h1', h1, h2, h2']) (fun hgd => ?_) (fun hgd => ?_) <;> first | (exfalso; simp at hgd; done) | (exfalso; simp at hgd; omega) | (simp -implicitDefEqProofs (maxSteps := 2000000) [hP, hN, h1', h1, h2, h2'] <;> (try refine ⟨by kernel_rfl, ?_⟩)))
    | with_reducible refine xTwo_intro ?_ ?_
    | (with_reducible refine xCond_split (fun hcd => ?_) (fun hcd => ?_) <;> (try (exfalso; clear hP hN; simp_all; done)) <;> (try (exfalso; simp at *; omega)))
    | with_reducible refine WP.block ?_
    | (with_reducible ((first | refine WP.skip ?_ | refine WP.exit ?_ | refine WP.ret ?_); simp [h1', h1, h2, h2'])))
  refine WP.loopN [4] r.length (fun i st => st.t 13 = .pv (iv r) ∧ st.t 14 = .pv (Z r.length) ∧ st.t 15 = .pv (Z i) ∧ st.h 4 = none ∧ allB vI (r.take i) = true) (by simp [allB]) ?_
  rintro i st hi ⟨g13, g14, g15, hb, hq⟩
  by_cases hlt : i < r.length
  · have hw := wr_succ hlt (by omega)
    have hF : vI r[i] = false → allB vI r = false := all_false hlt
    have hS : vI r[i] = true → allB vI (r.take (i + 1)) = true := all_step hlt hq
    repeat' (first
      | with_reducible refine WP.seq ?_
      | (with_reducible ((first | refine WP.region (hn := []) ?_ | refine xC_intro (d179 _ _) ?_ | refine WP.cond' ?_); simp -implicitDefEqProofs (maxSteps := 2000000) [hP, hN, g13, g14, g15, hb, hlt, hw]))
      | (with_reducible ((first | refine WP.draw (hn := []) (by rw [hP]; kernel_rfl) (by kernel_rfl) ?_ | refine yC_intro (d179 _ _) ?_); simp -implicitDefEqProofs (maxSteps := 2000000) [hP, hN, g13, g14, g15, hb, hlt, hw]; (try refine ⟨by kernel_rfl, ?_⟩)))
      | (with_reducible refine xB_split (by simp [g13, g14, g15, hb, hlt, hw]) (fun hgd => ?_) (fun hgd => ?_) <;> first | (exfalso; simp at hgd; done) | (exfalso; simp at hgd; omega) | simp -implicitDefEqProofs (maxSteps := 2000000) [hP, hN, g13, g14, g15, hb, hlt, hw])
      | (with_reducible refine yB_split (by simp [g13, g14, g15, hb, hlt, hw]) (fun hgd => ?_) (fun hgd => ?_) <;> first | (exfalso; simp at hgd; done) | (exfalso; simp at hgd; omega) | (simp -implicitDefEqProofs (maxSteps := 2000000) [hP, hN, g13, g14, g15, hb, hlt, hw] <;> (try refine ⟨by kernel_rfl, ?_⟩)))
      | with_reducible refine xTwo_intro ?_ ?_
      | (with_reducible refine xCond_split (fun hcd => ?_) (fun hcd => ?_) <;> (try (exfalso; clear hP hN; simp_all; done)) <;> (try (exfalso; simp at *; omega)))
      | with_reducible refine WP.block ?_
      | (with_reducible ((first | refine WP.skip ?_ | refine WP.exit ?_ | refine WP.ret ?_); simp [g13, g14, g15, hb, hlt, hw])))
    all_goals first | (rw [hF (by simpa using hcd)]; done) | (simp [hF (by simpa using hcd)]; done) | (simpa using hS (by simpa using hcd))
  · skip
    repeat' (first
      | with_reducible refine WP.seq ?_
      | (with_reducible ((first | refine WP.region (hn := []) ?_ | refine WP.cond' ?_); simp -implicitDefEqProofs (maxSteps := 2000000) [hP, hN, g13, g14, g15, hb, hlt]))
      | (with_reducible ((first | refine WP.draw (hn := []) (by rw [hP]; kernel_rfl) (by kernel_rfl) ?_); simp -implicitDefEqProofs (maxSteps := 2000000) [hP, hN, g13, g14, g15, hb, hlt]; (try refine ⟨by kernel_rfl, ?_⟩)))
      | (with_reducible refine xB_split (by simp [g13, g14, g15, hb, hlt]) (fun hgd => ?_) (fun hgd => ?_) <;> first | (exfalso; simp at hgd; done) | (exfalso; simp at hgd; omega) | simp -implicitDefEqProofs (maxSteps := 2000000) [hP, hN, g13, g14, g15, hb, hlt])
      | (with_reducible refine yB_split (by simp [g13, g14, g15, hb, hlt]) (fun hgd => ?_) (fun hgd => ?_) <;> first | (exfalso; simp at hgd; done) | (exfalso; simp at hgd; omega) | (simp -implicitDefEqProofs (maxSteps := 2000000) [hP, hN, g13, g14, g15, hb, hlt] <;> (try refine ⟨by kernel_rfl, ?_⟩)))
      | with_reducible refine xTwo_intro ?_ ?_
      | (with_reducible refine xCond_split (fun hcd => ?_) (fun hcd => ?_) <;> (try (exfalso; clear hP hN; simp_all; done)) <;> (try (exfalso; simp at *; omega)))
      | with_reducible refine WP.block ?_
      | (with_reducible ((first | refine WP.skip ?_ | refine WP.exit ?_ | refine WP.ret ?_); simp [g13, g14, g15, hb, hlt])))
    all_goals simp [all_done hlt hq]
/-! copies -/
end Go.Ab

/- Plain facts: the boxes of the cells of a tree. -/
namespace Go.Ab
open Go.Proofs
theorem allV_iff {α : Type} {p : α → Bool} {xs : List α} : allB p xs = true ↔ ∀ x ∈ xs, p x = true := List.all_eq_true
abbrev Bx := List (Int × Int)
abbrev OL := List (Option Bx)
def encO : Option Bx → PV
  | none => .val (.slice none 0 0)
  | some b => iv b
def innerB (n i : Nat) (c : Cel) : Bool := decide ((i : Int) < c.low) && decide (c.low < n) && decide ((i : Int) < c.high) && decide (c.high < n) && decide (c.low ≠ c.high) && zeroB c.v
def bStep (n i : Nat) (c : Cel) (L : OL) : Option OL :=
  match L[i]? with
  | some (some b) =>
    if leafB c then (if inFormB c.v then some L else none)
    else if innerB n i c then
      if halveOk b c.joint then
        match L[c.low.toNat]?, L[c.high.toNat]? with
        | some none, some none => some ((L.set c.low.toNat (some (halveA b c.joint))).set c.high.toNat (some (halveZ b c.joint)))
        | _, _ => none
      else none
    else none
  | _ => none
def bRun (n : Nat) : List Cel → Nat → OL → Option OL
  | [], _, L => some L
  | c :: cs, i, L => match bStep n i c L with
    | some L' => bRun n cs (i + 1) L'
    | none => none
def bInit (t : Tr) : OL := some t.root :: List.replicate (t.cells.length - 1) none
def sizeOk (t : Tr) : Bool := decide (1 ≤ t.cells.length) && decide (t.cells.length ≤ 2048) && rootOk t.root
def boxesO (t : Tr) : Option OL := if sizeOk t then bRun t.cells.length t.cells 0 (bInit t) else none
def validT (t : Tr) : Bool := (boxesO t).isSome
def boxesL (t : Tr) : List Bx := match boxesO t with
  | some L => L.map fun x => x.getD []
  | none => []
theorem bStep_some {n i : Nat} {c : Cel} {L L' : OL} (h : bStep n i c L = some L') : ∃ b, L[i]? = some (some b) ∧
    ((leafB c = true ∧ inFormB c.v = true ∧ L' = L) ∨
     (leafB c = false ∧ innerB n i c = true ∧ halveOk b c.joint = true ∧ L[c.low.toNat]? = some none ∧ L[c.high.toNat]? = some none ∧
       L' = (L.set c.low.toNat (some (halveA b c.joint))).set c.high.toNat (some (halveZ b c.joint)))) := by
  unfold bStep at h
  split at h
  · rename_i b hb
    refine ⟨b, hb, ?_⟩
    split at h
    · rename_i hl
      split at h
      · rename_i hf
        injection h with h
        exact .inl ⟨hl, hf, h.symm⟩
      · cases h
    · rename_i hl
      split at h
      · rename_i hi
        split at h
        · rename_i hh
          split at h
          · rename_i h1 h2
            injection h with h
            exact .inr ⟨by simpa using hl, hi, hh, h1, h2, h.symm⟩
          · cases h
        · cases h
      · cases h
  · cases h
theorem innerB_iff {n i : Nat} {c : Cel} : innerB n i c = true ↔ (i : Int) < c.low ∧ c.low < n ∧ (i : Int) < c.high ∧ c.high < n ∧ c.low ≠ c.high ∧ zeroB c.v = true := by
  simp [innerB, and_assoc]
theorem bRun_ind {n : Nat} {P : Nat → OL → Prop} : ∀ (cs : List Cel) (i : Nat) (L L' : OL), bRun n cs i L = some L' → P i L →
    (∀ k c L L', cs[k]? = some c → P (i + k) L → bStep n (i + k) c L = some L' → P (i + k + 1) L') → P (i + cs.length) L'
  | [], i, L, L', h, h0, _ => by simp [bRun] at h; subst h; exact h0
  | c :: cs, i, L, L', h, h0, hs => by
    simp only [bRun] at h
    split at h
    · rename_i L1 h1
      have h2 := hs 0 c L L1 rfl h0 h1
      have := bRun_ind cs (i + 1) L1 L' h h2 (fun k d M M' hk hp hm => by
        have e : i + 1 + k = i + (k + 1) := by omega
        rw [e] at hp hm ⊢
        exact hs (k + 1) d M M' (by simpa using hk) hp hm)
      have e : i + (c :: cs).length = i + 1 + cs.length := by simp; omega
      rw [e]; exact this
    · cases h
theorem boxes_ind {t : Tr} {L : OL} {P : Nat → OL → Prop} (h : boxesO t = some L) (h0 : P 0 (bInit t))
    (hs : ∀ i c L L', t.cells[i]? = some c → P i L → bStep t.cells.length i c L = some L' → P (i + 1) L') : P t.cells.length L := by
  unfold boxesO at h
  split at h
  · have := bRun_ind t.cells 0 _ _ h h0 (fun k c M M' hk hp hm => by
      rw [Nat.zero_add] at hp hm ⊢; exact hs k c M M' hk hp hm)
    simpa using this
  · cases h
theorem boxesO_size {t : Tr} {L : OL} (h : boxesO t = some L) : sizeOk t = true := by
  unfold boxesO at h
  split at h
  · assumption
  · cases h
theorem sizeOk_iff {t : Tr} : sizeOk t = true ↔ 1 ≤ t.cells.length ∧ t.cells.length ≤ 2048 ∧ 1 ≤ t.root.length ∧ t.root.length ≤ 10 ∧ allB vI t.root = true := by
  simp [sizeOk, rootOk, and_assoc]
/-- What holds of the list of boxes while it is filled. -/
structure BOk (t : Tr) (i : Nat) (L : OL) : Prop where
  len : L.length = t.cells.length
  pre : ∀ j, j < i → ∃ b, L[j]? = some (some b)
  ok : ∀ (j : Nat) b, L[j]? = some (some b) → b.length = t.root.length ∧ allB vI b = true
theorem halve_len {b : Bx} {j : Int} (h : halveOk b j = true) : (halveA b j).length = b.length ∧ (halveZ b j).length = b.length := by
  unfold halveA halveZ
  rw [h]
  simp only [if_true]
  unfold halveOk at h
  split <;> simp_all
theorem validB_iff {lo hi : Int} : validB lo hi = true ↔ -2147483648 ≤ lo ∧ lo ≤ hi ∧ hi ≤ 2147483648 := by
  simp [validB, and_assoc]
theorem mid_rng {x : Int × Int} (h : validB x.1 x.2 = true) : midI x = (x.1 + x.2) / 2 := by
  unfold midI
  have h' := validB_iff.1 h
  rw [h, if_pos rfl, show wr (x.1 + x.2) = x.1 + x.2 from wr_id (by omega) (by omega), Int.fdiv_eq_ediv]
  simp
theorem hvOk_iff {b : Bx} {j : Int} : halveOk b j = true ↔ 0 ≤ j ∧ allB vI b = true ∧ ∃ x, b[j.toNat]? = some x ∧ 2 ≤ x.2 - x.1 := by
  unfold halveOk
  constructor
  · intro h
    simp only [Bool.and_eq_true, decide_eq_true_eq] at h
    obtain ⟨⟨h1, h2⟩, h3⟩ := h
    refine ⟨h1, h2, ?_⟩
    split at h3
    · rename_i x hx
      refine ⟨x, hx, ?_⟩
      have hv := validB_iff.1 (allV_iff.1 h2 _ (List.mem_of_getElem? hx))
      rw [decide_eq_true_eq, widthI, if_pos (allV_iff.1 h2 _ (List.mem_of_getElem? hx)), show wr (x.2 - x.1) = x.2 - x.1 from wr_id (by omega) (by omega)] at h3
      exact h3
    · cases h3
  · rintro ⟨h1, h2, x, hx, h3⟩
    have hv := validB_iff.1 (allV_iff.1 h2 _ (List.mem_of_getElem? hx))
    have hw : widthI x = x.2 - x.1 := by
      rw [widthI, if_pos (allV_iff.1 h2 _ (List.mem_of_getElem? hx))]
      exact wr_id (by omega) (by omega)
    simp [h1, h2, hx, hw, h3]
/-- The two halves. -/
theorem halve_eq {b : Bx} {j : Int} (h : halveOk b j = true) : ∃ x, b[j.toNat]? = some x ∧ validB x.1 x.2 = true ∧ 2 ≤ x.2 - x.1 ∧ halveA b j = b.set j.toNat (x.1, (x.1 + x.2) / 2) ∧ halveZ b j = b.set j.toNat ((x.1 + x.2) / 2, x.2) := by
  obtain ⟨_, h2, x, hx, h3⟩ := hvOk_iff.1 h
  have hv : validB x.1 x.2 = true := allV_iff.1 h2 _ (List.mem_of_getElem? hx)
  refine ⟨x, hx, hv, h3, ?_, ?_⟩
  · simp [halveA, h, hx, mid_rng hv]
  · simp [halveZ, h, hx, mid_rng hv]
theorem halve_valid {b : Bx} {j : Int} (h : halveOk b j = true) : allB vI (halveA b j) = true ∧ allB vI (halveZ b j) = true := by
  obtain ⟨x, hx, hv, h3, ea, ez⟩ := halve_eq h
  have h2 := (hvOk_iff.1 h).2.1
  have hv' := validB_iff.1 hv
  rw [ea, ez]
  constructor <;> refine allV_iff.2 fun y hy => ?_
  · rcases List.mem_or_eq_of_mem_set hy with h | rfl
    · exact allV_iff.1 h2 _ h
    · exact validB_iff.2 ⟨by omega, by simp only; omega, by simp only; omega⟩
  · rcases List.mem_or_eq_of_mem_set hy with h | rfl
    · exact allV_iff.1 h2 _ h
    · exact validB_iff.2 ⟨by simp only; omega, by simp only; omega, by omega⟩
theorem bok_init {t : Tr} (h : sizeOk t = true) : BOk t 0 (bInit t) := by
  obtain ⟨h1, h2, h3, h4, h5⟩ := sizeOk_iff.1 h
  refine ⟨by simp [bInit]; omega, fun j hj => by omega, fun j b hb => ?_⟩
  cases j with
  | zero => simp [bInit] at hb; subst hb; exact ⟨rfl, h5⟩
  | succ j => simp [bInit, List.getElem?_replicate] at hb
theorem set2_get {L : OL} {a z : Nat} {x y : Option Bx} {j : Nat} (hne : a ≠ z) (ha : a < L.length) (hz : z < L.length) : ((L.set a x).set z y)[j]? = if j = z then some y else if j = a then some x else L[j]? := by
  rw [List.getElem?_set]
  by_cases h1 : z = j
  · subst h1; simp [hz]
  · rw [if_neg h1, if_neg (fun h => h1 h.symm), List.getElem?_set]
    by_cases h2 : a = j
    · subst h2; simp [ha]
    · rw [if_neg h2, if_neg (fun h => h2 h.symm)]
theorem step_get {t : Tr} {i : Nat} {c : Cel} {L : OL} {x y : Option Bx} {j : Nat} (hl : L.length = t.cells.length) (hi : innerB t.cells.length i c = true) : ((L.set c.low.toNat x).set c.high.toNat y)[j]? = if j = c.high.toNat then some y else if j = c.low.toNat then some x else L[j]? := by
  obtain ⟨h1, h2, h3, h4, h5, _⟩ := innerB_iff.1 hi
  exact set2_get (by omega) (by omega) (by omega)
theorem bok_step {t : Tr} {i : Nat} {c : Cel} {L L' : OL} (h : BOk t i L) (hs : bStep t.cells.length i c L = some L') : BOk t (i + 1) L' := by
  obtain ⟨b, hb, ⟨_, _, rfl⟩ | ⟨_, hi, hh, hlo, hhi, rfl⟩⟩ := bStep_some hs
  · refine ⟨h.len, fun j hj => ?_, h.ok⟩
    by_cases e : j = i
    · subst e; exact ⟨b, hb⟩
    · exact h.pre j (by omega)
  · have hbo := h.ok i b hb
    refine ⟨by simpa using h.len, fun j hj => ?_, fun j d hd => ?_⟩
    · rw [step_get h.len hi]
      split
      · exact ⟨_, rfl⟩
      · split
        · exact ⟨_, rfl⟩
        · by_cases e : j = i
          · subst e; exact ⟨b, hb⟩
          · exact h.pre j (by omega)
    · rw [step_get h.len hi] at hd
      split at hd
      · injection hd with hd; injection hd with hd; subst hd
        exact ⟨by rw [(halve_len hh).2]; exact hbo.1, (halve_valid hh).2⟩
      · split at hd
        · injection hd with hd; injection hd with hd; subst hd
          exact ⟨by rw [(halve_len hh).1]; exact hbo.1, (halve_valid hh).1⟩
        · exact h.ok j d hd
/-- The loop's invariant. -/
structure BInv (t : Tr) (i : Nat) (L : OL) : Prop where
  bok : BOk t i L
  run : bRun t.cells.length (t.cells.drop i) i L = boxesO t
theorem binv_init {t : Tr} (h : sizeOk t = true) : BInv t 0 (bInit t) := ⟨bok_init h, by simp [boxesO, h]⟩
theorem binv_step {t : Tr} {i : Nat} {L L' : OL} (h : BInv t i L) (hlt : i < t.cells.length) (hs : bStep t.cells.length i t.cells[i] L = some L') : BInv t (i + 1) L' := by
  refine ⟨bok_step h.bok hs, ?_⟩
  rw [← h.run, List.drop_eq_getElem_cons hlt]
  simp only [bRun, hs]
theorem binv_none {t : Tr} {i : Nat} {L : OL} (h : BInv t i L) (hlt : i < t.cells.length) (hs : bStep t.cells.length i t.cells[i] L = none) : boxesO t = none := by
  rw [← h.run, List.drop_eq_getElem_cons hlt]
  simp only [bRun, hs]
theorem binv_done {t : Tr} {i : Nat} {L : OL} (h : BInv t i L) (hlt : ¬ i < t.cells.length) : boxesO t = some L := by
  rw [← h.run, List.drop_eq_nil_of_le (by omega)]
  rfl
theorem boxesO_ok {t : Tr} {L : OL} (h : boxesO t = some L) : BOk t t.cells.length L :=
  boxes_ind h (bok_init (boxesO_size h)) (fun _ _ _ _ _ hp hm => bok_step hp hm)
theorem boxesO_map {t : Tr} {L : OL} (h : boxesO t = some L) : L = (boxesL t).map some := by
  have ok := boxesO_ok h
  rw [boxesL, h]
  simp only [List.map_map]
  apply List.ext_getElem? ; intro j
  by_cases hj : j < L.length
  · obtain ⟨b, hb⟩ := ok.pre j (by rw [← ok.len]; exact hj)
    simp [hb]
  · simp [List.getElem?_eq_none (by omega : L.length ≤ j)]
theorem encO_map {t : Tr} {L : OL} (h : boxesO t = some L) : L.map encO = (boxesL t).map iv := by
  rw [boxesO_map h]
  simp [encO, Function.comp_def]
theorem boxesL_len {t : Tr} (h : validT t = true) : (boxesL t).length = t.cells.length := by
  obtain ⟨L, hL⟩ := Option.isSome_iff_exists.1 h
  have := (boxesO_ok hL).len
  rw [boxesO_map hL] at this
  simpa using this
theorem boxesL_ok {t : Tr} {j : Nat} {b : Bx} (hb : (boxesL t)[j]? = some b) : b.length = t.root.length ∧ allB vI b = true := by
  cases hL : boxesO t with
  | none => simp [boxesL, hL] at hb
  | some L =>
    have := (boxesO_ok hL).ok j b
    rw [boxesO_map hL] at this
    exact this (by simp [hb])
theorem valid_size {t : Tr} (h : validT t = true) : sizeOk t = true := by
  obtain ⟨L, hL⟩ := Option.isSome_iff_exists.1 h
  exact boxesO_size hL
theorem not_valid {t : Tr} (h : boxesO t = none) : validT t = false ∧ boxesL t = [] := by simp [validT, boxesL, h]
theorem step_leaf {t : Tr} {i : Nat} {L : OL} {b : Bx} {c : Cel} {n : Nat} (hb : L[i]? = some (some b)) (hl : leafB c = true) : bStep n i c L = if inFormB c.v then some L else none := by
  simp [bStep, hb, hl]
theorem step_inner {i : Nat} {L : OL} {b : Bx} {c : Cel} {n : Nat} (hb : L[i]? = some (some b)) (hl : leafB c = false) (hi : innerB n i c = true) (hh : halveOk b c.joint = true) (h1 : L[c.low.toNat]? = some none) (h2 : L[c.high.toNat]? = some none) : bStep n i c L = some ((L.set c.low.toNat (some (halveA b c.joint))).set c.high.toNat (some (halveZ b c.joint))) := by
  simp [bStep, hb, hl, hi, hh, h1, h2]
theorem step_bad {i : Nat} {L : OL} {b : Bx} {c : Cel} {n : Nat} (hb : L[i]? = some (some b)) (hl : leafB c = false) (h : innerB n i c = false ∨ halveOk b c.joint = false ∨ (∃ d, L[c.low.toNat]? = some (some d)) ∨ (∃ d, L[c.high.toNat]? = some (some d))) : bStep n i c L = none := by
  unfold bStep
  rw [hb]
  simp only [hl, Bool.false_eq_true, if_false]
  split
  · rename_i hi
    split
    · rename_i hh
      rcases h with h | h | ⟨d, h⟩ | ⟨d, h⟩
      · rw [hi] at h; cases h
      · rw [hh] at h; cases h
      · rw [h]
      · rw [h]; split
        · rename_i e1 e2; cases e2
        · rfl
    · rfl
  · rfl
end Go.Ab

/- Plain facts: splitting and settling keep a tree valid. -/
namespace Go.Ab
open Go.Proofs
def zeroV : Verd := ⟨0, [], 0, [], []⟩
def leafC (v : Verd) : Cel := ⟨-1, -1, -1, v⟩
theorem leafB_eq {c : Cel} (h : leafB c = true) : c = leafC c.v := by
  cases c; simp [leafB] at h; simp [leafC, h]
theorem leafC_leaf (v : Verd) : leafB (leafC v) = true := by simp [leafB, leafC]
theorem zeroV_zero : zeroB zeroV = true := by simp [zeroB, zeroV, emptyW]
theorem zeroV_form : inFormB zeroV = true := by simp [inFormB, zeroV, emptyW]
theorem bStep_mono {n i : Nat} {c : Cel} {L L' : OL} (h : bStep n i c L = some L') {j : Nat} {b : Bx} (hb : L[j]? = some (some b)) : L'[j]? = some (some b) := by
  obtain ⟨d, hd, ⟨_, _, rfl⟩ | ⟨_, hi, hh, hlo, hhi, rfl⟩⟩ := bStep_some h
  · exact hb
  · have h1 : c.low.toNat ≠ j := by intro e; rw [e, hb] at hlo; cases hlo
    have h2 : c.high.toNat ≠ j := by intro e; rw [e, hb] at hhi; cases hhi
    rw [List.getElem?_set, if_neg h2, List.getElem?_set, if_neg h1]; exact hb
theorem bStep_app {n i k : Nat} {c : Cel} {L L' S : OL} (hl : L.length = n) (hk : S.length = k) (h : bStep n i c L = some L') : bStep (n + k) i c (L ++ S) = some (L' ++ S) := by
  obtain ⟨d, hd, ⟨h1, h2, rfl⟩ | ⟨h1, hi, hh, hlo, hhi, rfl⟩⟩ := bStep_some h
  · have hlt : i < L'.length := (List.getElem?_eq_some_iff.1 hd).1
    have : (L' ++ S)[i]? = some (some d) := by rw [List.getElem?_append_left hlt]; exact hd
    simp [bStep, this, h1, h2]
  · have hlt : i < L.length := (List.getElem?_eq_some_iff.1 hd).1
    have l1 : c.low.toNat < L.length := (List.getElem?_eq_some_iff.1 hlo).1
    have l2 : c.high.toNat < L.length := (List.getElem?_eq_some_iff.1 hhi).1
    have e1 : (L ++ S)[i]? = some (some d) := by rw [List.getElem?_append_left hlt]; exact hd
    have e2 : (L ++ S)[c.low.toNat]? = some none := by rw [List.getElem?_append_left l1]; exact hlo
    have e3 : (L ++ S)[c.high.toNat]? = some none := by rw [List.getElem?_append_left l2]; exact hhi
    have hi' : innerB (n + k) i c = true := by
      obtain ⟨a1, a2, a3, a4, a5, a6⟩ := innerB_iff.1 hi
      exact innerB_iff.2 ⟨a1, by omega, a3, by omega, a5, a6⟩
    rw [step_inner e1 h1 hi' hh e2 e3, List.set_append_left _ _ l1, List.set_append_left _ _ (by simpa using l2)]
def splitC (t : Tr) (i : Nat) (j : Int) (v : Verd) : Tr := ⟨t.root, t.cells.set i ⟨j, t.cells.length, t.cells.length + 1, zeroV⟩ ++ [leafC v, leafC v]⟩
theorem splitC_len (t : Tr) (i : Nat) (j : Int) (v : Verd) : (splitC t i j v).cells.length = t.cells.length + 2 := by simp [splitC]
theorem bRun_cons {n i : Nat} {cs : List Cel} {c : Cel} {L L' : OL} (hc : cs[i]? = some c) (h : bStep n i c L = some L') : bRun n (cs.drop i) i L = bRun n (cs.drop (i + 1)) (i + 1) L' := by
  obtain ⟨hlt, hc⟩ := List.getElem?_eq_some_iff.1 hc
  rw [List.drop_eq_getElem_cons hlt, hc]
  simp only [bRun, h]
theorem leaf_form {t : Tr} {L : OL} (h : boxesO t = some L) {i : Nat} {c : Cel} (hc : t.cells[i]? = some c) (hl : leafB c = true) : inFormB c.v = true := by
  have hp := boxes_ind (P := fun k _ => i < k → inFormB c.v = true) h (by intro h; omega) (fun k d M M' hk hp hm hi => by
    by_cases e : k = i
    · subst e
      rw [hc] at hk; injection hk with hk; subst hk
      obtain ⟨b, hb, ⟨_, h2, _⟩ | ⟨h1, _⟩⟩ := bStep_some hm
      · exact h2
      · rw [hl] at h1; cases h1
    · exact hp (by omega))
  exact hp (List.getElem?_eq_some_iff.1 hc).1
theorem split_boxes {t : Tr} {L : OL} (h : boxesO t = some L) {i : Nat} {j : Int} {c : Cel} {b : Bx} (hc : t.cells[i]? = some c) (hl : leafB c = true) (hn : t.cells.length + 2 ≤ 2048) (hb : L[i]? = some (some b)) (hh : halveOk b j = true) :
    boxesO (splitC t i j c.v) = some (L ++ [some (halveA b j), some (halveZ b j)]) := by
  have hsz := boxesO_size h
  obtain ⟨z1, z2, z3, z4, z5⟩ := sizeOk_iff.1 hsz
  have hilt : i < t.cells.length := (List.getElem?_eq_some_iff.1 hc).1
  have hlen := splitC_len t i j c.v
  have hf := leaf_form h hc hl
  generalize hT : splitC t i j c.v = T at *
  have hTr : T.root = t.root := by rw [← hT]; rfl
  have hTc : ∀ k, k ≠ i → k < t.cells.length → T.cells[k]? = t.cells[k]? := by
    intro k hk hlt
    rw [← hT]; simp only [splitC]
    rw [List.getElem?_append_left (by simpa using hlt), List.getElem?_set, if_neg (fun e => hk e.symm)]
  have hTi : T.cells[i]? = some ⟨j, t.cells.length, t.cells.length + 1, zeroV⟩ := by
    rw [← hT]; simp only [splitC]
    rw [List.getElem?_append_left (by simpa using hilt), List.getElem?_set, if_pos rfl, if_pos hilt]
  have hTs : sizeOk T = true := sizeOk_iff.2 ⟨by omega, by omega, by rw [hTr]; omega, by rw [hTr]; omega, by rw [hTr]; exact z5⟩
  have hP := boxes_ind (P := fun k M => BOk t k M ∧ if k ≤ i then bRun (t.cells.length + 2) (T.cells.drop k) k (M ++ [none, none]) = boxesO T
      else ∃ d, M[i]? = some (some d) ∧ (halveOk d j = true → bRun (t.cells.length + 2) (T.cells.drop k) k (M ++ [some (halveA d j), some (halveZ d j)]) = boxesO T)) h (by
    refine ⟨bok_init hsz, ?_⟩
    simp only [Nat.zero_le, if_true]
    rw [boxesO, if_pos hTs, hlen, List.drop_zero]
    congr 1
    simp only [bInit, hTr, hlen, List.cons_append]
    rw [show t.cells.length + 2 - 1 = (t.cells.length - 1) + 2 by omega, ← List.replicate_append_replicate]; rfl) (by
    intro k e M M' hk hp hm
    obtain ⟨hbo, hp⟩ := hp
    refine ⟨bok_step hbo hm, ?_⟩
    have hklt : k < t.cells.length := (List.getElem?_eq_some_iff.1 hk).1
    rcases Nat.lt_trichotomy k i with hki | hki | hki
    · rw [if_pos (by omega)] at hp ⊢
      rw [← hp]
      exact (bRun_cons (by rw [hTc k (by omega) hklt]; exact hk) (bStep_app (k := 2) (S := [none, none]) hbo.len rfl hm)).symm
    · subst hki
      rw [hc] at hk; injection hk with hk; subst hk
      rw [if_pos (Nat.le_refl _)] at hp
      rw [if_neg (by omega)]
      obtain ⟨d, hd, ⟨_, _, rfl⟩ | ⟨h1, _⟩⟩ := bStep_some hm
      · refine ⟨d, hd, fun hok => ?_⟩
        rw [← hp]
        refine (bRun_cons hTi ?_).symm
        have e1 : (M' ++ [none, none])[k]? = some (some d) := by rw [List.getElem?_append_left (by rw [hbo.len]; exact hilt)]; exact hd
        have hi' : innerB (t.cells.length + 2) k ⟨j, t.cells.length, t.cells.length + 1, zeroV⟩ = true := innerB_iff.2 ⟨by simp only; omega, by simp only; omega, by simp only; omega, by simp only; omega, by simp only; omega, zeroV_zero⟩
        have t1 : ((t.cells.length : Int)).toNat = M'.length := by rw [hbo.len]; omega
        have t2 : ((t.cells.length : Int) + 1).toNat = M'.length + 1 := by rw [hbo.len]; omega
        rw [step_inner e1 (by simp [leafB]) hi' hok (by simp only; rw [t1]; simp) (by simp only; rw [t2]; simp)]
        simp only [t1, t2]
        congr 1
        rw [List.set_append_right _ _ (by omega), List.set_append_right _ _ (by omega)]
        simp
      · rw [hl] at h1; cases h1
    · rw [if_neg (by omega)] at hp ⊢
      obtain ⟨d, hd, hp⟩ := hp
      refine ⟨d, bStep_mono hm hd, fun hok => ?_⟩
      rw [← hp hok]
      exact (bRun_cons (by rw [hTc k (by omega) hklt]; exact hk) (bStep_app (k := 2) (S := [some (halveA d j), some (halveZ d j)]) hbo.len rfl hm)).symm)
  obtain ⟨hbo, hP⟩ := hP
  rw [if_neg (by omega)] at hP
  obtain ⟨d, hd, hP⟩ := hP
  rw [hb] at hd; injection hd with hd; injection hd with hd; subst hd
  rw [← hP hh]
  have hdrop : T.cells.drop t.cells.length = [leafC c.v, leafC c.v] := by
    rw [← hT]; simp only [splitC]
    rw [List.drop_append_of_le_length (by simp), List.drop_eq_nil_of_le (by simp)]; rfl
  rw [hdrop]
  have e1 : (L ++ [some (halveA b j), some (halveZ b j)])[t.cells.length]? = some (some (halveA b j)) := by rw [← hbo.len]; simp
  have e2 : (L ++ [some (halveA b j), some (halveZ b j)])[t.cells.length + 1]? = some (some (halveZ b j)) := by rw [← hbo.len]; simp
  simp only [bRun]
  rw [step_leaf (t := t) e1 (leafC_leaf _), if_pos (show inFormB (leafC c.v).v = true from hf)]
  simp only
  rw [step_leaf (t := t) e2 (leafC_leaf _), if_pos (show inFormB (leafC c.v).v = true from hf)]
def settleC (t : Tr) (i : Nat) (v : Verd) : Tr := ⟨t.root, t.cells.set i (leafC v)⟩
theorem settle_boxes {t : Tr} {L : OL} (h : boxesO t = some L) {i : Nat} {c : Cel} {v : Verd} (hc : t.cells[i]? = some c) (hl : leafB c = true) (hf : inFormB v = true) : boxesO (settleC t i v) = some L := by
  have hsz := boxesO_size h
  have hilt : i < t.cells.length := (List.getElem?_eq_some_iff.1 hc).1
  have hlen : (settleC t i v).cells.length = t.cells.length := by simp [settleC]
  generalize hT : settleC t i v = T at *
  have hTr : T.root = t.root := by rw [← hT]; rfl
  have hTs : sizeOk T = true := by
    obtain ⟨z1, z2, z3, z4, z5⟩ := sizeOk_iff.1 hsz
    exact sizeOk_iff.2 ⟨by omega, by omega, by rw [hTr]; omega, by rw [hTr]; omega, by rw [hTr]; exact z5⟩
  have hP := boxes_ind (P := fun k M => bRun t.cells.length (T.cells.drop k) k M = boxesO T) h (by
    rw [boxesO, if_pos hTs, hlen, List.drop_zero]
    congr 1
    simp only [bInit, hTr, hlen]) (by
    intro k e M M' hk hp hm
    rw [← hp]
    by_cases hki : k = i
    · subst hki
      rw [hc] at hk; injection hk with hk; subst hk
      obtain ⟨d, hd, ⟨_, _, rfl⟩ | ⟨h1, _⟩⟩ := bStep_some hm
      · refine (bRun_cons (c := leafC v) (by rw [← hT]; simp [settleC, hilt]) ?_).symm
        rw [step_leaf (t := t) hd (leafC_leaf _), if_pos (show inFormB (leafC v).v = true from hf)]
      · rw [hl] at h1; cases h1
    · refine (bRun_cons ?_ hm).symm
      rw [← hT]; simp only [settleC]
      rw [List.getElem?_set, if_neg (fun e => hki e.symm)]; exact hk)
  rw [← hP, List.drop_eq_nil_of_le (by omega)]
  rfl
/-- The last cell is a leaf. -/
theorem last_leaf {t : Tr} {L : OL} (h : boxesO t = some L) : ∃ c, t.cells[t.cells.length - 1]? = some c ∧ leafB c = true := by
  obtain ⟨z1, z2, z3, z4, z5⟩ := sizeOk_iff.1 (boxesO_size h)
  have hlt : t.cells.length - 1 < t.cells.length := by omega
  refine ⟨t.cells[t.cells.length - 1], List.getElem?_eq_getElem hlt, ?_⟩
  have hp := boxes_ind (P := fun k _ => k = t.cells.length → leafB t.cells[t.cells.length - 1] = true) h (by omega) (fun k d M M' hk hp hm hi => by
    obtain ⟨b, hb, ⟨h2, _, _⟩ | ⟨_, h1, _⟩⟩ := bStep_some hm
    · have e : t.cells.length - 1 = k := by omega
      have := List.getElem?_eq_getElem hlt
      rw [show t.cells[t.cells.length - 1]? = t.cells[k]? by rw [e], hk] at this
      injection this with this
      rw [← this]; exact h2
    · have := innerB_iff.1 h1
      omega)
  exact hp rfl
/-- The number of a leaf. -/
def leafN (t : Tr) (i : Nat) : Bool := match t.cells[i]? with
  | some c => leafB c
  | none => false
def leavesN (t : Tr) (n : Nat) : List Nat := (List.range n).filter (leafN t)
def leavesL (t : Tr) : List Nat := if validT t then leavesN t t.cells.length else []
theorem leavesN_succ (t : Tr) (n : Nat) : leavesN t (n + 1) = if leafN t n then leavesN t n ++ [n] else leavesN t n := by
  simp only [leavesN, List.range_succ, List.filter_append]
  cases h : leafN t n <;> simp [h]
theorem leavesN_len (t : Tr) (n : Nat) : (leavesN t n).length ≤ n := by
  have := List.length_filter_le (leafN t) (List.range n)
  simpa [leavesN] using this
theorem leavesL_mem {t : Tr} {i : Nat} : i ∈ leavesL t ↔ validT t = true ∧ ∃ c, t.cells[i]? = some c ∧ leafB c = true := by
  unfold leavesL
  cases hv : validT t with
  | false => simp
  | true =>
    simp only [if_true, true_and, leavesN, List.mem_filter, List.mem_range, leafN]
    constructor
    · rintro ⟨h1, h2⟩
      rw [List.getElem?_eq_getElem h1] at h2
      exact ⟨_, List.getElem?_eq_getElem h1, h2⟩
    · rintro ⟨c, hc, hl⟩
      refine ⟨(List.getElem?_eq_some_iff.1 hc).1, by rw [hc]; exact hl⟩
theorem leavesL_pos {t : Tr} (h : validT t = true) : 0 < (leavesL t).length := by
  obtain ⟨L, hL⟩ := Option.isSome_iff_exists.1 h
  obtain ⟨c, hc, hl⟩ := last_leaf hL
  exact List.length_pos_of_mem (leavesL_mem.2 ⟨h, c, hc, hl⟩)
/-- The results of Split and Settle. -/
def splitOk (t : Tr) (i j : Int) : Bool := validT t && decide (0 ≤ i) && decide (i < t.cells.length) && leafN t i.toNat && decide (t.cells.length + 2 ≤ 2048) && halveOk ((boxesL t)[i.toNat]?.getD []) j
def vAt (t : Tr) (i : Nat) : Verd := match t.cells[i]? with
  | some c => c.v
  | none => zeroV
def splitT (t : Tr) (i j : Int) : Tr := if splitOk t i j then splitC t i.toNat j (vAt t i.toNat) else t
def settleOk (t : Tr) (i : Int) (v : Verd) : Bool := validT t && decide (0 ≤ i) && decide (i < t.cells.length) && leafN t i.toNat && decide ((vAt t i.toNat).kind = 0) && inFormB v
def settleT (t : Tr) (i : Int) (v : Verd) : Tr := if settleOk t i v then settleC t i.toNat v else t
theorem leafN_get {t : Tr} {i : Nat} (h : leafN t i = true) : ∃ c, t.cells[i]? = some c ∧ leafB c = true ∧ vAt t i = c.v := by
  unfold leafN at h
  split at h
  · rename_i c hc
    exact ⟨c, hc, h, by simp [vAt, hc]⟩
  · cases h
theorem split_valid {t : Tr} (h : validT t = true) (i j : Int) : validT (splitT t i j) = true ∧ (splitT t i j).root = t.root ∧ (splitT t i j).cells.length ≤ t.cells.length + 2 := by
  unfold splitT
  split
  · rename_i hs
    simp only [splitOk, Bool.and_eq_true, decide_eq_true_eq] at hs
    obtain ⟨⟨⟨⟨⟨h1, h2⟩, h3⟩, h4⟩, h5⟩, h6⟩ := hs
    obtain ⟨L, hL⟩ := Option.isSome_iff_exists.1 h
    obtain ⟨c, hc, hl, hv⟩ := leafN_get h4
    have hlt : i.toNat < t.cells.length := by omega
    obtain ⟨b, hb⟩ := (boxesO_ok hL).pre i.toNat hlt
    have hb' : (boxesL t)[i.toNat]? = some b := by
      have := boxesO_map hL
      rw [this] at hb
      simpa using hb
    rw [hb'] at h6
    have := split_boxes hL hc hl h5 hb h6
    rw [hv]
    exact ⟨by rw [validT, this]; rfl, rfl, by rw [splitC_len]; exact Nat.le_refl _⟩
  · exact ⟨h, rfl, by omega⟩
theorem settle_valid {t : Tr} (h : validT t = true) (i : Int) (v : Verd) : validT (settleT t i v) = true ∧ (settleT t i v).root = t.root ∧ (settleT t i v).cells.length = t.cells.length ∧ boxesL (settleT t i v) = boxesL t := by
  unfold settleT
  split
  · rename_i hs
    simp only [settleOk, Bool.and_eq_true, decide_eq_true_eq] at hs
    obtain ⟨⟨⟨⟨⟨h1, h2⟩, h3⟩, h4⟩, h5⟩, h6⟩ := hs
    obtain ⟨L, hL⟩ := Option.isSome_iff_exists.1 h
    obtain ⟨c, hc, hl, hv⟩ := leafN_get h4
    have := settle_boxes hL hc hl h6
    exact ⟨by rw [validT, this]; rfl, rfl, by simp [settleC], by simp [boxesL, this, hL]⟩
  · exact ⟨h, rfl, rfl, rfl⟩
end Go.Ab

/- Plain facts: made trees. -/
namespace Go.Ab
open Go.Proofs
def labelV (k : Int) : Verd := if k = 1 ∨ k = 2 then ⟨2, [], 0, [1], [1]⟩ else if k = 3 then ⟨1, [(1, 0, 0)], 0, [], []⟩ else zeroV
def rootS (l : List Int) : Nat → Nat
  | 0 => nn l 0
  | i + 1 => nn l (nn l (rootS l i))
theorem rootS_le (l : List Int) (i : Nat) : rootS l i ≤ 2 * i + 1 := by
  induction i with
  | zero => have := nn_le l 0; simp only [rootS]; omega
  | succ i ih => have := nn_le l (rootS l i); have := nn_le l (nn l (rootS l i)); simp only [rootS]; omega
def rootLo (l : List Int) (m : Nat) : Int := wr (nx l m 81 - 40)
def rootI (l : List Int) (m : Nat) : Int × Int := (rootLo l m, wr (rootLo l m + nx l (nn l m) 60))
theorem rootI_rng (l : List Int) (m : Nat) : -40 ≤ (rootI l m).1 ∧ (rootI l m).1 ≤ (rootI l m).2 ∧ (rootI l m).2 ≤ 100 ∧ (rootI l m).1 = nx l m 81 - 40 ∧ (rootI l m).2 = nx l m 81 - 40 + nx l (nn l m) 60 := by
  have h1 := nx_range l m (k := 81) (by decide) (by decide)
  have h2 := nx_range l (nn l m) (k := 60) (by decide) (by decide)
  have e : rootLo l m = nx l m 81 - 40 := wr_id (by omega) (by omega)
  have e2 : wr (rootLo l m + nx l (nn l m) 60) = rootLo l m + nx l (nn l m) 60 := wr_id (by omega) (by omega)
  have e3 : (rootI l m).1 = rootLo l m := rfl
  have e4 : (rootI l m).2 = rootLo l m + nx l (nn l m) 60 := e2
  rw [e3, e4]
  omega
def rootN (l : List Int) : Nat := (1 + nx l 0 3).toNat
def mkRoot (l : List Int) : List (Int × Int) := (List.range (rootN l)).map fun i => rootI l (rootS l i)
theorem rootN_rng (l : List Int) : 1 ≤ rootN l ∧ rootN l ≤ 3 ∧ (rootN l : Int) = 1 + nx l 0 3 := by
  have h1 := nx_range l 0 (k := 3) (by decide) (by decide)
  unfold rootN; omega
theorem mkRoot_len (l : List Int) : (mkRoot l).length = rootN l := by simp [mkRoot]
theorem mkRoot_mem {l : List Int} {x : Int × Int} (h : x ∈ mkRoot l) : -40 ≤ x.1 ∧ x.1 ≤ x.2 ∧ x.2 ≤ 100 := by
  simp only [mkRoot, List.mem_map] at h
  obtain ⟨i, _, rfl⟩ := h
  have := rootI_rng l (rootS l i)
  exact ⟨this.1, this.2.1, this.2.2.1⟩
theorem mkRoot_step {l : List Int} {i : Nat} (h : i < rootN l) : ((mkRoot l).map encI).take i ++ [encI (rootI l (rootS l i))] = ((mkRoot l).map encI).take (i + 1) := by
  rw [List.take_succ_eq_append_getElem (by simpa [mkRoot] using h)]; simp [mkRoot]
theorem mkRoot_ok (l : List Int) : rootOk (mkRoot l) = true := by
  have h := rootN_rng l
  simp only [rootOk, mkRoot_len, Bool.and_eq_true, decide_eq_true_eq]
  refine ⟨⟨h.1, by omega⟩, allV_iff.2 fun x hx => ?_⟩
  have := mkRoot_mem hx
  exact validB_iff.2 ⟨by omega, by omega, by omega⟩
def newT (r : List (Int × Int)) : Tr := if rootOk r then ⟨r, [leafC zeroV]⟩ else ⟨[], []⟩
theorem new_boxes {r : List (Int × Int)} (h : rootOk r = true) : boxesO ⟨r, [leafC zeroV]⟩ = some [some r] := by
  have hs : sizeOk ⟨r, [leafC zeroV]⟩ = true := by simp [sizeOk, h]
  rw [boxesO, if_pos hs]
  simp only [bInit, List.length_singleton, Nat.sub_self, List.replicate, bRun]
  rw [step_leaf (t := ⟨r, []⟩) (b := r) rfl (leafC_leaf _), if_pos (show inFormB (leafC zeroV).v = true from zeroV_form)]
theorem new_bad {r : List (Int × Int)} (h : rootOk r = false) : boxesO ⟨r, [leafC zeroV]⟩ = none := by
  have hs : sizeOk ⟨r, [leafC zeroV]⟩ = false := by simp [sizeOk, h]
  rw [boxesO, if_neg (by simp [hs])]
theorem new_valid (r : List (Int × Int)) : validT ⟨r, [leafC zeroV]⟩ = rootOk r := by
  cases h : rootOk r with
  | true => rw [validT, new_boxes h]; rfl
  | false => rw [validT, new_bad h]; rfl
def divI (t : Tr) (l : List Int) (m : Nat) : Nat := (leavesL t)[(nx l m (leavesL t).length).toNat]?.getD 0
def divJ (t : Tr) (l : List Int) (m : Nat) : Int := nx l (nn l m) t.root.length
def divS (t0 : Tr) (l : List Int) : Nat → Tr × Nat
  | 0 => (t0, 0)
  | k + 1 => (splitT (divS t0 l k).1 (divI (divS t0 l k).1 l (divS t0 l k).2) (divJ (divS t0 l k).1 l (divS t0 l k).2), nn l (nn l (divS t0 l k).2))
def setS (t0 : Tr) (m0 : Nat) (all : List Nat) (l : List Int) : Nat → Tr × Nat
  | 0 => (t0, m0)
  | k + 1 => (settleT (setS t0 m0 all l k).1 ((all[k]?.getD 0 : Nat) : Int) (labelV (nx l (setS t0 m0 all l k).2 5)), nn l (setS t0 m0 all l k).2)
def divT (t : Tr) (l : List Int) (times : Nat) : Tr := (setS (divS t l times).1 (divS t l times).2 (leavesL (divS t l times).1) l (leavesL (divS t l times).1).length).1
def mkTimes (l : List Int) : Int := nx l (rootS l (rootN l)) 14
def mkTree (l : List Int) : Tr := divT ⟨mkRoot l, [leafC zeroV]⟩ l (mkTimes l).toNat
theorem divS_ok {t0 : Tr} (l : List Int) (h : validT t0 = true) (k : Nat) : validT (divS t0 l k).1 = true ∧ (divS t0 l k).1.root = t0.root ∧ (divS t0 l k).1.cells.length ≤ t0.cells.length + 2 * k ∧ (divS t0 l k).2 ≤ 2 * k := by
  induction k with
  | zero => exact ⟨h, rfl, by simp [divS], by simp [divS]⟩
  | succ k ih =>
    obtain ⟨h1, h2, h3, h4⟩ := ih
    have := split_valid h1 (divI (divS t0 l k).1 l (divS t0 l k).2) (divJ (divS t0 l k).1 l (divS t0 l k).2)
    have n1 := nn_le l (divS t0 l k).2
    have n2 := nn_le l (nn l (divS t0 l k).2)
    simp only [divS]
    exact ⟨this.1, by rw [this.2.1]; exact h2, by omega, by omega⟩
theorem setS_ok {t0 : Tr} (m0 : Nat) (all : List Nat) (l : List Int) (h : validT t0 = true) (k : Nat) : validT (setS t0 m0 all l k).1 = true ∧ (setS t0 m0 all l k).1.root = t0.root ∧ (setS t0 m0 all l k).1.cells.length = t0.cells.length ∧ boxesL (setS t0 m0 all l k).1 = boxesL t0 ∧ (setS t0 m0 all l k).2 ≤ m0 + k := by
  induction k with
  | zero => exact ⟨h, rfl, rfl, rfl, by simp [setS]⟩
  | succ k ih =>
    obtain ⟨h1, h2, h3, h4, h5⟩ := ih
    have := settle_valid h1 ((all[k]?.getD 0 : Nat) : Int) (labelV (nx l (setS t0 m0 all l k).2 5))
    have n1 := nn_le l (setS t0 m0 all l k).2
    simp only [setS]
    exact ⟨this.1, by rw [this.2.1]; exact h2, by rw [this.2.2.1]; exact h3, by rw [this.2.2.2]; exact h4, by omega⟩
theorem mkTimes_rng (l : List Int) : 0 ≤ mkTimes l ∧ mkTimes l < 14 := nx_range l _ (by decide) (by decide)
/-- A made tree. -/
structure MTree (t : Tr) : Prop where
  valid : validT t = true
  pos : 1 ≤ t.root.length
  three : t.root.length ≤ 3
  rng : ∀ x ∈ t.root, -40 ≤ x.1 ∧ x.1 ≤ x.2 ∧ x.2 ≤ 100
  cells : t.cells.length ≤ 27
  one : 1 ≤ t.cells.length
theorem mkTree_ok (l : List Int) : MTree (mkTree l) := by
  have hv : validT ⟨mkRoot l, [leafC zeroV]⟩ = true := by rw [new_valid]; exact mkRoot_ok l
  have h1 := divS_ok l hv (mkTimes l).toNat
  have h2 := setS_ok (divS ⟨mkRoot l, [leafC zeroV]⟩ l (mkTimes l).toNat).2 (leavesL (divS ⟨mkRoot l, [leafC zeroV]⟩ l (mkTimes l).toNat).1) l h1.1 (leavesL (divS ⟨mkRoot l, [leafC zeroV]⟩ l (mkTimes l).toNat).1).length
  have hr := rootN_rng l
  have ht := mkTimes_rng l
  have hroot : (mkTree l).root = mkRoot l := by unfold mkTree divT; rw [h2.2.1, h1.2.1]
  have hlen : (mkTree l).cells.length ≤ 27 := by
    unfold mkTree divT; rw [h2.2.2.1]
    have := h1.2.2.1
    simp only [List.length_singleton] at this
    omega
  have hval : validT (mkTree l) = true := h2.1
  refine ⟨hval, ?_, ?_, ?_, hlen, (sizeOk_iff.1 (valid_size hval)).1⟩
  · rw [hroot, mkRoot_len]; exact hr.1
  · rw [hroot, mkRoot_len]; exact hr.2.1
  · rw [hroot]; exact fun x hx => mkRoot_mem hx
/-! configurations -/
def inC (l : List Int) (m : Nat) : Int := nx l m 5
def inV (l : List Int) (m : Nat) (x : Int × Int) : Int := if inC l m = 0 then x.1 else if inC l m = 1 then x.2 else if inC l m = 2 then midI x else x.1 + nx l (nn l m) (x.2 - x.1 + 1)
def inN (l : List Int) (m : Nat) : Nat := if inC l m = 0 then nn l m else if inC l m = 1 then nn l m else if inC l m = 2 then nn l m else nn l (nn l m)
def inS (l : List Int) : Nat → Nat
  | 0 => 0
  | i + 1 => inN l (inS l i)
theorem inS_le (l : List Int) (i : Nat) : inS l i ≤ 2 * i := by
  induction i with
  | zero => simp [inS]
  | succ i ih =>
    have h1 := nn_le l (inS l i); have h2 := nn_le l (nn l (inS l i))
    simp only [inS, inN]
    repeat' split
    all_goals omega
def inL (b : List (Int × Int)) (l : List Int) : List Int := b.mapIdx fun i x => inV l (inS l i) x
theorem inL_len (b : List (Int × Int)) (l : List Int) : (inL b l).length = b.length := by simp [inL]
theorem inL_step {l : List Int} {b : List (Int × Int)} {i : Nat} (hlt : i < b.length) : ((inL b l).map Z).take i ++ [Z (inV l (inS l i) b[i])] = ((inL b l).map Z).take (i + 1) := by
  rw [List.take_succ_eq_append_getElem (by simpa [inL] using hlt)]; simp [inL]
theorem inV_rng {l : List Int} {m : Nat} {x : Int × Int} (h : validB x.1 x.2 = true) : x.1 ≤ inV l m x ∧ inV l m x ≤ x.2 := by
  have hv := validB_iff.1 h
  have hm := mid_rng h
  have h2 := nx_range l (nn l m) (k := x.2 - x.1 + 1) (by omega) (by omega)
  unfold inV
  repeat' split
  all_goals omega
theorem inL_rng {b : List (Int × Int)} {l : List Int} (h : allB vI b = true) {i : Nat} (hi : i < b.length) : b[i].1 ≤ (inL b l)[i]'(by rw [inL_len]; exact hi) ∧ (inL b l)[i]'(by rw [inL_len]; exact hi) ≤ b[i].2 := by
  simp only [inL, List.getElem_mapIdx]
  exact inV_rng (allV_iff.1 h _ (List.getElem_mem hi))
end Go.Ab

/- Plain facts: portals. -/
namespace Go.Ab
open Go.Proofs
theorem allZ_get {α β : Type} {f : α → β → Bool} {xs : List α} {ys : List β} : allZ f xs ys = true ↔ ∀ (i : Nat) x y, xs[i]? = some x → ys[i]? = some y → f x y = true := by
  unfold allZ
  rw [List.all_eq_true]
  constructor
  · intro h i x y hx hy
    have : (List.zipWith f xs ys)[i]? = some (f x y) := by simp [List.getElem?_zipWith, hx, hy]
    exact h _ (List.mem_of_getElem? this)
  · intro h z hz
    obtain ⟨i, hi⟩ := List.getElem?_of_mem hz
    rw [List.getElem?_zipWith] at hi
    cases hx : xs[i]? with
    | none => simp [hx] at hi
    | some x =>
      cases hy : ys[i]? with
      | none => simp [hx, hy] at hi
      | some y =>
        simp [hx, hy] at hi
        rw [← hi]; exact h i x y hx hy
theorem hasC_vi {b : Bx} {c : List Int} (hv : allB vI b = true) : hasC b c = true ↔ b.length = c.length ∧ ∀ (i : Nat) x y, b[i]? = some x → c[i]? = some y → x.1 ≤ y ∧ y ≤ x.2 := by
  simp only [hasC, Bool.and_eq_true, decide_eq_true_eq, allZ_get]
  constructor
  · rintro ⟨h1, h2⟩
    refine ⟨h1, fun i x y hx hy => ?_⟩
    have := h2 i x y hx hy
    simp only [hasI, Bool.and_eq_true, decide_eq_true_eq] at this
    exact ⟨this.1.2, this.2⟩
  · rintro ⟨h1, h2⟩
    refine ⟨h1, fun i x y hx hy => ?_⟩
    simp only [hasI, Bool.and_eq_true, decide_eq_true_eq]
    exact ⟨⟨allV_iff.1 hv _ (List.mem_of_getElem? hx), (h2 i x y hx hy).1⟩, (h2 i x y hx hy).2⟩
theorem touchC_vi {a b : Bx} (ha : allB vI a = true) (hb : allB vI b = true) : touchC a b = true ↔ a.length = b.length ∧ ∀ (i : Nat) x y, a[i]? = some x → b[i]? = some y → x.1 ≤ y.2 ∧ y.1 ≤ x.2 := by
  simp only [touchC, Bool.and_eq_true, decide_eq_true_eq, allZ_get]
  constructor
  · rintro ⟨h1, h2⟩
    refine ⟨h1, fun i x y hx hy => ?_⟩
    have := h2 i x y hx hy
    simp only [touchI, Bool.and_eq_true, decide_eq_true_eq] at this
    omega
  · rintro ⟨h1, h2⟩
    refine ⟨h1, fun i x y hx hy => ?_⟩
    have vx : validB x.1 x.2 = true := allV_iff.1 ha _ (List.mem_of_getElem? hx)
    have vy : validB y.1 y.2 = true := allV_iff.1 hb _ (List.mem_of_getElem? hy)
    simp only [touchI, vx, vy, Bool.and_eq_true, decide_eq_true_eq, true_and]
    have := h2 i x y hx hy
    have := validB_iff.1 vx
    have := validB_iff.1 vy
    omega
theorem has_rng {b : Bx} {c : List Int} (h : hasC b c = true) {i : Nat} {y : Int} (hy : c[i]? = some y) : -2147483648 ≤ y ∧ y ≤ 2147483648 := by
  simp only [hasC, Bool.and_eq_true, decide_eq_true_eq, allZ_get] at h
  obtain ⟨h1, h2⟩ := h
  have hlt := (List.getElem?_eq_some_iff.1 hy).1
  have := h2 i (b[i]'(by omega)) y (List.getElem?_eq_getElem _) hy
  simp only [hasI, Bool.and_eq_true, decide_eq_true_eq] at this
  have := validB_iff.1 this.1.1
  omega
theorem in_has {b : Bx} {l : List Int} (hv : allB vI b = true) : hasC b (inL b l) = true := by
  refine (hasC_vi hv).2 ⟨(inL_len b l).symm, fun i x y hx hy => ?_⟩
  obtain ⟨hi, rfl⟩ := List.getElem?_eq_some_iff.1 hx
  obtain ⟨hi', rfl⟩ := List.getElem?_eq_some_iff.1 hy
  exact inL_rng hv hi
end Go.Ab

/- Plain facts: chains of leaves. -/
namespace Go.Ab
open Go.Proofs
theorem cell_low {t : Tr} (hv : validT t = true) {i : Nat} {c : Cel} (hc : t.cells[i]? = some c) : (c.low == -1) = leafB c ∧ (leafB c = false → innerB t.cells.length i c = true) := by
  obtain ⟨L, hL⟩ := Option.isSome_iff_exists.1 hv
  have hp := boxes_ind (P := fun k _ => i < k → (c.low == -1) = leafB c ∧ (leafB c = false → innerB t.cells.length i c = true)) hL (by intro h; omega) (fun k d M M' hk hp hm hi => by
    by_cases e : k = i
    · subst e
      rw [hc] at hk; injection hk with hk; subst hk
      obtain ⟨b, hb, ⟨h1, _, _⟩ | ⟨h1, h2, _⟩⟩ := bStep_some hm
      · refine ⟨?_, fun h => by rw [h1] at h; cases h⟩
        rw [h1]; simp [leafB] at h1; simp [h1]
      · refine ⟨?_, fun _ => h2⟩
        rw [h1]
        have := innerB_iff.1 h2
        simp; omega
    · exact hp (by omega))
  exact hp (List.getElem?_eq_some_iff.1 hc).1
def boxAt (t : Tr) (c : Int) : Bx := (boxesL t)[c.toNat]?.getD []
theorem boxAt_ok {t : Tr} (hv : validT t = true) {c : Int} (h : c.toNat < t.cells.length) : (boxesL t)[c.toNat]? = some (boxAt t c) ∧ (boxAt t c).length = t.root.length ∧ allB vI (boxAt t c) = true := by
  have hl : c.toNat < (boxesL t).length := by rw [boxesL_len hv]; exact h
  have e : (boxesL t)[c.toNat]? = some (boxAt t c) := by simp [boxAt, List.getElem?_eq_getElem hl]
  exact ⟨e, boxesL_ok e⟩
def chStep (t : Tr) (chain : List Int) (j : Nat) : Bool := match chain[j]? with
  | some c => decide (0 ≤ c) && decide (c < t.cells.length) && leafN t c.toNat && !((chain.take j).contains c) && (decide (j = 0) || touchC (boxAt t (chain[j - 1]?.getD 0)) (boxAt t c))
  | none => false
theorem chStep_iff {t : Tr} {chain : List Int} {j : Nat} {c : Int} (hc : chain[j]? = some c) : chStep t chain j = true ↔ 0 ≤ c ∧ c < t.cells.length ∧ leafN t c.toNat = true ∧ c ∉ chain.take j ∧ (j = 0 ∨ touchC (boxAt t (chain[j - 1]?.getD 0)) (boxAt t c) = true) := by
  simp [chStep, hc, and_assoc]
structure ChOk (t : Tr) (chain p q : List Int) : Prop where
  valid : validT t = true
  hp : hasC t.root p = true
  hq : hasC t.root q = true
  ne : chain ≠ []
  all : ∀ j, j < chain.length → chStep t chain j = true
namespace ChOk
variable {t : Tr} {chain p q : List Int}
theorem get (h : ChOk t chain p q) {j : Nat} (hj : j < chain.length) : 0 ≤ chain[j] ∧ chain[j] < t.cells.length ∧ leafN t chain[j].toNat = true ∧ chain[j] ∉ chain.take j ∧ (j = 0 ∨ touchC (boxAt t (chain[j - 1]?.getD 0)) (boxAt t chain[j]) = true) :=
  (chStep_iff (List.getElem?_eq_getElem hj)).1 (h.all j hj)
theorem box (h : ChOk t chain p q) {j : Nat} (hj : j < chain.length) : (boxesL t)[chain[j].toNat]? = some (boxAt t chain[j]) ∧ (boxAt t chain[j]).length = t.root.length ∧ allB vI (boxAt t chain[j]) = true := by
  have := h.get hj
  exact boxAt_ok h.valid (by omega)
theorem touch (h : ChOk t chain p q) {j : Nat} (hj : j + 1 < chain.length) : touchC (boxAt t chain[j]) (boxAt t chain[j + 1]) = true := by
  have := (h.get hj).2.2.2.2
  rcases this with e | e
  · omega
  · rw [Nat.add_sub_cancel, List.getElem?_eq_getElem (by omega)] at e; exact e
end ChOk
end Go.Ab

/- Plain facts: the search for a shortest chain. -/
namespace Go.Ab
open Go.Proofs
structure BS where
  far : List Int
  q : List Nat
section
variable (n : Nat) (may has hasF : Nat → Bool) (tch : Nat → Nat → Bool)
def fAt (far : List Int) (i : Nat) : Int := far[i]?.getD 0
/-- What holds throughout. -/
structure BInv2 (s : BS) : Prop where
  len : s.far.length = n
  cnt : s.far.countP (fun x => x != 0) = s.q.length
  mem : ∀ j ∈ s.q, j < n ∧ 1 ≤ fAt s.far j
  nn : ∀ i, 0 ≤ fAt s.far i
  top : ∀ i, fAt s.far i ≤ s.q.length
  may' : ∀ i, 1 ≤ fAt s.far i → may i = true
  back : ∀ i, 1 ≤ fAt s.far i → (fAt s.far i = 1 ∧ has i = true) ∨ ∃ p, p < n ∧ fAt s.far p = fAt s.far i - 1 ∧ 1 ≤ fAt s.far p ∧ tch i p = true
variable {n may has hasF tch}
theorem fAt_set {far : List Int} {i j : Nat} {v : Int} (hi : i < far.length) : fAt (far.set i v) j = if j = i then v else fAt far j := by
  unfold fAt
  rw [List.getElem?_set]
  by_cases h : i = j
  · subst h; simp [hi]
  · rw [if_neg h, if_neg (fun e => h e.symm)]
theorem BInv2.le {s : BS} (h : BInv2 n may has tch s) : s.q.length ≤ n := by
  rw [← h.cnt, ← h.len]; exact List.countP_le_length
theorem cnt_set {far : List Int} {i : Nat} {v : Int} (hi : i < far.length) (h0 : fAt far i = 0) (hv : v ≠ 0) : (far.set i v).countP (fun x => x != 0) = far.countP (fun x => x != 0) + 1 := by
  have h0' : far[i] = 0 := by simpa [fAt, List.getElem?_eq_getElem hi] using h0
  rw [List.countP_set hi]
  simp [h0', hv]
theorem BInv2.put {s : BS} (h : BInv2 n may has tch s) {i : Nat} {v : Int} (hi : i < n) (h0 : fAt s.far i = 0) (hv : 1 ≤ v) (hm : may i = true) (ht : v ≤ s.q.length + 1)
    (hb : (v = 1 ∧ has i = true) ∨ ∃ p, p < n ∧ fAt s.far p = v - 1 ∧ 1 ≤ fAt s.far p ∧ tch i p = true) : BInv2 n may has tch ⟨s.far.set i v, s.q ++ [i]⟩ := by
  have hil : i < s.far.length := by rw [h.len]; exact hi
  refine ⟨by simpa using h.len, ?_, ?_, ?_, ?_, ?_, ?_⟩
  · simp only [List.length_append, List.length_singleton]; rw [cnt_set hil h0 (by omega), h.cnt]
  · intro j hj
    simp only [List.mem_append, List.mem_singleton] at hj
    simp only [fAt_set hil]
    rcases hj with hj | rfl
    · refine ⟨(h.mem j hj).1, ?_⟩
      split
      · exact hv
      · exact (h.mem j hj).2
    · exact ⟨hi, by simp [hv]⟩
  · intro j; simp only [fAt_set hil]; split
    · omega
    · exact h.nn j
  · intro j; simp only [fAt_set hil, List.length_append, List.length_singleton]
    have := h.top j
    split <;> omega
  · intro j; simp only [fAt_set hil]; split
    · rename_i e; rw [e]; exact fun _ => hm
    · exact h.may' j
  · have hpn : ∀ p, 1 ≤ fAt s.far p → p ≠ i := fun p hp e => by rw [e, h0] at hp; omega
    intro j; simp only [fAt_set hil]; split
    · rename_i e; rw [e]; intro _
      rcases hb with hb | ⟨p, p1, p2, p3, p4⟩
      · exact .inl hb
      · exact .inr ⟨p, p1, by rw [if_neg (hpn p p3)]; exact p2, by rw [if_neg (hpn p p3)]; exact p3, p4⟩
    · intro hj
      rcases h.back j hj with hb | ⟨p, p1, p2, p3, p4⟩
      · exact .inl hb
      · exact .inr ⟨p, p1, by rw [if_neg (hpn p p3)]; exact p2, by rw [if_neg (hpn p p3)]; exact p3, p4⟩
end
end Go.Ab

/- Deferred closures that do nothing where the frame returns. -/
namespace Go.Ab
open Go.Proofs
set_option maxRecDepth 100000 in
@[simp] theorem quiet76 : QuietFn Try.prog 76 := by
  refine ⟨by kernel_rfl, fun args w => ?_⟩
  refine callsD_of_wpS Try.func76 rfl fun c₀ cs hu => ?_
  apply wpS_seq
  apply wpS_region
  have hk : ∀ k, k < Try.f76.ntmps → k < args.size + (Try.f76.ntmps - args.size) := by intro k h; omega
  rw [Try.ntmps76] at hk
  have h0 := hk 0 (by decide)
  have h1 := hk 1 (by decide)
  have h2 := hk 2 (by decide)
  simp [wpOpsS, go_sem, recoverD, hu, Try.ntmps76, Exit.thenS, h0, h1, h2]
  refine wpS_cond (t := false) (by simp [Act.eval, h0, h1, h2]) ?_
  simp only [Bool.false_eq_true, if_false]
  refine wpS_of_wp (wp_skip ?_)
  cases c₀
  simp_all [bodyPostS, results, Try.results76]
set_option maxRecDepth 100000 in
@[simp] theorem quiet78 : QuietFn Try.prog 78 := by
  refine ⟨by kernel_rfl, fun args w => ?_⟩
  refine callsD_of_wpS Try.func78 rfl fun c₀ cs hu => ?_
  apply wpS_seq
  apply wpS_region
  have hk : ∀ k, k < Try.f78.ntmps → k < args.size + (Try.f78.ntmps - args.size) := by intro k h; omega
  rw [Try.ntmps78] at hk
  have h0 := hk 0 (by decide)
  have h1 := hk 1 (by decide)
  have h2 := hk 2 (by decide)
  simp [wpOpsS, go_sem, recoverD, hu, Try.ntmps78, Exit.thenS, h0, h1, h2]
  refine wpS_cond (t := false) (by simp [Act.eval, h0, h1, h2]) ?_
  simp only [Bool.false_eq_true, if_false]
  refine wpS_of_wp (wp_skip ?_)
  cases c₀
  simp_all [bodyPostS, results, Try.results78]
set_option maxRecDepth 100000 in
@[simp] theorem quiet88 : QuietFn Try.prog 88 := by
  refine ⟨by kernel_rfl, fun args w => ?_⟩
  refine callsD_of_wpS Try.func88 rfl fun c₀ cs hu => ?_
  apply wpS_seq
  apply wpS_region
  have hk : ∀ k, k < Try.f88.ntmps → k < args.size + (Try.f88.ntmps - args.size) := by intro k h; omega
  rw [Try.ntmps88] at hk
  have h0 := hk 0 (by decide)
  have h1 := hk 1 (by decide)
  have h2 := hk 2 (by decide)
  simp [wpOpsS, go_sem, recoverD, hu, Try.ntmps88, Exit.thenS, h0, h1, h2]
  refine wpS_cond (t := false) (by simp [Act.eval, h0, h1, h2]) ?_
  simp only [Bool.false_eq_true, if_false]
  refine wpS_of_wp (wp_skip ?_)
  cases c₀
  simp_all [bodyPostS, results, Try.results88]
set_option maxRecDepth 100000 in
@[simp] theorem quiet103 : QuietFn Try.prog 103 := by
  refine ⟨by kernel_rfl, fun args w => ?_⟩
  refine callsD_of_wpS Try.func103 rfl fun c₀ cs hu => ?_
  apply wpS_seq
  apply wpS_region
  have hk : ∀ k, k < Try.f103.ntmps → k < args.size + (Try.f103.ntmps - args.size) := by intro k h; omega
  rw [Try.ntmps103] at hk
  have h0 := hk 0 (by decide)
  have h1 := hk 1 (by decide)
  have h2 := hk 2 (by decide)
  simp [wpOpsS, go_sem, recoverD, hu, Try.ntmps103, Exit.thenS, h0, h1, h2]
  refine wpS_cond (t := false) (by simp [Act.eval, h0, h1, h2]) ?_
  simp only [Bool.false_eq_true, if_false]
  refine wpS_of_wp (wp_skip ?_)
  cases c₀
  simp_all [bodyPostS, results, Try.results103]
set_option maxRecDepth 100000 in
@[simp] theorem quiet160 : QuietFn Try.prog 160 := by
  refine ⟨by kernel_rfl, fun args w => ?_⟩
  refine callsD_of_wpS Try.func160 rfl fun c₀ cs hu => ?_
  apply wpS_seq
  apply wpS_region
  have hk : ∀ k, k < Try.f160.ntmps → k < args.size + (Try.f160.ntmps - args.size) := by intro k h; omega
  rw [Try.ntmps160] at hk
  have h0 := hk 0 (by decide)
  have h1 := hk 1 (by decide)
  have h2 := hk 2 (by decide)
  simp [wpOpsS, go_sem, recoverD, hu, Try.ntmps160, Exit.thenS, h0, h1, h2]
  refine wpS_cond (t := false) (by simp [Act.eval, h0, h1, h2]) ?_
  simp only [Bool.false_eq_true, if_false]
  refine wpS_of_wp (wp_skip ?_)
  cases c₀
  simp_all [bodyPostS, results, Try.results160]
set_option maxRecDepth 100000 in
@[simp] theorem quiet144 : QuietFn Try.prog 144 := by
  refine ⟨by kernel_rfl, fun args w => ?_⟩
  refine callsD_of_wpS Try.func144 rfl fun c₀ cs hu => ?_
  apply wpS_seq
  apply wpS_region
  have hk : ∀ k, k < Try.f144.ntmps → k < args.size + (Try.f144.ntmps - args.size) := by intro k h; omega
  rw [Try.ntmps144] at hk
  have h0 := hk 0 (by decide)
  have h1 := hk 1 (by decide)
  have h2 := hk 2 (by decide)
  have h3 := hk 3 (by decide)
  simp [wpOpsS, go_sem, recoverD, hu, Try.ntmps144, Exit.thenS, h0, h1, h2, h3]
  refine wpS_cond (t := false) (by simp [Act.eval, h0, h1, h2, h3]) ?_
  simp only [Bool.false_eq_true, if_false]
  refine wpS_of_wp (wp_skip ?_)
  cases c₀
  simp_all [bodyPostS, results, Try.results144]
set_option maxRecDepth 100000 in
@[simp] theorem quiet80 : QuietFn Try.prog 80 := by
  refine ⟨by kernel_rfl, fun args w => ?_⟩
  refine callsD_of_wpS Try.func80 rfl fun c₀ cs hu => ?_
  apply wpS_seq
  apply wpS_region
  have hk : ∀ k, k < Try.f80.ntmps → k < args.size + (Try.f80.ntmps - args.size) := by intro k h; omega
  rw [Try.ntmps80] at hk
  have h0 := hk 0 (by decide)
  have h1 := hk 1 (by decide)
  have h2 := hk 2 (by decide)
  have h3 := hk 3 (by decide)
  simp [wpOpsS, go_sem, recoverD, hu, Try.ntmps80, Exit.thenS, h0, h1, h2, h3]
  refine wpS_cond (t := false) (by simp [Act.eval, h0, h1, h2, h3]) ?_
  simp only [Bool.false_eq_true, if_false]
  refine wpS_of_wp (wp_skip ?_)
  cases c₀
  simp_all [bodyPostS, results, Try.results80]
set_option maxRecDepth 100000 in
@[simp] theorem quiet85 : QuietFn Try.prog 85 := by
  refine ⟨by kernel_rfl, fun args w => ?_⟩
  refine callsD_of_wpS Try.func85 rfl fun c₀ cs hu => ?_
  apply wpS_seq
  apply wpS_region
  have hk : ∀ k, k < Try.f85.ntmps → k < args.size + (Try.f85.ntmps - args.size) := by intro k h; omega
  rw [Try.ntmps85] at hk
  have h0 := hk 0 (by decide)
  have h1 := hk 1 (by decide)
  have h2 := hk 2 (by decide)
  have h3 := hk 3 (by decide)
  simp [wpOpsS, go_sem, recoverD, hu, Try.ntmps85, Exit.thenS, h0, h1, h2, h3]
  refine wpS_cond (t := false) (by simp [Act.eval, h0, h1, h2, h3]) ?_
  simp only [Bool.false_eq_true, if_false]
  refine wpS_of_wp (wp_skip ?_)
  cases c₀
  simp_all [bodyPostS, results, Try.results85]
set_option maxRecDepth 100000 in
@[simp] theorem quiet91 : QuietFn Try.prog 91 := by
  refine ⟨by kernel_rfl, fun args w => ?_⟩
  refine callsD_of_wpS Try.func91 rfl fun c₀ cs hu => ?_
  apply wpS_seq
  apply wpS_region
  have hk : ∀ k, k < Try.f91.ntmps → k < args.size + (Try.f91.ntmps - args.size) := by intro k h; omega
  rw [Try.ntmps91] at hk
  have h0 := hk 0 (by decide)
  have h1 := hk 1 (by decide)
  have h2 := hk 2 (by decide)
  have h3 := hk 3 (by decide)
  simp [wpOpsS, go_sem, recoverD, hu, Try.ntmps91, Exit.thenS, h0, h1, h2, h3]
  refine wpS_cond (t := false) (by simp [Act.eval, h0, h1, h2, h3]) ?_
  simp only [Bool.false_eq_true, if_false]
  refine wpS_of_wp (wp_skip ?_)
  cases c₀
  simp_all [bodyPostS, results, Try.results91]
set_option maxRecDepth 100000 in
@[simp] theorem quiet96 : QuietFn Try.prog 96 := by
  refine ⟨by kernel_rfl, fun args w => ?_⟩
  refine callsD_of_wpS Try.func96 rfl fun c₀ cs hu => ?_
  apply wpS_seq
  apply wpS_region
  have hk : ∀ k, k < Try.f96.ntmps → k < args.size + (Try.f96.ntmps - args.size) := by intro k h; omega
  rw [Try.ntmps96] at hk
  have h0 := hk 0 (by decide)
  have h1 := hk 1 (by decide)
  have h2 := hk 2 (by decide)
  have h3 := hk 3 (by decide)
  simp [wpOpsS, go_sem, recoverD, hu, Try.ntmps96, Exit.thenS, h0, h1, h2, h3]
  refine wpS_cond (t := false) (by simp [Act.eval, h0, h1, h2, h3]) ?_
  simp only [Bool.false_eq_true, if_false]
  refine wpS_of_wp (wp_skip ?_)
  cases c₀
  simp_all [bodyPostS, results, Try.results96]
set_option maxRecDepth 100000 in
@[simp] theorem quiet122 : QuietFn Try.prog 122 := by
  refine ⟨by kernel_rfl, fun args w => ?_⟩
  refine callsD_of_wpS Try.func122 rfl fun c₀ cs hu => ?_
  apply wpS_seq
  apply wpS_region
  have hk : ∀ k, k < Try.f122.ntmps → k < args.size + (Try.f122.ntmps - args.size) := by intro k h; omega
  rw [Try.ntmps122] at hk
  have h0 := hk 0 (by decide)
  have h1 := hk 1 (by decide)
  have h2 := hk 2 (by decide)
  have h3 := hk 3 (by decide)
  simp [wpOpsS, go_sem, recoverD, hu, Try.ntmps122, Exit.thenS, h0, h1, h2, h3]
  refine wpS_cond (t := false) (by simp [Act.eval, h0, h1, h2, h3]) ?_
  simp only [Bool.false_eq_true, if_false]
  refine wpS_of_wp (wp_skip ?_)
  cases c₀
  simp_all [bodyPostS, results, Try.results122]
set_option maxRecDepth 100000 in
@[simp] theorem quiet112 : QuietFn Try.prog 112 := by
  refine ⟨by kernel_rfl, fun args w => ?_⟩
  refine callsD_of_wpS Try.func112 rfl fun c₀ cs hu => ?_
  apply wpS_seq
  apply wpS_region
  have hk : ∀ k, k < Try.f112.ntmps → k < args.size + (Try.f112.ntmps - args.size) := by intro k h; omega
  rw [Try.ntmps112] at hk
  have h0 := hk 0 (by decide)
  have h1 := hk 1 (by decide)
  have h2 := hk 2 (by decide)
  have h3 := hk 3 (by decide)
  simp [wpOpsS, go_sem, recoverD, hu, Try.ntmps112, Exit.thenS, h0, h1, h2, h3]
  refine wpS_cond (t := false) (by simp [Act.eval, h0, h1, h2, h3]) ?_
  simp only [Bool.false_eq_true, if_false]
  refine wpS_of_wp (wp_skip ?_)
  cases c₀
  simp_all [bodyPostS, results, Try.results112]
end Go.Ab
