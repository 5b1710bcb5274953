/- Contracts: cells and verdicts. -/
import Derived.Test.YtagmnknighofeaaCf11
set_option linter.all false
namespace Go.Ab
open Go.Proofs
structure Verd where
  kind : Int
  nor : List (Int × Int × Int)
  pair : Int
  left : List Int
  right : List Int
structure Cel where
  joint : Int
  low : Int
  high : Int
  v : Verd
structure Tr where
  root : List (Int × Int)
  cells : List Cel
abbrev encVec (v : Int × Int × Int) : PV := .val (.agg #[.int .i64 v.1, .int .i64 v.2.1, .int .i64 v.2.2])
abbrev vecs (l : List (Int × Int × Int)) : PV := .sl (l.map encVec)
abbrev encW (p : Int) (l r : List Int) : PV := .agg [Z p, zs l, zs r]
abbrev encVd (v : Verd) : PV := .agg [Z v.kind, vecs v.nor, Z v.pair, zs v.left, zs v.right]
abbrev encC (c : Cel) : PV := .agg [Z c.joint, Z c.low, Z c.high, Z c.v.kind, vecs c.v.nor, Z c.v.pair, zs c.v.left, zs c.v.right]
abbrev encT (t : Tr) : PV := .agg [iv t.root, .sl (t.cells.map encC)]
def leafB (c : Cel) : Bool := c.joint == -1 && c.low == -1 && c.high == -1
def emptyW (p : Int) (l r : List Int) : Bool := p == 0 && (l.length : Int) == 0 && (r.length : Int) == 0
def inFormB (v : Verd) : Bool := if v.kind = 0 ∨ v.kind = 1 then emptyW v.pair v.left v.right else if v.kind = 2 then ((v.nor.length : Int) == 0) else false
def zeroB (v : Verd) : Bool := v.kind == 0 && ((v.nor.length : Int) == 0) && emptyW v.pair v.left v.right
theorem len_beq0 {α : Type} (l : List α) : ((l.length : Int) == 0) = decide (l.length = 0) := by
  by_cases h : l.length = 0
  · simp [h]
  · have : ((l.length : Int) == 0) = false := by simp; intro h'; exact h (by rw [h']; rfl)
    rw [this]; simp [h]
theorem d87 (c : Cel) : DetH Try.prog 87 [.pv (encC c)] [] [] (.pv (B (leafB c))) := by
  refine detP_of Try.func87 rfl (by kernel_rfl) (by simp [Try.f87]) rfl ?_
  intro C hP hN
  simp only [Try.f87] at hN ⊢
  repeat' (first
    | with_reducible refine WP.seq ?_
    | (with_reducible refine WP.region (hn := []) ?_; simp -implicitDefEqProofs [hP, hN])
    | (with_reducible refine WP.draw (hn := []) (by rw [hP]; kernel_rfl) (by kernel_rfl) ?_; simp -implicitDefEqProofs [hP, hN]; (try refine ⟨by kernel_rfl, ?_⟩))
    | (with_reducible refine xB_split (by simp) (fun hgd => ?_) (fun hgd => ?_) <;> first | (exfalso; simp at hgd; done) | (exfalso; simp at hgd; omega) | simp -implicitDefEqProofs [hP, hN])
    | (with_reducible refine yB_split (by simp) (fun hgd => ?_) (fun hgd => ?_) <;> first | (exfalso; simp at hgd; done) | (exfalso; simp at hgd; omega) | (simp -implicitDefEqProofs [hP, hN] <;> (try refine ⟨by kernel_rfl, ?_⟩)))
    | with_reducible refine xTwo_intro ?_ ?_
    | (with_reducible refine WP.cond' ?_; simp -implicitDefEqProofs [hP, hN])
    | (with_reducible refine xCond_split (fun hcd => ?_) (fun hcd => ?_) <;> (try (exfalso; clear hP hN; simp_all; done)) <;> (try (exfalso; simp at *; omega)))
    | with_reducible refine WP.block ?_
    | (with_reducible refine WP.skip ?_; simp)
    | (with_reducible refine WP.exit ?_; simp)
    | (with_reducible refine WP.ret ?_; simp))
  all_goals (simp_all [leafB])
theorem d116 (c : Cel) : DetH Try.prog 116 [.pv (encC c)] [] [] (.pv (B (leafB c))) := by
  refine detP_of Try.func116 rfl (by kernel_rfl) (by simp [Try.f116]) rfl ?_
  intro C hP hN
  simp only [Try.f116] at hN ⊢
  repeat' (first
    | with_reducible refine WP.seq ?_
    | (with_reducible refine WP.region (hn := []) ?_; simp -implicitDefEqProofs [hP, hN])
    | (with_reducible refine WP.draw (hn := []) (by rw [hP]; kernel_rfl) (by kernel_rfl) ?_; simp -implicitDefEqProofs [hP, hN]; (try refine ⟨by kernel_rfl, ?_⟩))
    | (with_reducible refine xB_split (by simp) (fun hgd => ?_) (fun hgd => ?_) <;> first | (exfalso; simp at hgd; done) | (exfalso; simp at hgd; omega) | simp -implicitDefEqProofs [hP, hN])
    | (with_reducible refine yB_split (by simp) (fun hgd => ?_) (fun hgd => ?_) <;> first | (exfalso; simp at hgd; done) | (exfalso; simp at hgd; omega) | (simp -implicitDefEqProofs [hP, hN] <;> (try refine ⟨by kernel_rfl, ?_⟩)))
    | with_reducible refine xTwo_intro ?_ ?_
    | (with_reducible refine WP.cond' ?_; simp -implicitDefEqProofs [hP, hN])
    | (with_reducible refine xCond_split (fun hcd => ?_) (fun hcd => ?_) <;> (try (exfalso; clear hP hN; simp_all; done)) <;> (try (exfalso; simp at *; omega)))
    | with_reducible refine WP.block ?_
    | (with_reducible refine WP.skip ?_; simp)
    | (with_reducible refine WP.exit ?_; simp)
    | (with_reducible refine WP.ret ?_; simp))
  all_goals (simp_all [leafB])
theorem d156 (p : Int) (l r : List Int) : DetH Try.prog 156 [.pv (encW p l r)] [] [] (.pv (B (emptyW p l r))) := by
  refine detP_of Try.func156 rfl (by kernel_rfl) (by simp [Try.f156]) rfl ?_
  intro C hP hN
  simp only [Try.f156] at hN ⊢
  repeat' (first
    | with_reducible refine WP.seq ?_
    | (with_reducible refine WP.region (hn := []) ?_; simp -implicitDefEqProofs [hP, hN])
    | (with_reducible refine WP.draw (hn := []) (by rw [hP]; kernel_rfl) (by kernel_rfl) ?_; simp -implicitDefEqProofs [hP, hN]; (try refine ⟨by kernel_rfl, ?_⟩))
    | (with_reducible refine xB_split (by simp) (fun hgd => ?_) (fun hgd => ?_) <;> first | (exfalso; simp at hgd; done) | (exfalso; simp at hgd; omega) | simp -implicitDefEqProofs [hP, hN])
    | (with_reducible refine yB_split (by simp) (fun hgd => ?_) (fun hgd => ?_) <;> first | (exfalso; simp at hgd; done) | (exfalso; simp at hgd; omega) | (simp -implicitDefEqProofs [hP, hN] <;> (try refine ⟨by kernel_rfl, ?_⟩)))
    | with_reducible refine xTwo_intro ?_ ?_
    | (with_reducible refine WP.cond' ?_; simp -implicitDefEqProofs [hP, hN])
    | (with_reducible refine xCond_split (fun hcd => ?_) (fun hcd => ?_) <;> (try (exfalso; clear hP hN; simp_all; done)) <;> (try (exfalso; simp at *; omega)))
    | with_reducible refine WP.block ?_
    | (with_reducible refine WP.skip ?_; simp)
    | (with_reducible refine WP.exit ?_; simp)
    | (with_reducible refine WP.ret ?_; simp))
  all_goals (simp_all [emptyW])
theorem d165 (p : Int) (l r : List Int) : DetH Try.prog 165 [.pv (encW p l r)] [] [] (.pv (B (emptyW p l r))) := by
  refine detP_of Try.func165 rfl (by kernel_rfl) (by simp [Try.f165]) rfl ?_
  intro C hP hN
  simp only [Try.f165] at hN ⊢
  repeat' (first
    | with_reducible refine WP.seq ?_
    | (with_reducible refine WP.region (hn := []) ?_; simp -implicitDefEqProofs [hP, hN])
    | (with_reducible refine WP.draw (hn := []) (by rw [hP]; kernel_rfl) (by kernel_rfl) ?_; simp -implicitDefEqProofs [hP, hN]; (try refine ⟨by kernel_rfl, ?_⟩))
    | (with_reducible refine xB_split (by simp) (fun hgd => ?_) (fun hgd => ?_) <;> first | (exfalso; simp at hgd; done) | (exfalso; simp at hgd; omega) | simp -implicitDefEqProofs [hP, hN])
    | (with_reducible refine yB_split (by simp) (fun hgd => ?_) (fun hgd => ?_) <;> first | (exfalso; simp at hgd; done) | (exfalso; simp at hgd; omega) | (simp -implicitDefEqProofs [hP, hN] <;> (try refine ⟨by kernel_rfl, ?_⟩)))
    | with_reducible refine xTwo_intro ?_ ?_
    | (with_reducible refine WP.cond' ?_; simp -implicitDefEqProofs [hP, hN])
    | (with_reducible refine xCond_split (fun hcd => ?_) (fun hcd => ?_) <;> (try (exfalso; clear hP hN; simp_all; done)) <;> (try (exfalso; simp at *; omega)))
    | with_reducible refine WP.block ?_
    | (with_reducible refine WP.skip ?_; simp)
    | (with_reducible refine WP.exit ?_; simp)
    | (with_reducible refine WP.ret ?_; simp))
  all_goals (simp_all [emptyW])
theorem d97 (v : Verd) : DetH Try.prog 97 [.pv (encVd v)] [] [] (.pv (B (inFormB v))) := by
  have ce := d156 v.pair v.left v.right
  have h0 := len_beq0 v.nor
  generalize hE : emptyW v.pair v.left v.right = E at ce
  refine detP_of Try.func97 rfl (by kernel_rfl) (by simp [Try.f97]) rfl ?_
  intro C hP hN
  simp only [Try.f97] at hN ⊢
  repeat' (first
    | with_reducible refine WP.seq ?_
    | (with_reducible refine WP.region (hn := []) ?_; simp -implicitDefEqProofs [hP, hN])
    | (with_reducible refine WP.draw (hn := []) (by rw [hP]; kernel_rfl) (by kernel_rfl) ?_; simp -implicitDefEqProofs [hP, hN]; (try refine ⟨by kernel_rfl, ?_⟩))
    | (with_reducible refine xB_split (by simp) (fun hgd => ?_) (fun hgd => ?_) <;> first | (exfalso; simp at hgd; done) | (exfalso; simp at hgd; omega) | simp -implicitDefEqProofs [hP, hN])
    | (with_reducible refine yB_split (by simp) (fun hgd => ?_) (fun hgd => ?_) <;> first | (exfalso; simp at hgd; done) | (exfalso; simp at hgd; omega) | (simp -implicitDefEqProofs [hP, hN] <;> (try refine ⟨by kernel_rfl, ?_⟩)))
    | (with_reducible refine xC_intro (ce) ?_; simp -implicitDefEqProofs [hP, hN])
    | (with_reducible refine yC_intro (ce) ?_; simp -implicitDefEqProofs [hP, hN]; (try refine ⟨by kernel_rfl, ?_⟩))
    | with_reducible refine xTwo_intro ?_ ?_
    | (with_reducible refine WP.cond' ?_; simp -implicitDefEqProofs [hP, hN])
    | (with_reducible refine xCond_split (fun hcd => ?_) (fun hcd => ?_) <;> (try (exfalso; clear hP hN; simp_all; done)) <;> (try (exfalso; simp at *; omega)))
    | with_reducible refine WP.block ?_
    | (with_reducible refine WP.skip ?_; simp)
    | (with_reducible refine WP.exit ?_; simp)
    | (with_reducible refine WP.ret ?_; simp))
  all_goals (simp_all [inFormB])
theorem d117 (v : Verd) : DetH Try.prog 117 [.pv (encVd v)] [] [] (.pv (B (inFormB v))) := by
  have ce := d165 v.pair v.left v.right
  have h0 := len_beq0 v.nor
  generalize hE : emptyW v.pair v.left v.right = E at ce
  refine detP_of Try.func117 rfl (by kernel_rfl) (by simp [Try.f117]) rfl ?_
  intro C hP hN
  simp only [Try.f117] at hN ⊢
  repeat' (first
    | with_reducible refine WP.seq ?_
    | (with_reducible refine WP.region (hn := []) ?_; simp -implicitDefEqProofs [hP, hN])
    | (with_reducible refine WP.draw (hn := []) (by rw [hP]; kernel_rfl) (by kernel_rfl) ?_; simp -implicitDefEqProofs [hP, hN]; (try refine ⟨by kernel_rfl, ?_⟩))
    | (with_reducible refine xB_split (by simp) (fun hgd => ?_) (fun hgd => ?_) <;> first | (exfalso; simp at hgd; done) | (exfalso; simp at hgd; omega) | simp -implicitDefEqProofs [hP, hN])
    | (with_reducible refine yB_split (by simp) (fun hgd => ?_) (fun hgd => ?_) <;> first | (exfalso; simp at hgd; done) | (exfalso; simp at hgd; omega) | (simp -implicitDefEqProofs [hP, hN] <;> (try refine ⟨by kernel_rfl, ?_⟩)))
    | (with_reducible refine xC_intro (ce) ?_; simp -implicitDefEqProofs [hP, hN])
    | (with_reducible refine yC_intro (ce) ?_; simp -implicitDefEqProofs [hP, hN]; (try refine ⟨by kernel_rfl, ?_⟩))
    | with_reducible refine xTwo_intro ?_ ?_
    | (with_reducible refine WP.cond' ?_; simp -implicitDefEqProofs [hP, hN])
    | (with_reducible refine xCond_split (fun hcd => ?_) (fun hcd => ?_) <;> (try (exfalso; clear hP hN; simp_all; done)) <;> (try (exfalso; simp at *; omega)))
    | with_reducible refine WP.block ?_
    | (with_reducible refine WP.skip ?_; simp)
    | (with_reducible refine WP.exit ?_; simp)
    | (with_reducible refine WP.ret ?_; simp))
  all_goals (simp_all [inFormB])
theorem d147 (v : Verd) : DetH Try.prog 147 [.pv (encVd v)] [] [] (.pv (B (zeroB v))) := by
  have ce := d156 v.pair v.left v.right
  generalize hE : emptyW v.pair v.left v.right = E at ce
  refine detP_of Try.func147 rfl (by kernel_rfl) (by simp [Try.f147]) rfl ?_
  intro C hP hN
  simp only [Try.f147] at hN ⊢
  repeat' (first
    | with_reducible refine WP.seq ?_
    | (with_reducible refine WP.region (hn := []) ?_; simp -implicitDefEqProofs [hP, hN])
    | (with_reducible refine WP.draw (hn := []) (by rw [hP]; kernel_rfl) (by kernel_rfl) ?_; simp -implicitDefEqProofs [hP, hN]; (try refine ⟨by kernel_rfl, ?_⟩))
    | (with_reducible refine xB_split (by simp) (fun hgd => ?_) (fun hgd => ?_) <;> first | (exfalso; simp at hgd; done) | (exfalso; simp at hgd; omega) | simp -implicitDefEqProofs [hP, hN])
    | (with_reducible refine yB_split (by simp) (fun hgd => ?_) (fun hgd => ?_) <;> first | (exfalso; simp at hgd; done) | (exfalso; simp at hgd; omega) | (simp -implicitDefEqProofs [hP, hN] <;> (try refine ⟨by kernel_rfl, ?_⟩)))
    | (with_reducible refine xC_intro (ce) ?_; simp -implicitDefEqProofs [hP, hN])
    | (with_reducible refine yC_intro (ce) ?_; simp -implicitDefEqProofs [hP, hN]; (try refine ⟨by kernel_rfl, ?_⟩))
    | with_reducible refine xTwo_intro ?_ ?_
    | (with_reducible refine WP.cond' ?_; simp -implicitDefEqProofs [hP, hN])
    | (with_reducible refine xCond_split (fun hcd => ?_) (fun hcd => ?_) <;> (try (exfalso; clear hP hN; simp_all; done)) <;> (try (exfalso; simp at *; omega)))
    | with_reducible refine WP.block ?_
    | (with_reducible refine WP.skip ?_; simp)
    | (with_reducible refine WP.exit ?_; simp)
    | (with_reducible refine WP.ret ?_; simp))
  all_goals (simp_all [zeroB])
theorem d118 (v : Verd) : DetH Try.prog 118 [.pv (encVd v)] [] [] (.pv (B (zeroB v))) := by
  have ce := d165 v.pair v.left v.right
  generalize hE : emptyW v.pair v.left v.right = E at ce
  refine detP_of Try.func118 rfl (by kernel_rfl) (by simp [Try.f118]) rfl ?_
  intro C hP hN
  simp only [Try.f118] at hN ⊢
  repeat' (first
    | with_reducible refine WP.seq ?_
    | (with_reducible refine WP.region (hn := []) ?_; simp -implicitDefEqProofs [hP, hN])
    | (with_reducible refine WP.draw (hn := []) (by rw [hP]; kernel_rfl) (by kernel_rfl) ?_; simp -implicitDefEqProofs [hP, hN]; (try refine ⟨by kernel_rfl, ?_⟩))
    | (with_reducible refine xB_split (by simp) (fun hgd => ?_) (fun hgd => ?_) <;> first | (exfalso; simp at hgd; done) | (exfalso; simp at hgd; omega) | simp -implicitDefEqProofs [hP, hN])
    | (with_reducible refine yB_split (by simp) (fun hgd => ?_) (fun hgd => ?_) <;> first | (exfalso; simp at hgd; done) | (exfalso; simp at hgd; omega) | (simp -implicitDefEqProofs [hP, hN] <;> (try refine ⟨by kernel_rfl, ?_⟩)))
    | (with_reducible refine xC_intro (ce) ?_; simp -implicitDefEqProofs [hP, hN])
    | (with_reducible refine yC_intro (ce) ?_; simp -implicitDefEqProofs [hP, hN]; (try refine ⟨by kernel_rfl, ?_⟩))
    | with_reducible refine xTwo_intro ?_ ?_
    | (with_reducible refine WP.cond' ?_; simp -implicitDefEqProofs [hP, hN])
    | (with_reducible refine xCond_split (fun hcd => ?_) (fun hcd => ?_) <;> (try (exfalso; clear hP hN; simp_all; done)) <;> (try (exfalso; simp at *; omega)))
    | with_reducible refine WP.block ?_
    | (with_reducible refine WP.skip ?_; simp)
    | (with_reducible refine WP.exit ?_; simp)
    | (with_reducible refine WP.ret ?_; simp))
  all_goals (simp_all [zeroB])
def rootOk (r : List (Int × Int)) : Bool := decide (1 ≤ r.length) && decide (r.length ≤ 10) && allB vI r
set_option maxHeartbeats 2000000 in
theorem d146 (r : List (Int × Int)) : DetH Try.prog 146 [.pv (iv r)] [] [] (.pv (B (rootOk r))) := by
  by_cases h1 : r.length < 1
  · have hr : rootOk r = false := by simp [rootOk]; omega
    have h1' : (r.length : Int) < 1 := by omega
    rw [hr]
    refine detP_of Try.func146 rfl (by kernel_rfl) (by simp [Try.f146]) rfl ?_
    intro C hP hN
    simp only [Try.f146] at hN ⊢
    repeat' (first
      | with_reducible refine WP.seq ?_
      | (with_reducible refine WP.region (hn := []) ?_; simp -implicitDefEqProofs [hP, hN, h1', h1])
      | (with_reducible refine WP.draw (hn := []) (by rw [hP]; kernel_rfl) (by kernel_rfl) ?_; simp -implicitDefEqProofs [hP, hN, h1', h1]; (try refine ⟨by kernel_rfl, ?_⟩))
      | (with_reducible refine xB_split (by simp [h1', h1]) (fun hgd => ?_) (fun hgd => ?_) <;> first | (exfalso; simp at hgd; done) | (exfalso; simp at hgd; omega) | simp -implicitDefEqProofs [hP, hN, h1', h1])
      | (with_reducible refine yB_split (by simp [h1', h1]) (fun hgd => ?_) (fun hgd => ?_) <;> first | (exfalso; simp at hgd; done) | (exfalso; simp at hgd; omega) | (simp -implicitDefEqProofs [hP, hN, h1', h1] <;> (try refine ⟨by kernel_rfl, ?_⟩)))
      | with_reducible refine xTwo_intro ?_ ?_
      | (with_reducible refine WP.cond' ?_; simp -implicitDefEqProofs [hP, hN, h1', h1])
      | (with_reducible refine xCond_split (fun hcd => ?_) (fun hcd => ?_) <;> (try (exfalso; clear hP hN; simp_all; done)) <;> (try (exfalso; simp at *; omega)))
      | with_reducible refine WP.block ?_
      | (with_reducible refine WP.skip ?_; simp [h1', h1])
      | (with_reducible refine WP.exit ?_; simp [h1', h1])
      | (with_reducible refine WP.ret ?_; simp [h1', h1]))
  have h1' : ¬ (r.length : Int) < 1 := by omega
  by_cases h2 : 10 < r.length
  · have hr : rootOk r = false := by simp [rootOk]; omega
    have h2' : (10 : Int) < r.length := by omega
    rw [hr]
    refine detP_of Try.func146 rfl (by kernel_rfl) (by simp [Try.f146]) rfl ?_
    intro C hP hN
    simp only [Try.f146] at hN ⊢
    repeat' (first
      | with_reducible refine WP.seq ?_
      | (with_reducible refine WP.region (hn := []) ?_; simp -implicitDefEqProofs [hP, hN, h1', h1, h2, h2'])
      | (with_reducible refine WP.draw (hn := []) (by rw [hP]; kernel_rfl) (by kernel_rfl) ?_; simp -implicitDefEqProofs [hP, hN, h1', h1, h2, h2']; (try refine ⟨by kernel_rfl, ?_⟩))
      | (with_reducible refine xB_split (by simp [h1', h1, h2, h2']) (fun hgd => ?_) (fun hgd => ?_) <;> first | (exfalso; simp at hgd; done) | (exfalso; simp at hgd; omega) | simp -implicitDefEqProofs [hP, hN, h1', h1, h2, h2'])
      | (with_reducible refine yB_split (by simp [h1', h1, h2, h2']) (fun hgd => ?_) (fun hgd => ?_) <;> first | (exfalso; simp at hgd; done) | (exfalso; simp at hgd; omega) | (simp -implicitDefEqProofs [hP, hN, h1', h1, h2, h2'] <;> (try refine ⟨by kernel_rfl, ?_⟩)))
      | with_reducible refine xTwo_intro ?_ ?_
      | (with_reducible refine WP.cond' ?_; simp -implicitDefEqProofs [hP, hN, h1', h1, h2, h2'])
      | (with_reducible refine xCond_split (fun hcd => ?_) (fun hcd => ?_) <;> (try (exfalso; clear hP hN; simp_all; done)) <;> (try (exfalso; simp at *; omega)))
      | with_reducible refine WP.block ?_
      | (with_reducible refine WP.skip ?_; simp [h1', h1, h2, h2'])
      | (with_reducible refine WP.exit ?_; simp [h1', h1, h2, h2'])
      | (with_reducible refine WP.ret ?_; simp [h1', h1, h2, h2']))
  have h2' : ¬ (10 : Int) < r.length := by omega
  have hr : rootOk r = allB vI r := by
    unfold rootOk
    have a1 : decide (1 ≤ r.length) = true := by simp; omega
    have a2 : decide (r.length ≤ 10) = true := by simp; omega
    rw [a1, a2]; simp
  rw [hr]
  refine detP_of Try.func146 rfl (by kernel_rfl) (by simp [Try.f146]) rfl ?_
  intro C hP hN
  simp only [Try.f146] at hN ⊢
  repeat' (first
    | with_reducible refine WP.seq ?_
    | (with_reducible refine WP.region (hn := []) ?_; simp -implicitDefEqProofs [hP, hN, h1', h1, h2, h2'])
    | (with_reducible refine WP.draw (hn := []) (by rw [hP]; kernel_rfl) (by kernel_rfl) ?_; simp -implicitDefEqProofs [hP, hN, h1', h1, h2, h2']; (try refine ⟨by kernel_rfl, ?_⟩))
    | (with_reducible refine xB_split (by simp [h1', h1, h2, h2']) (fun hgd => ?_) (fun hgd => ?_) <;> first | (exfalso; simp at hgd; done) | (exfalso; simp at hgd; omega) | simp -implicitDefEqProofs [hP, hN, h1', h1, h2, h2'])
    | (with_reducible refine yB_split (by simp [h1', h1, h2, h2']) (fun hgd => ?_) (fun hgd => ?_) <;> first | (exfalso; simp at hgd; done) | (exfalso; simp at hgd; omega) | (simp -implicitDefEqProofs [hP, hN, h1', h1, h2, h2'] <;> (try refine ⟨by kernel_rfl, ?_⟩)))
    | with_reducible refine xTwo_intro ?_ ?_
    | (with_reducible refine WP.cond' ?_; simp -implicitDefEqProofs [hP, hN, h1', h1, h2, h2'])
    | (with_reducible refine xCond_split (fun hcd => ?_) (fun hcd => ?_) <;> (try (exfalso; clear hP hN; simp_all; done)) <;> (try (exfalso; simp at *; omega)))
    | with_reducible refine WP.block ?_
    | (with_reducible refine WP.skip ?_; simp [h1', h1, h2, h2'])
    | (with_reducible refine WP.exit ?_; simp [h1', h1, h2, h2'])
    | (with_reducible refine WP.ret ?_; simp [h1', h1, h2, h2']))
  refine WP.loopN [4] r.length (fun i st => st.t 13 = .pv (iv r) ∧ st.t 14 = .pv (Z r.length) ∧ st.t 15 = .pv (Z i) ∧ st.h 4 = none ∧ allB vI (r.take i) = true) (by simp [allB]) ?_
  rintro i st hi ⟨g13, g14, g15, hb, hq⟩
  by_cases hlt : i < r.length
  · have hw := wr_succ hlt (by omega)
    have hF : vI r[i] = false → allB vI r = false := all_false hlt
    have hS : vI r[i] = true → allB vI (r.take (i + 1)) = true := all_step hlt hq
    repeat' (first
      | with_reducible refine WP.seq ?_
      | (with_reducible refine WP.region (hn := []) ?_; simp -implicitDefEqProofs [hP, hN, g13, g14, g15, hb, hlt, hw])
      | (with_reducible refine WP.draw (hn := []) (by rw [hP]; kernel_rfl) (by kernel_rfl) ?_; simp -implicitDefEqProofs [hP, hN, g13, g14, g15, hb, hlt, hw]; (try refine ⟨by kernel_rfl, ?_⟩))
      | (with_reducible refine xB_split (by simp [g13, g14, g15, hb, hlt, hw]) (fun hgd => ?_) (fun hgd => ?_) <;> first | (exfalso; simp at hgd; done) | (exfalso; simp at hgd; omega) | simp -implicitDefEqProofs [hP, hN, g13, g14, g15, hb, hlt, hw])
      | (with_reducible refine yB_split (by simp [g13, g14, g15, hb, hlt, hw]) (fun hgd => ?_) (fun hgd => ?_) <;> first | (exfalso; simp at hgd; done) | (exfalso; simp at hgd; omega) | (simp -implicitDefEqProofs [hP, hN, g13, g14, g15, hb, hlt, hw] <;> (try refine ⟨by kernel_rfl, ?_⟩)))
      | (with_reducible refine xC_intro (d179 _ _) ?_; simp -implicitDefEqProofs [hP, hN, g13, g14, g15, hb, hlt, hw])
      | (with_reducible refine yC_intro (d179 _ _) ?_; simp -implicitDefEqProofs [hP, hN, g13, g14, g15, hb, hlt, hw]; (try refine ⟨by kernel_rfl, ?_⟩))
      | with_reducible refine xTwo_intro ?_ ?_
      | (with_reducible refine WP.cond' ?_; simp -implicitDefEqProofs [hP, hN, g13, g14, g15, hb, hlt, hw])
      | (with_reducible refine xCond_split (fun hcd => ?_) (fun hcd => ?_) <;> (try (exfalso; clear hP hN; simp_all; done)) <;> (try (exfalso; simp at *; omega)))
      | with_reducible refine WP.block ?_
      | (with_reducible refine WP.skip ?_; simp [g13, g14, g15, hb, hlt, hw])
      | (with_reducible refine WP.exit ?_; simp [g13, g14, g15, hb, hlt, hw])
      | (with_reducible refine WP.ret ?_; simp [g13, g14, g15, hb, hlt, hw]))
    all_goals first | (rw [hF (by simpa using hcd)]; done) | (simp [hF (by simpa using hcd)]; done) | (simpa using hS (by simpa using hcd))
  · skip
    repeat' (first
      | with_reducible refine WP.seq ?_
      | (with_reducible refine WP.region (hn := []) ?_; simp -implicitDefEqProofs [hP, hN, g13, g14, g15, hb, hlt])
      | (with_reducible refine WP.draw (hn := []) (by rw [hP]; kernel_rfl) (by kernel_rfl) ?_; simp -implicitDefEqProofs [hP, hN, g13, g14, g15, hb, hlt]; (try refine ⟨by kernel_rfl, ?_⟩))
      | (with_reducible refine xB_split (by simp [g13, g14, g15, hb, hlt]) (fun hgd => ?_) (fun hgd => ?_) <;> first | (exfalso; simp at hgd; done) | (exfalso; simp at hgd; omega) | simp -implicitDefEqProofs [hP, hN, g13, g14, g15, hb, hlt])
      | (with_reducible refine yB_split (by simp [g13, g14, g15, hb, hlt]) (fun hgd => ?_) (fun hgd => ?_) <;> first | (exfalso; simp at hgd; done) | (exfalso; simp at hgd; omega) | (simp -implicitDefEqProofs [hP, hN, g13, g14, g15, hb, hlt] <;> (try refine ⟨by kernel_rfl, ?_⟩)))
      | with_reducible refine xTwo_intro ?_ ?_
      | (with_reducible refine WP.cond' ?_; simp -implicitDefEqProofs [hP, hN, g13, g14, g15, hb, hlt])
      | (with_reducible refine xCond_split (fun hcd => ?_) (fun hcd => ?_) <;> (try (exfalso; clear hP hN; simp_all; done)) <;> (try (exfalso; simp at *; omega)))
      | with_reducible refine WP.block ?_
      | (with_reducible refine WP.skip ?_; simp [g13, g14, g15, hb, hlt])
      | (with_reducible refine WP.exit ?_; simp [g13, g14, g15, hb, hlt])
      | (with_reducible refine WP.ret ?_; simp [g13, g14, g15, hb, hlt]))
    all_goals simp [all_done hlt hq]
/-! copies -/
end Go.Ab
