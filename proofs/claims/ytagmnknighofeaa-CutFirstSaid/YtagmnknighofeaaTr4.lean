/- Contracts: the boxes of a tree, the reference's. -/
import Derived.Test.YtagmnknighofeaaTr3
import Derived.Test.YtagmnknighofeaaCfB
set_option linter.all false
namespace Go.Ab
open Go.Proofs
def lenN (x : AV) (fb : Option Eff) : Option Eff := match x with
  | .pv (.val (.slice none 0 0)) => some (.pv (Z 0), [])
  | _ => fb
@[simp] theorem lenN_some (fb : Option Eff) : lenN (.pv (.val (.slice none 0 0))) fb = some (.pv (Z 0), []) := rfl
theorem lenNil0A {dst : Option Nat} {ty : TypeId} {pos : String} {aft : Array Edge} {g : Option (Nat × Bool)} (x : Operand) :
    evPure Try.prog ⟨dst, .call ⟨.builtin .len, #[x], #[22]⟩, ty, pos, aft, g⟩ (fun _ => .pv (.val (.slice none 0 0))) = some (.pv (Z 0), []) := by kernel_rfl
@[simp] theorem lenNilA {dst : Option Nat} {ty : TypeId} {pos : String} {aft : Array Edge} {g : Option (Nat × Bool)} {ρ : Operand → AV} (x : Operand) :
    evPure Try.prog ⟨dst, .call ⟨.builtin .len, #[x], #[22]⟩, ty, pos, aft, g⟩ ρ = lenN (ρ x) (evPureX Try.prog ⟨dst, .call ⟨.builtin .len, #[x], #[22]⟩, ty, pos, aft, g⟩ ρ) := by
  unfold lenN
  split
  · rename_i hs
    rw [← lenNil0A (dst := dst) (ty := ty) (pos := pos) (aft := aft) (g := g) x]
    refine evPure_congr (by intro _ _ h; cases h) ?_
    intro y hy
    simp [Op.operands, Call.operands] at hy
    subst hy; exact hs
  · rfl
set_option maxHeartbeats 16000000 in
set_option maxRecDepth 100000 in
theorem d52 (t : Tr) (hl : t.cells.length ≤ 9223372036854775807) : DetH Try.prog 52 [.pv (encT t)] [] [] (.pv (.tup [.sl ((boxesL t).map iv), B (validT t)])) := by
  cases hs : sizeOk t with
  | false =>
    have hno := not_valid (t := t) (by simp [boxesO, hs])
    rw [hno.1, hno.2]
    by_cases q1 : t.root.length < 1
    · have q1' : (t.root.length : Int) < 1 := by omega
      refine detP_of Try.func52 rfl (by kernel_rfl) (by simp [Try.f52]) rfl ?_
      intro C hP hN
      simp only [Try.f52] at hN ⊢
      repeat' (first
        | with_reducible refine WP.seq ?_
        | (with_reducible ((first | refine WP.region (hn := []) ?_ | refine WP.cond' ?_); simp -implicitDefEqProofs (maxSteps := 2000000) [hP, hN, q1', q1]))
        | (with_reducible ((first | refine WP.draw (hn := []) (by rw [hP]; kernel_rfl) (by kernel_rfl) ?_); simp -implicitDefEqProofs (maxSteps := 2000000) [hP, hN, q1', q1]; (try refine ⟨by kernel_rfl, ?_⟩)))
        | (with_reducible refine xB_split (by simp [q1', q1]) (fun hgd => ?_) (fun hgd => ?_) <;> first | (exfalso; simp at hgd; done) | (exfalso; simp at hgd; omega) | simp -implicitDefEqProofs (maxSteps := 2000000) [hP, hN, q1', q1])
        | (with_reducible refine yB_split (by simp [q1', q1]) (fun hgd => ?_) (fun hgd => ?_) <;> first | (exfalso; simp at hgd; done) | (exfalso; simp at hgd; omega) | (simp -implicitDefEqProofs (maxSteps := 2000000) [hP, hN, q1', q1] <;> (try refine ⟨by kernel_rfl, ?_⟩)))
        | with_reducible refine xTwo_intro ?_ ?_
        | (with_reducible refine xCond_split (fun hcd => ?_) (fun hcd => ?_) <;> (try (exfalso; clear hP hN; simp_all; done)) <;> (try (exfalso; simp at *; omega)))
        | with_reducible refine WP.block ?_
        | (with_reducible ((first | refine WP.skip ?_ | refine WP.exit ?_ | refine WP.ret ?_); simp [q1', q1])))
    have q1' : ¬ (t.root.length : Int) < 1 := by omega
    by_cases q2 : 10 < t.root.length
    · have q2' : (10 : Int) < t.root.length := by omega
      refine detP_of Try.func52 rfl (by kernel_rfl) (by simp [Try.f52]) rfl ?_
      intro C hP hN
      simp only [Try.f52] at hN ⊢
      repeat' (first
        | with_reducible refine WP.seq ?_
        | (with_reducible ((first | refine WP.region (hn := []) ?_ | refine WP.cond' ?_); simp -implicitDefEqProofs (maxSteps := 2000000) [hP, hN, q1', q1, q2', q2]))
        | (with_reducible ((first | refine WP.draw (hn := []) (by rw [hP]; kernel_rfl) (by kernel_rfl) ?_); simp -implicitDefEqProofs (maxSteps := 2000000) [hP, hN, q1', q1, q2', q2]; (try refine ⟨by kernel_rfl, ?_⟩)))
        | (with_reducible refine xB_split (by simp [q1', q1, q2', q2]) (fun hgd => ?_) (fun hgd => ?_) <;> first | (exfalso; simp at hgd; done) | (exfalso; simp at hgd; omega) | simp -implicitDefEqProofs (maxSteps := 2000000) [hP, hN, q1', q1, q2', q2])
        | (with_reducible refine yB_split (by simp [q1', q1, q2', q2]) (fun hgd => ?_) (fun hgd => ?_) <;> first | (exfalso; simp at hgd; done) | (exfalso; simp at hgd; omega) | (simp -implicitDefEqProofs (maxSteps := 2000000) [hP, hN, q1', q1, q2', q2] <;> (try refine ⟨by kernel_rfl, ?_⟩)))
        | with_reducible refine xTwo_intro ?_ ?_
        | (with_reducible refine xCond_split (fun hcd => ?_) (fun hcd => ?_) <;> (try (exfalso; clear hP hN; simp_all; done)) <;> (try (exfalso; simp at *; omega)))
        | with_reducible refine WP.block ?_
        | (with_reducible ((first | refine WP.skip ?_ | refine WP.exit ?_ | refine WP.ret ?_); simp [q1', q1, q2', q2])))
    have q2' : ¬ (10 : Int) < t.root.length := by omega
    by_cases h1 : t.cells.length < 1
    · have h1' : (t.cells.length : Int) < 1 := by omega
      refine detP_of Try.func52 rfl (by kernel_rfl) (by simp [Try.f52]) rfl ?_
      intro C hP hN
      simp only [Try.f52] at hN ⊢
      repeat' (first
        | with_reducible refine WP.seq ?_
        | (with_reducible ((first | refine WP.region (hn := []) ?_ | refine WP.cond' ?_); simp -implicitDefEqProofs (maxSteps := 2000000) [hP, hN, q1', q1, q2', q2, h1', h1]))
        | (with_reducible ((first | refine WP.draw (hn := []) (by rw [hP]; kernel_rfl) (by kernel_rfl) ?_); simp -implicitDefEqProofs (maxSteps := 2000000) [hP, hN, q1', q1, q2', q2, h1', h1]; (try refine ⟨by kernel_rfl, ?_⟩)))
        | (with_reducible refine xB_split (by simp [q1', q1, q2', q2, h1', h1]) (fun hgd => ?_) (fun hgd => ?_) <;> first | (exfalso; simp at hgd; done) | (exfalso; simp at hgd; omega) | simp -implicitDefEqProofs (maxSteps := 2000000) [hP, hN, q1', q1, q2', q2, h1', h1])
        | (with_reducible refine yB_split (by simp [q1', q1, q2', q2, h1', h1]) (fun hgd => ?_) (fun hgd => ?_) <;> first | (exfalso; simp at hgd; done) | (exfalso; simp at hgd; omega) | (simp -implicitDefEqProofs (maxSteps := 2000000) [hP, hN, q1', q1, q2', q2, h1', h1] <;> (try refine ⟨by kernel_rfl, ?_⟩)))
        | with_reducible refine xTwo_intro ?_ ?_
        | (with_reducible refine xCond_split (fun hcd => ?_) (fun hcd => ?_) <;> (try (exfalso; clear hP hN; simp_all; done)) <;> (try (exfalso; simp at *; omega)))
        | with_reducible refine WP.block ?_
        | (with_reducible ((first | refine WP.skip ?_ | refine WP.exit ?_ | refine WP.ret ?_); simp [q1', q1, q2', q2, h1', h1])))
    have h1' : ¬ (t.cells.length : Int) < 1 := by omega
    by_cases h2 : 2048 < t.cells.length
    · have h2' : (2048 : Int) < t.cells.length := by omega
      refine detP_of Try.func52 rfl (by kernel_rfl) (by simp [Try.f52]) rfl ?_
      intro C hP hN
      simp only [Try.f52] at hN ⊢
      repeat' (first
        | with_reducible refine WP.seq ?_
        | (with_reducible ((first | refine WP.region (hn := []) ?_ | refine WP.cond' ?_); simp -implicitDefEqProofs (maxSteps := 2000000) [hP, hN, q1', q1, q2', q2, h1', h1, h2, h2']))
        | (with_reducible ((first | refine WP.draw (hn := []) (by rw [hP]; kernel_rfl) (by kernel_rfl) ?_); simp -implicitDefEqProofs (maxSteps := 2000000) [hP, hN, q1', q1, q2', q2, h1', h1, h2, h2']; (try refine ⟨by kernel_rfl, ?_⟩)))
        | (with_reducible refine xB_split (by simp [q1', q1, q2', q2, h1', h1, h2, h2']) (fun hgd => ?_) (fun hgd => ?_) <;> first | (exfalso; simp at hgd; done) | (exfalso; simp at hgd; omega) | simp -implicitDefEqProofs (maxSteps := 2000000) [hP, hN, q1', q1, q2', q2, h1', h1, h2, h2'])
        | (with_reducible refine yB_split (by simp [q1', q1, q2', q2, h1', h1, h2, h2']) (fun hgd => ?_) (fun hgd => ?_) <;> first | (exfalso; simp at hgd; done) | (exfalso; simp at hgd; omega) | (simp -implicitDefEqProofs (maxSteps := 2000000) [hP, hN, q1', q1, q2', q2, h1', h1, h2, h2'] <;> (try refine ⟨by kernel_rfl, ?_⟩)))
        | with_reducible refine xTwo_intro ?_ ?_
        | (with_reducible refine xCond_split (fun hcd => ?_) (fun hcd => ?_) <;> (try (exfalso; clear hP hN; simp_all; done)) <;> (try (exfalso; simp at *; omega)))
        | with_reducible refine WP.block ?_
        | (with_reducible ((first | refine WP.skip ?_ | refine WP.exit ?_ | refine WP.ret ?_); simp [q1', q1, q2', q2, h1', h1, h2, h2'])))
    have h2' : ¬ (2048 : Int) < t.cells.length := by omega
    have h3 : allB vI t.root = false := by
      cases h : allB vI t.root with
      | false => rfl
      | true => simp [sizeOk, rootOk, h] at hs; omega
    refine detP_of Try.func52 rfl (by kernel_rfl) (by simp [Try.f52]) rfl ?_
    intro C hP hN
    simp only [Try.f52] at hN ⊢
    repeat' (first
      | with_reducible refine WP.seq ?_
      | (with_reducible ((first | refine WP.region (hn := []) ?_ | refine WP.cond' ?_); simp -implicitDefEqProofs (maxSteps := 2000000) [hP, hN, q1', q1, q2', q2, h1', h1, h2, h2']))
      | (with_reducible ((first | refine WP.draw (hn := []) (by rw [hP]; kernel_rfl) (by kernel_rfl) ?_); simp -implicitDefEqProofs (maxSteps := 2000000) [hP, hN, q1', q1, q2', q2, h1', h1, h2, h2']; (try refine ⟨by kernel_rfl, ?_⟩)))
      | (with_reducible refine xB_split (by simp [q1', q1, q2', q2, h1', h1, h2, h2']) (fun hgd => ?_) (fun hgd => ?_) <;> first | (exfalso; simp at hgd; done) | (exfalso; simp at hgd; omega) | simp -implicitDefEqProofs (maxSteps := 2000000) [hP, hN, q1', q1, q2', q2, h1', h1, h2, h2'])
      | (with_reducible refine yB_split (by simp [q1', q1, q2', q2, h1', h1, h2, h2']) (fun hgd => ?_) (fun hgd => ?_) <;> first | (exfalso; simp at hgd; done) | (exfalso; simp at hgd; omega) | (simp -implicitDefEqProofs (maxSteps := 2000000) [hP, hN, q1', q1, q2', q2, h1', h1, h2, h2'] <;> (try refine ⟨by kernel_rfl, ?_⟩)))
      | with_reducible refine xTwo_intro ?_ ?_
      | (with_reducible refine xCond_split (fun hcd => ?_) (fun hcd => ?_) <;> (try (exfalso; clear hP hN; simp_all; done)) <;> (try (exfalso; simp at *; omega)))
      | with_reducible refine WP.block ?_
      | (with_reducible ((first | refine WP.skip ?_ | refine WP.exit ?_ | refine WP.ret ?_); simp [q1', q1, q2', q2, h1', h1, h2, h2'])))
    refine WP.loopN [] t.root.length (fun i st => st.t 1 = .ptr 1 0 ∧ st.t 5 = .pv (Z i) ∧ st.h 1 = some (.box [.pv (iv t.root), .pv (.sl (t.cells.map encC))] true false) ∧ allB vI (t.root.take i) = true) (by simp [allB]) ?_
    rintro i st hi ⟨g1, g5, hb, hq⟩
    by_cases hlt : i < t.root.length
    · have hw := wr_succ hlt (by omega)
      have hS : vI t.root[i] = true → allB vI (t.root.take (i + 1)) = true := all_step hlt hq
      repeat' (first
        | with_reducible refine WP.seq ?_
        | (with_reducible ((first | refine WP.region (hn := []) ?_ | refine xC_intro (d115 _ _) ?_ | refine WP.cond' ?_); simp -implicitDefEqProofs (maxSteps := 2000000) [hP, hN, g1, g5, hb, hlt, hw]))
        | (with_reducible ((first | refine WP.draw (hn := []) (by rw [hP]; kernel_rfl) (by kernel_rfl) ?_ | refine yC_intro (d115 _ _) ?_); simp -implicitDefEqProofs (maxSteps := 2000000) [hP, hN, g1, g5, hb, hlt, hw]; (try refine ⟨by kernel_rfl, ?_⟩)))
        | (with_reducible refine xB_split (by simp [g1, g5, hb, hlt, hw]) (fun hgd => ?_) (fun hgd => ?_) <;> first | (exfalso; simp at hgd; done) | (exfalso; simp at hgd; omega) | simp -implicitDefEqProofs (maxSteps := 2000000) [hP, hN, g1, g5, hb, hlt, hw])
        | (with_reducible refine yB_split (by simp [g1, g5, hb, hlt, hw]) (fun hgd => ?_) (fun hgd => ?_) <;> first | (exfalso; simp at hgd; done) | (exfalso; simp at hgd; omega) | (simp -implicitDefEqProofs (maxSteps := 2000000) [hP, hN, g1, g5, hb, hlt, hw] <;> (try refine ⟨by kernel_rfl, ?_⟩)))
        | with_reducible refine xTwo_intro ?_ ?_
        | (with_reducible refine xCond_split (fun hcd => ?_) (fun hcd => ?_) <;> (try (exfalso; clear hP hN; simp_all; done)) <;> (try (exfalso; simp at *; omega)))
        | with_reducible refine WP.block ?_
        | (with_reducible ((first | refine WP.skip ?_ | refine WP.exit ?_ | refine WP.ret ?_); simp [g1, g5, hb, hlt, hw])))
      all_goals (exact hS (by simpa using hcd))
    · have := all_done hlt hq
      rw [h3] at this; cases this
  | true =>
    obtain ⟨z1, z2, z3, z4, z5⟩ := sizeOk_iff.1 hs
    have q1 : ¬ t.root.length < 1 := by omega
    have q2 : ¬ 10 < t.root.length := by omega
    have q1' : ¬ (t.root.length : Int) < 1 := by omega
    have q2' : ¬ (10 : Int) < t.root.length := by omega
    have h1 : ¬ t.cells.length < 1 := by omega
    have h2 : ¬ 2048 < t.cells.length := by omega
    have h1' : ¬ (t.cells.length : Int) < 1 := by omega
    have h2' : ¬ (2048 : Int) < t.cells.length := by omega
    have hin := init_row z1
    refine detP_of Try.func52 rfl (by kernel_rfl) (by simp [Try.f52]) rfl ?_
    intro C hP hN
    simp only [Try.f52] at hN ⊢
    repeat' (first
      | with_reducible refine WP.seq ?_
      | (with_reducible ((first | refine WP.region (hn := []) ?_ | refine WP.cond' ?_); simp -implicitDefEqProofs (maxSteps := 2000000) [hP, hN, q1', q1, q2', q2, h1', h1, h2, h2']))
      | (with_reducible ((first | refine WP.draw (hn := []) (by rw [hP]; kernel_rfl) (by kernel_rfl) ?_); simp -implicitDefEqProofs (maxSteps := 2000000) [hP, hN, q1', q1, q2', q2, h1', h1, h2, h2']; (try refine ⟨by kernel_rfl, ?_⟩)))
      | (with_reducible refine xB_split (by simp [q1', q1, q2', q2, h1', h1, h2, h2']) (fun hgd => ?_) (fun hgd => ?_) <;> first | (exfalso; simp at hgd; done) | (exfalso; simp at hgd; omega) | simp -implicitDefEqProofs (maxSteps := 2000000) [hP, hN, q1', q1, q2', q2, h1', h1, h2, h2'])
      | (with_reducible refine yB_split (by simp [q1', q1, q2', q2, h1', h1, h2, h2']) (fun hgd => ?_) (fun hgd => ?_) <;> first | (exfalso; simp at hgd; done) | (exfalso; simp at hgd; omega) | (simp -implicitDefEqProofs (maxSteps := 2000000) [hP, hN, q1', q1, q2', q2, h1', h1, h2, h2'] <;> (try refine ⟨by kernel_rfl, ?_⟩)))
      | with_reducible refine xTwo_intro ?_ ?_
      | (with_reducible refine xCond_split (fun hcd => ?_) (fun hcd => ?_) <;> (try (exfalso; clear hP hN; simp_all; done)) <;> (try (exfalso; simp at *; omega)))
      | with_reducible refine WP.block ?_
      | (with_reducible ((first | refine WP.skip ?_ | refine WP.exit ?_ | refine WP.ret ?_); simp [q1', q1, q2', q2, h1', h1, h2, h2'])))
    refine WP.loopN [] t.root.length (fun i st => st.t 1 = .ptr 1 0 ∧ st.t 4 = .pv (Z t.cells.length) ∧ st.t 5 = .pv (Z i) ∧ st.h 1 = some (.box [.pv (iv t.root), .pv (.sl (t.cells.map encC))] true false) ∧ st.h 48 = none ∧ st.h 8 = none) (by simp) ?_
    rintro i st hi ⟨g1, g4, g5, hb, hb48, hb8⟩
    by_cases hlt : i < t.root.length
    · have hw := wr_succ hlt (by omega)
      have hv : validB t.root[i].1 t.root[i].2 = true := allV_iff.1 z5 _ (List.getElem_mem hlt)
      have cv := d115 t.root[i].1 t.root[i].2
      rw [hv] at cv
      repeat' (first
        | with_reducible refine WP.seq ?_
        | (with_reducible ((first | refine WP.region (hn := []) ?_ | refine xC_intro (cv) ?_ | refine WP.cond' ?_); simp -implicitDefEqProofs (maxSteps := 2000000) [hP, hN, g1, g4, g5, hb, hb48, hb8, hlt, hw]))
        | (with_reducible ((first | refine WP.draw (hn := []) (by rw [hP]; kernel_rfl) (by kernel_rfl) ?_ | refine yC_intro (cv) ?_); simp -implicitDefEqProofs (maxSteps := 2000000) [hP, hN, g1, g4, g5, hb, hb48, hb8, hlt, hw]; (try refine ⟨by kernel_rfl, ?_⟩)))
        | (with_reducible refine xB_split (by simp [g1, g4, g5, hb, hb48, hb8, hlt, hw]) (fun hgd => ?_) (fun hgd => ?_) <;> first | (exfalso; simp at hgd; done) | (exfalso; simp at hgd; omega) | simp -implicitDefEqProofs (maxSteps := 2000000) [hP, hN, g1, g4, g5, hb, hb48, hb8, hlt, hw])
        | (with_reducible refine yB_split (by simp [g1, g4, g5, hb, hb48, hb8, hlt, hw]) (fun hgd => ?_) (fun hgd => ?_) <;> first | (exfalso; simp at hgd; done) | (exfalso; simp at hgd; omega) | (simp -implicitDefEqProofs (maxSteps := 2000000) [hP, hN, g1, g4, g5, hb, hb48, hb8, hlt, hw] <;> (try refine ⟨by kernel_rfl, ?_⟩)))
        | with_reducible refine xTwo_intro ?_ ?_
        | (with_reducible refine xCond_split (fun hcd => ?_) (fun hcd => ?_) <;> (try (exfalso; clear hP hN; simp_all; done)) <;> (try (exfalso; simp at *; omega)))
        | with_reducible refine WP.block ?_
        | (with_reducible ((first | refine WP.skip ?_ | refine WP.exit ?_ | refine WP.ret ?_); simp [g1, g4, g5, hb, hb48, hb8, hlt, hw])))
    repeat' (first
      | with_reducible refine WP.seq ?_
      | (with_reducible ((first | refine WP.region (hn := []) ?_ | refine WP.cond' ?_); simp -implicitDefEqProofs (maxSteps := 2000000) [hP, hN, g1, g4, g5, hb, hb48, hb8, hlt, hin, show (24 : Int) * t.cells.length ≤ 281474976710656 by omega, show (t.cells.length : Int) ≤ 9223372036854775807 by omega, show 0 < t.cells.length by omega]))
      | (with_reducible ((first | refine WP.draw (hn := []) (by rw [hP]; kernel_rfl) (by kernel_rfl) ?_); simp -implicitDefEqProofs (maxSteps := 2000000) [hP, hN, g1, g4, g5, hb, hb48, hb8, hlt, hin, show (24 : Int) * t.cells.length ≤ 281474976710656 by omega, show (t.cells.length : Int) ≤ 9223372036854775807 by omega, show 0 < t.cells.length by omega]; (try refine ⟨by kernel_rfl, ?_⟩)))
      | (with_reducible refine xB_split (by simp [g1, g4, g5, hb, hb48, hb8, hlt, hin, show (24 : Int) * t.cells.length ≤ 281474976710656 by omega, show (t.cells.length : Int) ≤ 9223372036854775807 by omega, show 0 < t.cells.length by omega]) (fun hgd => ?_) (fun hgd => ?_) <;> first | (exfalso; simp at hgd; done) | (exfalso; simp at hgd; omega) | simp -implicitDefEqProofs (maxSteps := 2000000) [hP, hN, g1, g4, g5, hb, hb48, hb8, hlt, hin, show (24 : Int) * t.cells.length ≤ 281474976710656 by omega, show (t.cells.length : Int) ≤ 9223372036854775807 by omega, show 0 < t.cells.length by omega])
      | (with_reducible refine yB_split (by simp [g1, g4, g5, hb, hb48, hb8, hlt, hin, show (24 : Int) * t.cells.length ≤ 281474976710656 by omega, show (t.cells.length : Int) ≤ 9223372036854775807 by omega, show 0 < t.cells.length by omega]) (fun hgd => ?_) (fun hgd => ?_) <;> first | (exfalso; simp at hgd; done) | (exfalso; simp at hgd; omega) | (simp -implicitDefEqProofs (maxSteps := 2000000) [hP, hN, g1, g4, g5, hb, hb48, hb8, hlt, hin, show (24 : Int) * t.cells.length ≤ 281474976710656 by omega, show (t.cells.length : Int) ≤ 9223372036854775807 by omega, show 0 < t.cells.length by omega] <;> (try refine ⟨by kernel_rfl, ?_⟩)))
      | with_reducible refine xTwo_intro ?_ ?_
      | (with_reducible refine xCond_split (fun hcd => ?_) (fun hcd => ?_) <;> (try (exfalso; clear hP hN; simp_all; done)) <;> (try (exfalso; simp at *; omega)))
      | with_reducible refine WP.block ?_
      | (with_reducible ((first | refine WP.skip ?_ | refine WP.exit ?_ | refine WP.ret ?_); simp [g1, g4, g5, hb, hb48, hb8, hlt, hin, show (24 : Int) * t.cells.length ≤ 281474976710656 by omega, show (t.cells.length : Int) ≤ 9223372036854775807 by omega, show 0 < t.cells.length by omega])))
    refine WP.loopN [8] t.cells.length (fun i st => ∃ L, BInv t i L ∧ st.t 1 = .ptr 1 0 ∧ st.t 4 = .pv (Z t.cells.length) ∧ st.t 6 = .arr 48 t.cells.length ∧ st.t 7 = .pv (Z i) ∧ st.h 1 = some (.box [.pv (iv t.root), .pv (.sl (t.cells.map encC))] true false) ∧ st.h 8 = none ∧ st.h 48 = some (.row 22 1 (L.map encO) 0)) (by exact ⟨bInit t, binv_init hs, by simp [g1, g4, g5, hb, hb48, hb8, hin]⟩) ?_
    rintro i st hi ⟨L, hB, g1, g4, g6, g7, hb1', hb8, hb48⟩
    have hLl := hB.bok.len
    by_cases hlt : i < t.cells.length
    · have hw := wr_succ hlt hl
      have hlL : i < L.length := by omega
      generalize hc : t.cells[i] = c at *
      have hci : t.cells[i]? = some c := by rw [List.getElem?_eq_getElem hlt, hc]
      have bad : bStep t.cells.length i c L = none → validT t = false ∧ boxesL t = [] := fun h => not_valid (binv_none hB hlt (by rw [hc]; exact h))
      have cl := d116 c
      have cf := d117 c.v
      have cz := d118 c.v
      cases hx : L[i]? with
      | none => rw [List.getElem?_eq_getElem hlL] at hx; cases hx
      | some x =>
      cases x with
      | none =>
        have hx' := get_of hx hlL
        obtain ⟨e1, e2⟩ := bad (by simp [bStep, hx])
        rw [e1, e2]
        repeat' (first
          | with_reducible refine WP.seq ?_
          | (with_reducible ((first | refine WP.region (hn := []) ?_ | refine WP.cond' ?_); simp -implicitDefEqProofs (maxSteps := 2000000) [hP, hN, g1, g4, g6, g7, hb1', hb8, hb48, hlt, hw, hx, hx', encO_none, encO_some, hci, hc, hLl]))
          | (with_reducible ((first | refine WP.draw (hn := []) (by rw [hP]; kernel_rfl) (by kernel_rfl) ?_); simp -implicitDefEqProofs (maxSteps := 2000000) [hP, hN, g1, g4, g6, g7, hb1', hb8, hb48, hlt, hw, hx, hx', encO_none, encO_some, hci, hc, hLl]; (try refine ⟨by kernel_rfl, ?_⟩)))
          | (with_reducible refine xB_split (by simp [g1, g4, g6, g7, hb1', hb8, hb48, hlt, hw, hx, hx', encO_none, encO_some, hci, hc, hLl]) (fun hgd => ?_) (fun hgd => ?_) <;> first | (exfalso; simp at hgd; done) | (exfalso; simp at hgd; omega) | simp -implicitDefEqProofs (maxSteps := 2000000) [hP, hN, g1, g4, g6, g7, hb1', hb8, hb48, hlt, hw, hx, hx', encO_none, encO_some, hci, hc, hLl])
          | (with_reducible refine yB_split (by simp [g1, g4, g6, g7, hb1', hb8, hb48, hlt, hw, hx, hx', encO_none, encO_some, hci, hc, hLl]) (fun hgd => ?_) (fun hgd => ?_) <;> first | (exfalso; simp at hgd; done) | (exfalso; simp at hgd; omega) | (simp -implicitDefEqProofs (maxSteps := 2000000) [hP, hN, g1, g4, g6, g7, hb1', hb8, hb48, hlt, hw, hx, hx', encO_none, encO_some, hci, hc, hLl] <;> (try refine ⟨by kernel_rfl, ?_⟩)))
          | with_reducible refine xTwo_intro ?_ ?_
          | (with_reducible refine xCond_split (fun hcd => ?_) (fun hcd => ?_) <;> (try (exfalso; clear hP hN; simp_all; done)) <;> (try (exfalso; simp at *; omega)))
          | with_reducible refine WP.block ?_
          | (with_reducible ((first | refine WP.skip ?_ | refine WP.exit ?_ | refine WP.ret ?_); simp [g1, g4, g6, g7, hb1', hb8, hb48, hlt, hw, hx, hx', encO_none, encO_some, hci, hc, hLl])))
      | some b =>
      have hx' := get_of hx hlL
      obtain ⟨hbl, hbv⟩ := hB.bok.ok i b hx
      have hb2 : b ≠ [] := by intro h; rw [h] at hbl; simp at hbl; omega
      have hb1 : ((b.length : Int) == 0) = false := by simp [hb2]
      cases hlf : leafB c with
      | true =>
        rw [hlf] at cl
        cases hf : inFormB c.v with
        | true =>
          rw [hf] at cf
          have hnx := binv_step (L' := L) hB hlt (by rw [hc, step_leaf (t := t) hx hlf, hf]; rfl)
          repeat' (first
            | with_reducible refine WP.seq ?_
            | (with_reducible ((first | refine WP.region (hn := []) ?_ | refine xC_intro (cl) ?_ | refine xC_intro (cf) ?_ | refine WP.cond' ?_); simp -implicitDefEqProofs (maxSteps := 2000000) [hP, hN, g1, g4, g6, g7, hb1', hb8, hb48, hlt, hw, hx, hx', encO_none, encO_some, hci, hc, hLl, hb1, hb2]))
            | (with_reducible ((first | refine WP.draw (hn := []) (by rw [hP]; kernel_rfl) (by kernel_rfl) ?_ | refine yC_intro (cl) ?_ | refine yC_intro (cf) ?_); simp -implicitDefEqProofs (maxSteps := 2000000) [hP, hN, g1, g4, g6, g7, hb1', hb8, hb48, hlt, hw, hx, hx', encO_none, encO_some, hci, hc, hLl, hb1, hb2]; (try refine ⟨by kernel_rfl, ?_⟩)))
            | (with_reducible refine xB_split (by simp [g1, g4, g6, g7, hb1', hb8, hb48, hlt, hw, hx, hx', encO_none, encO_some, hci, hc, hLl, hb1, hb2]) (fun hgd => ?_) (fun hgd => ?_) <;> first | (exfalso; simp at hgd; done) | (exfalso; simp at hgd; omega) | simp -implicitDefEqProofs (maxSteps := 2000000) [hP, hN, g1, g4, g6, g7, hb1', hb8, hb48, hlt, hw, hx, hx', encO_none, encO_some, hci, hc, hLl, hb1, hb2])
            | (with_reducible refine yB_split (by simp [g1, g4, g6, g7, hb1', hb8, hb48, hlt, hw, hx, hx', encO_none, encO_some, hci, hc, hLl, hb1, hb2]) (fun hgd => ?_) (fun hgd => ?_) <;> first | (exfalso; simp at hgd; done) | (exfalso; simp at hgd; omega) | (simp -implicitDefEqProofs (maxSteps := 2000000) [hP, hN, g1, g4, g6, g7, hb1', hb8, hb48, hlt, hw, hx, hx', encO_none, encO_some, hci, hc, hLl, hb1, hb2] <;> (try refine ⟨by kernel_rfl, ?_⟩)))
            | with_reducible refine xTwo_intro ?_ ?_
            | (with_reducible refine xCond_split (fun hcd => ?_) (fun hcd => ?_) <;> (try (exfalso; clear hP hN; simp_all; done)) <;> (try (exfalso; simp at *; omega)))
            | with_reducible refine WP.block ?_
            | (with_reducible ((first | refine WP.skip ?_ | refine WP.exit ?_ | refine WP.ret ?_); simp [g1, g4, g6, g7, hb1', hb8, hb48, hlt, hw, hx, hx', encO_none, encO_some, hci, hc, hLl, hb1, hb2])))
          all_goals exact ⟨L, hnx, rfl⟩
        | false =>
          rw [hf] at cf
          obtain ⟨e1, e2⟩ := bad (by rw [step_leaf (t := t) hx hlf, hf]; rfl)
          rw [e1, e2]
          repeat' (first
            | with_reducible refine WP.seq ?_
            | (with_reducible ((first | refine WP.region (hn := []) ?_ | refine xC_intro (cl) ?_ | refine xC_intro (cf) ?_ | refine WP.cond' ?_); simp -implicitDefEqProofs (maxSteps := 2000000) [hP, hN, g1, g4, g6, g7, hb1', hb8, hb48, hlt, hw, hx, hx', encO_none, encO_some, hci, hc, hLl, hb1, hb2]))
            | (with_reducible ((first | refine WP.draw (hn := []) (by rw [hP]; kernel_rfl) (by kernel_rfl) ?_ | refine yC_intro (cl) ?_ | refine yC_intro (cf) ?_); simp -implicitDefEqProofs (maxSteps := 2000000) [hP, hN, g1, g4, g6, g7, hb1', hb8, hb48, hlt, hw, hx, hx', encO_none, encO_some, hci, hc, hLl, hb1, hb2]; (try refine ⟨by kernel_rfl, ?_⟩)))
            | (with_reducible refine xB_split (by simp [g1, g4, g6, g7, hb1', hb8, hb48, hlt, hw, hx, hx', encO_none, encO_some, hci, hc, hLl, hb1, hb2]) (fun hgd => ?_) (fun hgd => ?_) <;> first | (exfalso; simp at hgd; done) | (exfalso; simp at hgd; omega) | simp -implicitDefEqProofs (maxSteps := 2000000) [hP, hN, g1, g4, g6, g7, hb1', hb8, hb48, hlt, hw, hx, hx', encO_none, encO_some, hci, hc, hLl, hb1, hb2])
            | (with_reducible refine yB_split (by simp [g1, g4, g6, g7, hb1', hb8, hb48, hlt, hw, hx, hx', encO_none, encO_some, hci, hc, hLl, hb1, hb2]) (fun hgd => ?_) (fun hgd => ?_) <;> first | (exfalso; simp at hgd; done) | (exfalso; simp at hgd; omega) | (simp -implicitDefEqProofs (maxSteps := 2000000) [hP, hN, g1, g4, g6, g7, hb1', hb8, hb48, hlt, hw, hx, hx', encO_none, encO_some, hci, hc, hLl, hb1, hb2] <;> (try refine ⟨by kernel_rfl, ?_⟩)))
            | with_reducible refine xTwo_intro ?_ ?_
            | (with_reducible refine xCond_split (fun hcd => ?_) (fun hcd => ?_) <;> (try (exfalso; clear hP hN; simp_all; done)) <;> (try (exfalso; simp at *; omega)))
            | with_reducible refine WP.block ?_
            | (with_reducible ((first | refine WP.skip ?_ | refine WP.exit ?_ | refine WP.ret ?_); simp [g1, g4, g6, g7, hb1', hb8, hb48, hlt, hw, hx, hx', encO_none, encO_some, hci, hc, hLl, hb1, hb2])))
      | false =>
        rw [hlf] at cl
        cases hin' : innerB t.cells.length i c with
        | false =>
          obtain ⟨e1, e2⟩ := bad (step_bad hx hlf (.inl hin'))
          rw [e1, e2]
          rcases inner_false hin' with h | h | h | h | h | h
          all_goals try rw [h] at cz
          all_goals
            repeat' (first
              | with_reducible refine WP.seq ?_
              | (with_reducible ((first | refine WP.region (hn := []) ?_ | refine xC_intro (cl) ?_ | refine xC_intro (cz) ?_ | refine WP.cond' ?_); simp -implicitDefEqProofs (maxSteps := 2000000) [hP, hN, g1, g4, g6, g7, hb1', hb8, hb48, hlt, hw, hx, hx', encO_none, encO_some, hci, hc, hLl, hb1, hb2, h]))
              | (with_reducible ((first | refine WP.draw (hn := []) (by rw [hP]; kernel_rfl) (by kernel_rfl) ?_ | refine yC_intro (cl) ?_ | refine yC_intro (cz) ?_); simp -implicitDefEqProofs (maxSteps := 2000000) [hP, hN, g1, g4, g6, g7, hb1', hb8, hb48, hlt, hw, hx, hx', encO_none, encO_some, hci, hc, hLl, hb1, hb2, h]; (try refine ⟨by kernel_rfl, ?_⟩)))
              | (with_reducible refine xB_split (by simp [g1, g4, g6, g7, hb1', hb8, hb48, hlt, hw, hx, hx', encO_none, encO_some, hci, hc, hLl, hb1, hb2, h]) (fun hgd => ?_) (fun hgd => ?_) <;> first | (exfalso; simp at hgd; done) | (exfalso; simp at hgd; omega) | simp -implicitDefEqProofs (maxSteps := 2000000) [hP, hN, g1, g4, g6, g7, hb1', hb8, hb48, hlt, hw, hx, hx', encO_none, encO_some, hci, hc, hLl, hb1, hb2, h])
              | (with_reducible refine yB_split (by simp [g1, g4, g6, g7, hb1', hb8, hb48, hlt, hw, hx, hx', encO_none, encO_some, hci, hc, hLl, hb1, hb2, h]) (fun hgd => ?_) (fun hgd => ?_) <;> first | (exfalso; simp at hgd; done) | (exfalso; simp at hgd; omega) | (simp -implicitDefEqProofs (maxSteps := 2000000) [hP, hN, g1, g4, g6, g7, hb1', hb8, hb48, hlt, hw, hx, hx', encO_none, encO_some, hci, hc, hLl, hb1, hb2, h] <;> (try refine ⟨by kernel_rfl, ?_⟩)))
              | with_reducible refine xTwo_intro ?_ ?_
              | (with_reducible refine xCond_split (fun hcd => ?_) (fun hcd => ?_) <;> (try (exfalso; clear hP hN; simp_all; done)) <;> (try (exfalso; simp at *; omega)))
              | with_reducible refine WP.block ?_
              | (with_reducible ((first | refine WP.skip ?_ | refine WP.exit ?_ | refine WP.ret ?_); simp [g1, g4, g6, g7, hb1', hb8, hb48, hlt, hw, hx, hx', encO_none, encO_some, hci, hc, hLl, hb1, hb2, h])))
        | true =>
          obtain ⟨i1, i2, i3, i4, i5, i6⟩ := innerB_iff.1 hin'
          rw [i6] at cz
          have ch := d119 b c.joint (by omega)
          have j1 : ¬ c.low ≤ i := by omega
          have j2 : ¬ (t.cells.length : Int) ≤ c.low := by omega
          have j3 : ¬ c.high ≤ i := by omega
          have j4 : ¬ (t.cells.length : Int) ≤ c.high := by omega
          have k1 : c.low.toNat < t.cells.length := by omega
          have k2 : c.high.toNat < t.cells.length := by omega
          have k3 : 0 ≤ c.low := by omega
          have k4 : 0 ≤ c.high := by omega
          have k5 : c.low.toNat < L.length := by omega
          have k6 : c.high.toNat < L.length := by omega
          cases hh : halveOk b c.joint with
          | false =>
            obtain ⟨e1, e2⟩ := bad (step_bad hx hlf (.inr (.inl hh)))
            rw [e1, e2]
            rw [hh] at ch
            cases ha : L[c.low.toNat]? with
            | none => rw [List.getElem?_eq_getElem k5] at ha; cases ha
            | some xa =>
            have ha' := get_of ha k5
            cases hz : L[c.high.toNat]? with
            | none => rw [List.getElem?_eq_getElem k6] at hz; cases hz
            | some xz =>
            have hz' := get_of hz k6
            rcases xa with _ | d
            · rcases xz with _ | d'
              · skip
                repeat' (first
                  | with_reducible refine WP.seq ?_
                  | (with_reducible ((first | refine WP.region (hn := []) ?_ | refine xC_intro (cl) ?_ | refine xC_intro (cz) ?_ | refine xC_intro (ch) ?_ | refine WP.cond' ?_); simp -implicitDefEqProofs (maxSteps := 2000000) [hP, hN, g1, g4, g6, g7, hb1', hb8, hb48, hlt, hw, hx, hx', encO_none, encO_some, hci, hc, hLl, hb1, hb2, j1, j2, j3, j4, i5, k1, k2, k3, k4, ha, ha', hz, hz']))
                  | (with_reducible ((first | refine WP.draw (hn := []) (by rw [hP]; kernel_rfl) (by kernel_rfl) ?_ | refine yC_intro (cl) ?_ | refine yC_intro (cz) ?_ | refine yC_intro (ch) ?_); simp -implicitDefEqProofs (maxSteps := 2000000) [hP, hN, g1, g4, g6, g7, hb1', hb8, hb48, hlt, hw, hx, hx', encO_none, encO_some, hci, hc, hLl, hb1, hb2, j1, j2, j3, j4, i5, k1, k2, k3, k4, ha, ha', hz, hz']; (try refine ⟨by kernel_rfl, ?_⟩)))
                  | (with_reducible refine xB_split (by simp [g1, g4, g6, g7, hb1', hb8, hb48, hlt, hw, hx, hx', encO_none, encO_some, hci, hc, hLl, hb1, hb2, j1, j2, j3, j4, i5, k1, k2, k3, k4, ha, ha', hz, hz']) (fun hgd => ?_) (fun hgd => ?_) <;> first | (exfalso; simp at hgd; done) | (exfalso; simp at hgd; omega) | simp -implicitDefEqProofs (maxSteps := 2000000) [hP, hN, g1, g4, g6, g7, hb1', hb8, hb48, hlt, hw, hx, hx', encO_none, encO_some, hci, hc, hLl, hb1, hb2, j1, j2, j3, j4, i5, k1, k2, k3, k4, ha, ha', hz, hz'])
                  | (with_reducible refine yB_split (by simp [g1, g4, g6, g7, hb1', hb8, hb48, hlt, hw, hx, hx', encO_none, encO_some, hci, hc, hLl, hb1, hb2, j1, j2, j3, j4, i5, k1, k2, k3, k4, ha, ha', hz, hz']) (fun hgd => ?_) (fun hgd => ?_) <;> first | (exfalso; simp at hgd; done) | (exfalso; simp at hgd; omega) | (simp -implicitDefEqProofs (maxSteps := 2000000) [hP, hN, g1, g4, g6, g7, hb1', hb8, hb48, hlt, hw, hx, hx', encO_none, encO_some, hci, hc, hLl, hb1, hb2, j1, j2, j3, j4, i5, k1, k2, k3, k4, ha, ha', hz, hz'] <;> (try refine ⟨by kernel_rfl, ?_⟩)))
                  | with_reducible refine xTwo_intro ?_ ?_
                  | (with_reducible refine xCond_split (fun hcd => ?_) (fun hcd => ?_) <;> (try (exfalso; clear hP hN; simp_all; done)) <;> (try (exfalso; simp at *; omega)))
                  | with_reducible refine WP.block ?_
                  | (with_reducible ((first | refine WP.skip ?_ | refine WP.exit ?_ | refine WP.ret ?_); simp [g1, g4, g6, g7, hb1', hb8, hb48, hlt, hw, hx, hx', encO_none, encO_some, hci, hc, hLl, hb1, hb2, j1, j2, j3, j4, i5, k1, k2, k3, k4, ha, ha', hz, hz'])))
              · obtain ⟨hdl, _⟩ := hB.bok.ok _ d' hz
                have hd1 : (0 : Int) < d'.length := by omega
                have hd3 : 0 < d'.length := by omega
                repeat' (first
                  | with_reducible refine WP.seq ?_
                  | (with_reducible ((first | refine WP.region (hn := []) ?_ | refine xC_intro (cl) ?_ | refine xC_intro (cz) ?_ | refine xC_intro (ch) ?_ | refine WP.cond' ?_); simp -implicitDefEqProofs (maxSteps := 2000000) [hP, hN, g1, g4, g6, g7, hb1', hb8, hb48, hlt, hw, hx, hx', encO_none, encO_some, hci, hc, hLl, hb1, hb2, j1, j2, j3, j4, i5, k1, k2, k3, k4, ha, ha', hz, hz', hd1, hd3]))
                  | (with_reducible ((first | refine WP.draw (hn := []) (by rw [hP]; kernel_rfl) (by kernel_rfl) ?_ | refine yC_intro (cl) ?_ | refine yC_intro (cz) ?_ | refine yC_intro (ch) ?_); simp -implicitDefEqProofs (maxSteps := 2000000) [hP, hN, g1, g4, g6, g7, hb1', hb8, hb48, hlt, hw, hx, hx', encO_none, encO_some, hci, hc, hLl, hb1, hb2, j1, j2, j3, j4, i5, k1, k2, k3, k4, ha, ha', hz, hz', hd1, hd3]; (try refine ⟨by kernel_rfl, ?_⟩)))
                  | (with_reducible refine xB_split (by simp [g1, g4, g6, g7, hb1', hb8, hb48, hlt, hw, hx, hx', encO_none, encO_some, hci, hc, hLl, hb1, hb2, j1, j2, j3, j4, i5, k1, k2, k3, k4, ha, ha', hz, hz', hd1, hd3]) (fun hgd => ?_) (fun hgd => ?_) <;> first | (exfalso; simp at hgd; done) | (exfalso; simp at hgd; omega) | simp -implicitDefEqProofs (maxSteps := 2000000) [hP, hN, g1, g4, g6, g7, hb1', hb8, hb48, hlt, hw, hx, hx', encO_none, encO_some, hci, hc, hLl, hb1, hb2, j1, j2, j3, j4, i5, k1, k2, k3, k4, ha, ha', hz, hz', hd1, hd3])
                  | (with_reducible refine yB_split (by simp [g1, g4, g6, g7, hb1', hb8, hb48, hlt, hw, hx, hx', encO_none, encO_some, hci, hc, hLl, hb1, hb2, j1, j2, j3, j4, i5, k1, k2, k3, k4, ha, ha', hz, hz', hd1, hd3]) (fun hgd => ?_) (fun hgd => ?_) <;> first | (exfalso; simp at hgd; done) | (exfalso; simp at hgd; omega) | (simp -implicitDefEqProofs (maxSteps := 2000000) [hP, hN, g1, g4, g6, g7, hb1', hb8, hb48, hlt, hw, hx, hx', encO_none, encO_some, hci, hc, hLl, hb1, hb2, j1, j2, j3, j4, i5, k1, k2, k3, k4, ha, ha', hz, hz', hd1, hd3] <;> (try refine ⟨by kernel_rfl, ?_⟩)))
                  | with_reducible refine xTwo_intro ?_ ?_
                  | (with_reducible refine xCond_split (fun hcd => ?_) (fun hcd => ?_) <;> (try (exfalso; clear hP hN; simp_all; done)) <;> (try (exfalso; simp at *; omega)))
                  | with_reducible refine WP.block ?_
                  | (with_reducible ((first | refine WP.skip ?_ | refine WP.exit ?_ | refine WP.ret ?_); simp [g1, g4, g6, g7, hb1', hb8, hb48, hlt, hw, hx, hx', encO_none, encO_some, hci, hc, hLl, hb1, hb2, j1, j2, j3, j4, i5, k1, k2, k3, k4, ha, ha', hz, hz', hd1, hd3])))
            · obtain ⟨hdl, _⟩ := hB.bok.ok _ d ha
              have hd1 : (0 : Int) < d.length := by omega
              have hd3 : 0 < d.length := by omega
              repeat' (first
                | with_reducible refine WP.seq ?_
                | (with_reducible ((first | refine WP.region (hn := []) ?_ | refine xC_intro (cl) ?_ | refine xC_intro (cz) ?_ | refine xC_intro (ch) ?_ | refine WP.cond' ?_); simp -implicitDefEqProofs (maxSteps := 2000000) [hP, hN, g1, g4, g6, g7, hb1', hb8, hb48, hlt, hw, hx, hx', encO_none, encO_some, hci, hc, hLl, hb1, hb2, j1, j2, j3, j4, i5, k1, k2, k3, k4, ha, ha', hz, hz', hd1, hd3]))
                | (with_reducible ((first | refine WP.draw (hn := []) (by rw [hP]; kernel_rfl) (by kernel_rfl) ?_ | refine yC_intro (cl) ?_ | refine yC_intro (cz) ?_ | refine yC_intro (ch) ?_); simp -implicitDefEqProofs (maxSteps := 2000000) [hP, hN, g1, g4, g6, g7, hb1', hb8, hb48, hlt, hw, hx, hx', encO_none, encO_some, hci, hc, hLl, hb1, hb2, j1, j2, j3, j4, i5, k1, k2, k3, k4, ha, ha', hz, hz', hd1, hd3]; (try refine ⟨by kernel_rfl, ?_⟩)))
                | (with_reducible refine xB_split (by simp [g1, g4, g6, g7, hb1', hb8, hb48, hlt, hw, hx, hx', encO_none, encO_some, hci, hc, hLl, hb1, hb2, j1, j2, j3, j4, i5, k1, k2, k3, k4, ha, ha', hz, hz', hd1, hd3]) (fun hgd => ?_) (fun hgd => ?_) <;> first | (exfalso; simp at hgd; done) | (exfalso; simp at hgd; omega) | simp -implicitDefEqProofs (maxSteps := 2000000) [hP, hN, g1, g4, g6, g7, hb1', hb8, hb48, hlt, hw, hx, hx', encO_none, encO_some, hci, hc, hLl, hb1, hb2, j1, j2, j3, j4, i5, k1, k2, k3, k4, ha, ha', hz, hz', hd1, hd3])
                | (with_reducible refine yB_split (by simp [g1, g4, g6, g7, hb1', hb8, hb48, hlt, hw, hx, hx', encO_none, encO_some, hci, hc, hLl, hb1, hb2, j1, j2, j3, j4, i5, k1, k2, k3, k4, ha, ha', hz, hz', hd1, hd3]) (fun hgd => ?_) (fun hgd => ?_) <;> first | (exfalso; simp at hgd; done) | (exfalso; simp at hgd; omega) | (simp -implicitDefEqProofs (maxSteps := 2000000) [hP, hN, g1, g4, g6, g7, hb1', hb8, hb48, hlt, hw, hx, hx', encO_none, encO_some, hci, hc, hLl, hb1, hb2, j1, j2, j3, j4, i5, k1, k2, k3, k4, ha, ha', hz, hz', hd1, hd3] <;> (try refine ⟨by kernel_rfl, ?_⟩)))
                | with_reducible refine xTwo_intro ?_ ?_
                | (with_reducible refine xCond_split (fun hcd => ?_) (fun hcd => ?_) <;> (try (exfalso; clear hP hN; simp_all; done)) <;> (try (exfalso; simp at *; omega)))
                | with_reducible refine WP.block ?_
                | (with_reducible ((first | refine WP.skip ?_ | refine WP.exit ?_ | refine WP.ret ?_); simp [g1, g4, g6, g7, hb1', hb8, hb48, hlt, hw, hx, hx', encO_none, encO_some, hci, hc, hLl, hb1, hb2, j1, j2, j3, j4, i5, k1, k2, k3, k4, ha, ha', hz, hz', hd1, hd3])))
          | true =>
          rw [hh] at ch
          obtain ⟨o1, _, o3, o4, _⟩ := hvOk_iff.1 hh
          have o5 := (List.getElem?_eq_some_iff.1 o4).1
          have o6 : ¬ c.joint < 0 := by omega
          have o7 : ¬ (t.root.length : Int) ≤ c.joint := by omega
          cases ha : L[c.low.toNat]? with
          | none => rw [List.getElem?_eq_getElem k5] at ha; cases ha
          | some xa =>
          have ha' := get_of ha k5
          cases xa with
          | some d =>
            obtain ⟨e1, e2⟩ := bad (step_bad hx hlf (.inr (.inr (.inl ⟨d, ha⟩))))
            rw [e1, e2]
            obtain ⟨hdl, _⟩ := hB.bok.ok _ d ha
            have hd2 : d ≠ [] := by intro h; rw [h] at hdl; simp at hdl; omega
            have hd1 : (0 : Int) < d.length := by omega
            have hd3 : 0 < d.length := by omega
            repeat' (first
              | with_reducible refine WP.seq ?_
              | (with_reducible ((first | refine WP.region (hn := []) ?_ | refine xC_intro (cl) ?_ | refine xC_intro (cz) ?_ | refine xC_intro (ch) ?_ | refine WP.cond' ?_); simp -implicitDefEqProofs (maxSteps := 2000000) [hP, hN, g1, g4, g6, g7, hb1', hb8, hb48, hlt, hw, hx, hx', encO_none, encO_some, hci, hc, hLl, hb1, hb2, j1, j2, j3, j4, i5, o6, o7, k1, k2, k3, k4, ha, ha', hd1, hd2, hd3]))
              | (with_reducible ((first | refine WP.draw (hn := []) (by rw [hP]; kernel_rfl) (by kernel_rfl) ?_ | refine yC_intro (cl) ?_ | refine yC_intro (cz) ?_ | refine yC_intro (ch) ?_); simp -implicitDefEqProofs (maxSteps := 2000000) [hP, hN, g1, g4, g6, g7, hb1', hb8, hb48, hlt, hw, hx, hx', encO_none, encO_some, hci, hc, hLl, hb1, hb2, j1, j2, j3, j4, i5, o6, o7, k1, k2, k3, k4, ha, ha', hd1, hd2, hd3]; (try refine ⟨by kernel_rfl, ?_⟩)))
              | (with_reducible refine xB_split (by simp [g1, g4, g6, g7, hb1', hb8, hb48, hlt, hw, hx, hx', encO_none, encO_some, hci, hc, hLl, hb1, hb2, j1, j2, j3, j4, i5, o6, o7, k1, k2, k3, k4, ha, ha', hd1, hd2, hd3]) (fun hgd => ?_) (fun hgd => ?_) <;> first | (exfalso; simp at hgd; done) | (exfalso; simp at hgd; omega) | simp -implicitDefEqProofs (maxSteps := 2000000) [hP, hN, g1, g4, g6, g7, hb1', hb8, hb48, hlt, hw, hx, hx', encO_none, encO_some, hci, hc, hLl, hb1, hb2, j1, j2, j3, j4, i5, o6, o7, k1, k2, k3, k4, ha, ha', hd1, hd2, hd3])
              | (with_reducible refine yB_split (by simp [g1, g4, g6, g7, hb1', hb8, hb48, hlt, hw, hx, hx', encO_none, encO_some, hci, hc, hLl, hb1, hb2, j1, j2, j3, j4, i5, o6, o7, k1, k2, k3, k4, ha, ha', hd1, hd2, hd3]) (fun hgd => ?_) (fun hgd => ?_) <;> first | (exfalso; simp at hgd; done) | (exfalso; simp at hgd; omega) | (simp -implicitDefEqProofs (maxSteps := 2000000) [hP, hN, g1, g4, g6, g7, hb1', hb8, hb48, hlt, hw, hx, hx', encO_none, encO_some, hci, hc, hLl, hb1, hb2, j1, j2, j3, j4, i5, o6, o7, k1, k2, k3, k4, ha, ha', hd1, hd2, hd3] <;> (try refine ⟨by kernel_rfl, ?_⟩)))
              | with_reducible refine xTwo_intro ?_ ?_
              | (with_reducible refine xCond_split (fun hcd => ?_) (fun hcd => ?_) <;> (try (exfalso; clear hP hN; simp_all; done)) <;> (try (exfalso; simp at *; omega)))
              | with_reducible refine WP.block ?_
              | (with_reducible ((first | refine WP.skip ?_ | refine WP.exit ?_ | refine WP.ret ?_); simp [g1, g4, g6, g7, hb1', hb8, hb48, hlt, hw, hx, hx', encO_none, encO_some, hci, hc, hLl, hb1, hb2, j1, j2, j3, j4, i5, o6, o7, k1, k2, k3, k4, ha, ha', hd1, hd2, hd3])))
          | none =>
          cases hz : L[c.high.toNat]? with
          | none => rw [List.getElem?_eq_getElem k6] at hz; cases hz
          | some xz =>
          have hz' := get_of hz k6
          cases xz with
          | some d =>
            obtain ⟨e1, e2⟩ := bad (step_bad hx hlf (.inr (.inr (.inr ⟨d, hz⟩))))
            rw [e1, e2]
            obtain ⟨hdl, _⟩ := hB.bok.ok _ d hz
            have hd2 : d ≠ [] := by intro h; rw [h] at hdl; simp at hdl; omega
            have hd1 : (0 : Int) < d.length := by omega
            have hd3 : 0 < d.length := by omega
            repeat' (first
              | with_reducible refine WP.seq ?_
              | (with_reducible ((first | refine WP.region (hn := []) ?_ | refine xC_intro (cl) ?_ | refine xC_intro (cz) ?_ | refine xC_intro (ch) ?_ | refine WP.cond' ?_); simp -implicitDefEqProofs (maxSteps := 2000000) [hP, hN, g1, g4, g6, g7, hb1', hb8, hb48, hlt, hw, hx, hx', encO_none, encO_some, hci, hc, hLl, hb1, hb2, j1, j2, j3, j4, i5, o6, o7, k1, k2, k3, k4, ha, ha', hz, hz', hd1, hd2, hd3]))
              | (with_reducible ((first | refine WP.draw (hn := []) (by rw [hP]; kernel_rfl) (by kernel_rfl) ?_ | refine yC_intro (cl) ?_ | refine yC_intro (cz) ?_ | refine yC_intro (ch) ?_); simp -implicitDefEqProofs (maxSteps := 2000000) [hP, hN, g1, g4, g6, g7, hb1', hb8, hb48, hlt, hw, hx, hx', encO_none, encO_some, hci, hc, hLl, hb1, hb2, j1, j2, j3, j4, i5, o6, o7, k1, k2, k3, k4, ha, ha', hz, hz', hd1, hd2, hd3]; (try refine ⟨by kernel_rfl, ?_⟩)))
              | (with_reducible refine xB_split (by simp [g1, g4, g6, g7, hb1', hb8, hb48, hlt, hw, hx, hx', encO_none, encO_some, hci, hc, hLl, hb1, hb2, j1, j2, j3, j4, i5, o6, o7, k1, k2, k3, k4, ha, ha', hz, hz', hd1, hd2, hd3]) (fun hgd => ?_) (fun hgd => ?_) <;> first | (exfalso; simp at hgd; done) | (exfalso; simp at hgd; omega) | simp -implicitDefEqProofs (maxSteps := 2000000) [hP, hN, g1, g4, g6, g7, hb1', hb8, hb48, hlt, hw, hx, hx', encO_none, encO_some, hci, hc, hLl, hb1, hb2, j1, j2, j3, j4, i5, o6, o7, k1, k2, k3, k4, ha, ha', hz, hz', hd1, hd2, hd3])
              | (with_reducible refine yB_split (by simp [g1, g4, g6, g7, hb1', hb8, hb48, hlt, hw, hx, hx', encO_none, encO_some, hci, hc, hLl, hb1, hb2, j1, j2, j3, j4, i5, o6, o7, k1, k2, k3, k4, ha, ha', hz, hz', hd1, hd2, hd3]) (fun hgd => ?_) (fun hgd => ?_) <;> first | (exfalso; simp at hgd; done) | (exfalso; simp at hgd; omega) | (simp -implicitDefEqProofs (maxSteps := 2000000) [hP, hN, g1, g4, g6, g7, hb1', hb8, hb48, hlt, hw, hx, hx', encO_none, encO_some, hci, hc, hLl, hb1, hb2, j1, j2, j3, j4, i5, o6, o7, k1, k2, k3, k4, ha, ha', hz, hz', hd1, hd2, hd3] <;> (try refine ⟨by kernel_rfl, ?_⟩)))
              | with_reducible refine xTwo_intro ?_ ?_
              | (with_reducible refine xCond_split (fun hcd => ?_) (fun hcd => ?_) <;> (try (exfalso; clear hP hN; simp_all; done)) <;> (try (exfalso; simp at *; omega)))
              | with_reducible refine WP.block ?_
              | (with_reducible ((first | refine WP.skip ?_ | refine WP.exit ?_ | refine WP.ret ?_); simp [g1, g4, g6, g7, hb1', hb8, hb48, hlt, hw, hx, hx', encO_none, encO_some, hci, hc, hLl, hb1, hb2, j1, j2, j3, j4, i5, o6, o7, k1, k2, k3, k4, ha, ha', hz, hz', hd1, hd2, hd3])))
          | none =>
            have hnx := binv_step hB hlt (by rw [hc]; exact step_inner hx hlf hin' hh ha hz)
            repeat' (first
              | with_reducible refine WP.seq ?_
              | (with_reducible ((first | refine WP.region (hn := []) ?_ | refine xC_intro (cl) ?_ | refine xC_intro (cz) ?_ | refine xC_intro (ch) ?_ | refine WP.cond' ?_); simp -implicitDefEqProofs (maxSteps := 2000000) [hP, hN, g1, g4, g6, g7, hb1', hb8, hb48, hlt, hw, hx, hx', encO_none, encO_some, hci, hc, hLl, hb1, hb2, j1, j2, j3, j4, i5, o6, o7, k1, k2, k3, k4, ha, ha', hz, hz']))
              | (with_reducible ((first | refine WP.draw (hn := []) (by rw [hP]; kernel_rfl) (by kernel_rfl) ?_ | refine yC_intro (cl) ?_ | refine yC_intro (cz) ?_ | refine yC_intro (ch) ?_); simp -implicitDefEqProofs (maxSteps := 2000000) [hP, hN, g1, g4, g6, g7, hb1', hb8, hb48, hlt, hw, hx, hx', encO_none, encO_some, hci, hc, hLl, hb1, hb2, j1, j2, j3, j4, i5, o6, o7, k1, k2, k3, k4, ha, ha', hz, hz']; (try refine ⟨by kernel_rfl, ?_⟩)))
              | (with_reducible refine xB_split (by simp [g1, g4, g6, g7, hb1', hb8, hb48, hlt, hw, hx, hx', encO_none, encO_some, hci, hc, hLl, hb1, hb2, j1, j2, j3, j4, i5, o6, o7, k1, k2, k3, k4, ha, ha', hz, hz']) (fun hgd => ?_) (fun hgd => ?_) <;> first | (exfalso; simp at hgd; done) | (exfalso; simp at hgd; omega) | simp -implicitDefEqProofs (maxSteps := 2000000) [hP, hN, g1, g4, g6, g7, hb1', hb8, hb48, hlt, hw, hx, hx', encO_none, encO_some, hci, hc, hLl, hb1, hb2, j1, j2, j3, j4, i5, o6, o7, k1, k2, k3, k4, ha, ha', hz, hz'])
              | (with_reducible refine yB_split (by simp [g1, g4, g6, g7, hb1', hb8, hb48, hlt, hw, hx, hx', encO_none, encO_some, hci, hc, hLl, hb1, hb2, j1, j2, j3, j4, i5, o6, o7, k1, k2, k3, k4, ha, ha', hz, hz']) (fun hgd => ?_) (fun hgd => ?_) <;> first | (exfalso; simp at hgd; done) | (exfalso; simp at hgd; omega) | (simp -implicitDefEqProofs (maxSteps := 2000000) [hP, hN, g1, g4, g6, g7, hb1', hb8, hb48, hlt, hw, hx, hx', encO_none, encO_some, hci, hc, hLl, hb1, hb2, j1, j2, j3, j4, i5, o6, o7, k1, k2, k3, k4, ha, ha', hz, hz'] <;> (try refine ⟨by kernel_rfl, ?_⟩)))
              | with_reducible refine xTwo_intro ?_ ?_
              | (with_reducible refine xCond_split (fun hcd => ?_) (fun hcd => ?_) <;> (try (exfalso; clear hP hN; simp_all; done)) <;> (try (exfalso; simp at *; omega)))
              | with_reducible refine WP.block ?_
              | (with_reducible ((first | refine WP.skip ?_ | refine WP.exit ?_ | refine WP.ret ?_); simp [g1, g4, g6, g7, hb1', hb8, hb48, hlt, hw, hx, hx', encO_none, encO_some, hci, hc, hLl, hb1, hb2, j1, j2, j3, j4, i5, o6, o7, k1, k2, k3, k4, ha, ha', hz, hz'])))
            all_goals exact ⟨_, hnx, set_row⟩
    · have hdn := binv_done hB hlt
      have hmap := encO_map hdn
      have hval : validT t = true := by simp [validT, hdn]
      rw [hval, ← hmap]
      repeat' (first
        | with_reducible refine WP.seq ?_
        | (with_reducible ((first | refine WP.region (hn := []) ?_ | refine WP.cond' ?_); simp -implicitDefEqProofs (maxSteps := 2000000) [hP, hN, g1, g4, g6, g7, hb1', hb8, hb48, hlt, hLl]))
        | (with_reducible ((first | refine WP.draw (hn := []) (by rw [hP]; kernel_rfl) (by kernel_rfl) ?_); simp -implicitDefEqProofs (maxSteps := 2000000) [hP, hN, g1, g4, g6, g7, hb1', hb8, hb48, hlt, hLl]; (try refine ⟨by kernel_rfl, ?_⟩)))
        | (with_reducible refine xB_split (by simp [g1, g4, g6, g7, hb1', hb8, hb48, hlt, hLl]) (fun hgd => ?_) (fun hgd => ?_) <;> first | (exfalso; simp at hgd; done) | (exfalso; simp at hgd; omega) | simp -implicitDefEqProofs (maxSteps := 2000000) [hP, hN, g1, g4, g6, g7, hb1', hb8, hb48, hlt, hLl])
        | (with_reducible refine yB_split (by simp [g1, g4, g6, g7, hb1', hb8, hb48, hlt, hLl]) (fun hgd => ?_) (fun hgd => ?_) <;> first | (exfalso; simp at hgd; done) | (exfalso; simp at hgd; omega) | (simp -implicitDefEqProofs (maxSteps := 2000000) [hP, hN, g1, g4, g6, g7, hb1', hb8, hb48, hlt, hLl] <;> (try refine ⟨by kernel_rfl, ?_⟩)))
        | with_reducible refine xTwo_intro ?_ ?_
        | (with_reducible refine xCond_split (fun hcd => ?_) (fun hcd => ?_) <;> (try (exfalso; clear hP hN; simp_all; done)) <;> (try (exfalso; simp at *; omega)))
        | with_reducible refine WP.block ?_
        | (with_reducible ((first | refine WP.skip ?_ | refine WP.exit ?_ | refine WP.ret ?_); simp [g1, g4, g6, g7, hb1', hb8, hb48, hlt, hLl])))
end Go.Ab
