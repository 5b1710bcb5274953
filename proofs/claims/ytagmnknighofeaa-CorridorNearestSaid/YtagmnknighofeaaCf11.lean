/- Contracts: config's loops with a function. -/
import Derived.Test.YtagmnknighofeaaCf10
set_option linter.all false
namespace Go.Ab
open Go.Proofs
theorem rp_bool {P : Program} (d : Nat) (t : TypeId) (a b : Bool) (h : P.underlying t = some .bool) : runPure P (Op.equalIn (d + 1) t (.bool a) (.bool b)) = some (a == b) := by
  simp only [Op.equalIn, runPure_bind, runPure_underlying h, Option.bind_some]; rfl
def bool2 (x y : AV) : Option (Bool × Bool) := match x, y with
  | .pv (.val (.bool a)), .pv (.val (.bool b)) => some (a, b)
  | _, _ => none
def cmpB (x y : AV) (fb : Option Eff) : Option Eff := match bool2 x y with
  | some (a, b) => some (.pv (.val (.bool (a == b))), [])
  | none => fb
@[simp] theorem cmpB_some (a b : Bool) (fb : Option Eff) : cmpB (.pv (.val (.bool a))) (.pv (.val (.bool b))) fb = some (.pv (.val (.bool (a == b))), []) := rfl
@[simp] theorem eqBool {dst : Option Nat} {ty : TypeId} {pos : String} {aft : Array Edge} {g : Option (Nat × Bool)} {ρ : Operand → AV} (x y : Operand) :
    evPure Try.prog ⟨dst, .binOp .eql 4 x y 4, ty, pos, aft, g⟩ ρ = cmpB (ρ x) (ρ y) (evPureX Try.prog ⟨dst, .binOp .eql 4 x y 4, ty, pos, aft, g⟩ ρ) := by
  unfold cmpB
  split
  · rename_i a b h
    unfold bool2 at h
    split at h
    · rename_i a' b' hx hy
      injection h with h; injection h with h1 h2; subst h1; subst h2
      refine evPure_of (by simp [Op.operands, hx, hy, valOf]) ?_
      unfold execOp
      simp only [(valOf_some hx).2, (valOf_some hy).2]
      have h1 : runPure Try.prog (eqGuard .eql 4 x y (.bool a') (.bool b')) = some () := by kernel_rfl
      have h2 : runPure Try.prog (binOp .eql 4 (.bool a') (.bool b')) = some (.bool (a' == b')) := by
        simp only [binOp, runPure_bind]
        rw [show runPure Try.prog (Op.equal 4 (.bool a') (.bool b')) = some (a' == b') from rp_bool 9999 4 a' b' Try.underlying4]
        rfl
      simp only [runPure_bind, h1, h2, Option.bind_some]; rfl
    · cases h
  · rfl
theorem d149 (f : FuncId) (p : Int × Int → Int → Bool) (xs : List (Int × Int)) (ys : List (Int)) (hl : xs.length ≤ 9223372036854775807) (hf : ∀ a b, DetH Try.prog f [.pv (encI a), .pv (Z b)] [] [] (.pv (B (p a b)))) : DetH Try.prog 149 [.pv (.sl (xs.map encI)), .pv (.sl (ys.map Z)), .pv (Fv f)] [] [] (.pv (B (decide (xs.length = ys.length) && allZ p xs ys))) := by
  refine detP_of Try.func149 rfl (by kernel_rfl) (by simp [Try.f149]) rfl ?_
  intro C hP hN
  simp only [Try.f149] at hN ⊢
  by_cases he : xs.length = ys.length
  · skip
    repeat' (first
      | with_reducible refine WP.seq ?_
      | (with_reducible refine WP.region (hn := []) ?_; simp -implicitDefEqProofs [hP, hN, he])
      | (with_reducible refine WP.draw (hn := []) (by rw [hP]; kernel_rfl) (by kernel_rfl) ?_; simp -implicitDefEqProofs [hP, hN, he]; (try refine ⟨by kernel_rfl, ?_⟩))
      | (with_reducible refine xB_split (by simp [he]) (fun hgd => ?_) (fun hgd => ?_) <;> first | (exfalso; simp at hgd; done) | (exfalso; simp at hgd; omega) | simp -implicitDefEqProofs [hP, hN, he])
      | (with_reducible refine yB_split (by simp [he]) (fun hgd => ?_) (fun hgd => ?_) <;> first | (exfalso; simp at hgd; done) | (exfalso; simp at hgd; omega) | (simp -implicitDefEqProofs [hP, hN, he] <;> (try refine ⟨by kernel_rfl, ?_⟩)))
      | with_reducible refine xTwo_intro ?_ ?_
      | (with_reducible refine WP.cond' ?_; simp -implicitDefEqProofs [hP, hN, he])
      | (with_reducible refine xCond_split (fun hcd => ?_) (fun hcd => ?_) <;> (try (exfalso; clear hP hN; simp_all; done)) <;> (try (exfalso; simp at *; omega)))
      | with_reducible refine WP.block ?_
      | (with_reducible refine WP.skip ?_; simp [he])
      | (with_reducible refine WP.exit ?_; simp [he])
      | (with_reducible refine WP.ret ?_; simp [he]))
    refine WP.loopN [8] xs.length (fun i st => st.t 0 = .pv (.sl (xs.map encI)) ∧ st.t 1 = .pv (.sl (ys.map Z)) ∧ st.t 2 = .pv (Fv f) ∧ st.t 14 = .pv (.sl (xs.map encI)) ∧ st.t 15 = .pv (Z xs.length) ∧ st.t 16 = .pv (Z i) ∧ st.h 8 = none ∧ allZt p xs ys i = true) (by simp [allZt, he]) ?_
    rintro i st hi ⟨h0, h1, h2, h14, h15, h16, hb, hq⟩
    by_cases hlt : i < xs.length
    · have hw := wr_succ hlt hl
      have hlt' : i < ys.length := by omega
      have hF : p xs[i] ys[i] = false → allZ p xs ys = false := allZ_false hlt hlt'
      have hS : p xs[i] ys[i] = true → allZt p xs ys (i + 1) = true := allZ_step hlt hlt' hq
      repeat' (first
        | with_reducible refine WP.seq ?_
        | (with_reducible refine WP.region (hn := []) ?_; simp -implicitDefEqProofs [hP, hN, h0, h1, h2, h14, h15, h16, hb, hlt, hlt', hw])
        | (with_reducible refine WP.draw (hn := []) (by rw [hP]; kernel_rfl) (by kernel_rfl) ?_; simp -implicitDefEqProofs [hP, hN, h0, h1, h2, h14, h15, h16, hb, hlt, hlt', hw]; (try refine ⟨by kernel_rfl, ?_⟩))
        | (with_reducible refine xB_split (by simp [h0, h1, h2, h14, h15, h16, hb, hlt, hlt', hw]) (fun hgd => ?_) (fun hgd => ?_) <;> first | (exfalso; simp at hgd; done) | (exfalso; simp at hgd; omega) | simp -implicitDefEqProofs [hP, hN, h0, h1, h2, h14, h15, h16, hb, hlt, hlt', hw])
        | (with_reducible refine yB_split (by simp [h0, h1, h2, h14, h15, h16, hb, hlt, hlt', hw]) (fun hgd => ?_) (fun hgd => ?_) <;> first | (exfalso; simp at hgd; done) | (exfalso; simp at hgd; omega) | (simp -implicitDefEqProofs [hP, hN, h0, h1, h2, h14, h15, h16, hb, hlt, hlt', hw] <;> (try refine ⟨by kernel_rfl, ?_⟩)))
        | (with_reducible refine xC_intro (hf _ _) ?_; simp -implicitDefEqProofs [hP, hN, h0, h1, h2, h14, h15, h16, hb, hlt, hlt', hw])
        | (with_reducible refine yC_intro (hf _ _) ?_; simp -implicitDefEqProofs [hP, hN, h0, h1, h2, h14, h15, h16, hb, hlt, hlt', hw]; (try refine ⟨by kernel_rfl, ?_⟩))
        | with_reducible refine xTwo_intro ?_ ?_
        | (with_reducible refine WP.cond' ?_; simp -implicitDefEqProofs [hP, hN, h0, h1, h2, h14, h15, h16, hb, hlt, hlt', hw])
        | (with_reducible refine xCond_split (fun hcd => ?_) (fun hcd => ?_) <;> (try (exfalso; clear hP hN; simp_all; done)) <;> (try (exfalso; simp at *; omega)))
        | with_reducible refine WP.block ?_
        | (with_reducible refine WP.skip ?_; simp [h0, h1, h2, h14, h15, h16, hb, hlt, hlt', hw])
        | (with_reducible refine WP.exit ?_; simp [h0, h1, h2, h14, h15, h16, hb, hlt, hlt', hw])
        | (with_reducible refine WP.ret ?_; simp [h0, h1, h2, h14, h15, h16, hb, hlt, hlt', hw]))
      all_goals first | exact hF (by simpa using hcd) | simpa using hS (by simpa using hcd)
    · skip
      repeat' (first
        | with_reducible refine WP.seq ?_
        | (with_reducible refine WP.region (hn := []) ?_; simp -implicitDefEqProofs [hP, hN, h0, h1, h2, h14, h15, h16, hb, hlt])
        | (with_reducible refine WP.draw (hn := []) (by rw [hP]; kernel_rfl) (by kernel_rfl) ?_; simp -implicitDefEqProofs [hP, hN, h0, h1, h2, h14, h15, h16, hb, hlt]; (try refine ⟨by kernel_rfl, ?_⟩))
        | (with_reducible refine xB_split (by simp [h0, h1, h2, h14, h15, h16, hb, hlt]) (fun hgd => ?_) (fun hgd => ?_) <;> first | (exfalso; simp at hgd; done) | (exfalso; simp at hgd; omega) | simp -implicitDefEqProofs [hP, hN, h0, h1, h2, h14, h15, h16, hb, hlt])
        | (with_reducible refine yB_split (by simp [h0, h1, h2, h14, h15, h16, hb, hlt]) (fun hgd => ?_) (fun hgd => ?_) <;> first | (exfalso; simp at hgd; done) | (exfalso; simp at hgd; omega) | (simp -implicitDefEqProofs [hP, hN, h0, h1, h2, h14, h15, h16, hb, hlt] <;> (try refine ⟨by kernel_rfl, ?_⟩)))
        | with_reducible refine xTwo_intro ?_ ?_
        | (with_reducible refine WP.cond' ?_; simp -implicitDefEqProofs [hP, hN, h0, h1, h2, h14, h15, h16, hb, hlt])
        | (with_reducible refine xCond_split (fun hcd => ?_) (fun hcd => ?_) <;> (try (exfalso; clear hP hN; simp_all; done)) <;> (try (exfalso; simp at *; omega)))
        | with_reducible refine WP.block ?_
        | (with_reducible refine WP.skip ?_; simp [h0, h1, h2, h14, h15, h16, hb, hlt])
        | (with_reducible refine WP.exit ?_; simp [h0, h1, h2, h14, h15, h16, hb, hlt])
        | (with_reducible refine WP.ret ?_; simp [h0, h1, h2, h14, h15, h16, hb, hlt]))
      all_goals simp [he, allZ_done hlt hq]
  · skip
    repeat' (first
      | with_reducible refine WP.seq ?_
      | (with_reducible refine WP.region (hn := []) ?_; simp -implicitDefEqProofs [hP, hN, he])
      | (with_reducible refine WP.draw (hn := []) (by rw [hP]; kernel_rfl) (by kernel_rfl) ?_; simp -implicitDefEqProofs [hP, hN, he]; (try refine ⟨by kernel_rfl, ?_⟩))
      | (with_reducible refine xB_split (by simp [he]) (fun hgd => ?_) (fun hgd => ?_) <;> first | (exfalso; simp at hgd; done) | (exfalso; simp at hgd; omega) | simp -implicitDefEqProofs [hP, hN, he])
      | (with_reducible refine yB_split (by simp [he]) (fun hgd => ?_) (fun hgd => ?_) <;> first | (exfalso; simp at hgd; done) | (exfalso; simp at hgd; omega) | (simp -implicitDefEqProofs [hP, hN, he] <;> (try refine ⟨by kernel_rfl, ?_⟩)))
      | with_reducible refine xTwo_intro ?_ ?_
      | (with_reducible refine WP.cond' ?_; simp -implicitDefEqProofs [hP, hN, he])
      | (with_reducible refine xCond_split (fun hcd => ?_) (fun hcd => ?_) <;> (try (exfalso; clear hP hN; simp_all; done)) <;> (try (exfalso; simp at *; omega)))
      | with_reducible refine WP.block ?_
      | (with_reducible refine WP.skip ?_; simp [he])
      | (with_reducible refine WP.exit ?_; simp [he])
      | (with_reducible refine WP.ret ?_; simp [he]))
    all_goals simp [he]
theorem d157 (f : FuncId) (p : Int × Int → Int × Int → Bool) (xs : List (Int × Int)) (ys : List (Int × Int)) (hl : xs.length ≤ 9223372036854775807) (hf : ∀ a b, DetH Try.prog f [.pv (encI a), .pv (encI b)] [] [] (.pv (B (p a b)))) : DetH Try.prog 157 [.pv (.sl (xs.map encI)), .pv (.sl (ys.map encI)), .pv (Fv f)] [] [] (.pv (B (decide (xs.length = ys.length) && allZ p xs ys))) := by
  refine detP_of Try.func157 rfl (by kernel_rfl) (by simp [Try.f157]) rfl ?_
  intro C hP hN
  simp only [Try.f157] at hN ⊢
  by_cases he : xs.length = ys.length
  · skip
    repeat' (first
      | with_reducible refine WP.seq ?_
      | (with_reducible refine WP.region (hn := []) ?_; simp -implicitDefEqProofs [hP, hN, he])
      | (with_reducible refine WP.draw (hn := []) (by rw [hP]; kernel_rfl) (by kernel_rfl) ?_; simp -implicitDefEqProofs [hP, hN, he]; (try refine ⟨by kernel_rfl, ?_⟩))
      | (with_reducible refine xB_split (by simp [he]) (fun hgd => ?_) (fun hgd => ?_) <;> first | (exfalso; simp at hgd; done) | (exfalso; simp at hgd; omega) | simp -implicitDefEqProofs [hP, hN, he])
      | (with_reducible refine yB_split (by simp [he]) (fun hgd => ?_) (fun hgd => ?_) <;> first | (exfalso; simp at hgd; done) | (exfalso; simp at hgd; omega) | (simp -implicitDefEqProofs [hP, hN, he] <;> (try refine ⟨by kernel_rfl, ?_⟩)))
      | with_reducible refine xTwo_intro ?_ ?_
      | (with_reducible refine WP.cond' ?_; simp -implicitDefEqProofs [hP, hN, he])
      | (with_reducible refine xCond_split (fun hcd => ?_) (fun hcd => ?_) <;> (try (exfalso; clear hP hN; simp_all; done)) <;> (try (exfalso; simp at *; omega)))
      | with_reducible refine WP.block ?_
      | (with_reducible refine WP.skip ?_; simp [he])
      | (with_reducible refine WP.exit ?_; simp [he])
      | (with_reducible refine WP.ret ?_; simp [he]))
    refine WP.loopN [8] xs.length (fun i st => st.t 0 = .pv (.sl (xs.map encI)) ∧ st.t 1 = .pv (.sl (ys.map encI)) ∧ st.t 2 = .pv (Fv f) ∧ st.t 14 = .pv (.sl (xs.map encI)) ∧ st.t 15 = .pv (Z xs.length) ∧ st.t 16 = .pv (Z i) ∧ st.h 8 = none ∧ allZt p xs ys i = true) (by simp [allZt, he]) ?_
    rintro i st hi ⟨h0, h1, h2, h14, h15, h16, hb, hq⟩
    by_cases hlt : i < xs.length
    · have hw := wr_succ hlt hl
      have hlt' : i < ys.length := by omega
      have hF : p xs[i] ys[i] = false → allZ p xs ys = false := allZ_false hlt hlt'
      have hS : p xs[i] ys[i] = true → allZt p xs ys (i + 1) = true := allZ_step hlt hlt' hq
      repeat' (first
        | with_reducible refine WP.seq ?_
        | (with_reducible refine WP.region (hn := []) ?_; simp -implicitDefEqProofs [hP, hN, h0, h1, h2, h14, h15, h16, hb, hlt, hlt', hw])
        | (with_reducible refine WP.draw (hn := []) (by rw [hP]; kernel_rfl) (by kernel_rfl) ?_; simp -implicitDefEqProofs [hP, hN, h0, h1, h2, h14, h15, h16, hb, hlt, hlt', hw]; (try refine ⟨by kernel_rfl, ?_⟩))
        | (with_reducible refine xB_split (by simp [h0, h1, h2, h14, h15, h16, hb, hlt, hlt', hw]) (fun hgd => ?_) (fun hgd => ?_) <;> first | (exfalso; simp at hgd; done) | (exfalso; simp at hgd; omega) | simp -implicitDefEqProofs [hP, hN, h0, h1, h2, h14, h15, h16, hb, hlt, hlt', hw])
        | (with_reducible refine yB_split (by simp [h0, h1, h2, h14, h15, h16, hb, hlt, hlt', hw]) (fun hgd => ?_) (fun hgd => ?_) <;> first | (exfalso; simp at hgd; done) | (exfalso; simp at hgd; omega) | (simp -implicitDefEqProofs [hP, hN, h0, h1, h2, h14, h15, h16, hb, hlt, hlt', hw] <;> (try refine ⟨by kernel_rfl, ?_⟩)))
        | (with_reducible refine xC_intro (hf _ _) ?_; simp -implicitDefEqProofs [hP, hN, h0, h1, h2, h14, h15, h16, hb, hlt, hlt', hw])
        | (with_reducible refine yC_intro (hf _ _) ?_; simp -implicitDefEqProofs [hP, hN, h0, h1, h2, h14, h15, h16, hb, hlt, hlt', hw]; (try refine ⟨by kernel_rfl, ?_⟩))
        | with_reducible refine xTwo_intro ?_ ?_
        | (with_reducible refine WP.cond' ?_; simp -implicitDefEqProofs [hP, hN, h0, h1, h2, h14, h15, h16, hb, hlt, hlt', hw])
        | (with_reducible refine xCond_split (fun hcd => ?_) (fun hcd => ?_) <;> (try (exfalso; clear hP hN; simp_all; done)) <;> (try (exfalso; simp at *; omega)))
        | with_reducible refine WP.block ?_
        | (with_reducible refine WP.skip ?_; simp [h0, h1, h2, h14, h15, h16, hb, hlt, hlt', hw])
        | (with_reducible refine WP.exit ?_; simp [h0, h1, h2, h14, h15, h16, hb, hlt, hlt', hw])
        | (with_reducible refine WP.ret ?_; simp [h0, h1, h2, h14, h15, h16, hb, hlt, hlt', hw]))
      all_goals first | exact hF (by simpa using hcd) | simpa using hS (by simpa using hcd)
    · skip
      repeat' (first
        | with_reducible refine WP.seq ?_
        | (with_reducible refine WP.region (hn := []) ?_; simp -implicitDefEqProofs [hP, hN, h0, h1, h2, h14, h15, h16, hb, hlt])
        | (with_reducible refine WP.draw (hn := []) (by rw [hP]; kernel_rfl) (by kernel_rfl) ?_; simp -implicitDefEqProofs [hP, hN, h0, h1, h2, h14, h15, h16, hb, hlt]; (try refine ⟨by kernel_rfl, ?_⟩))
        | (with_reducible refine xB_split (by simp [h0, h1, h2, h14, h15, h16, hb, hlt]) (fun hgd => ?_) (fun hgd => ?_) <;> first | (exfalso; simp at hgd; done) | (exfalso; simp at hgd; omega) | simp -implicitDefEqProofs [hP, hN, h0, h1, h2, h14, h15, h16, hb, hlt])
        | (with_reducible refine yB_split (by simp [h0, h1, h2, h14, h15, h16, hb, hlt]) (fun hgd => ?_) (fun hgd => ?_) <;> first | (exfalso; simp at hgd; done) | (exfalso; simp at hgd; omega) | (simp -implicitDefEqProofs [hP, hN, h0, h1, h2, h14, h15, h16, hb, hlt] <;> (try refine ⟨by kernel_rfl, ?_⟩)))
        | with_reducible refine xTwo_intro ?_ ?_
        | (with_reducible refine WP.cond' ?_; simp -implicitDefEqProofs [hP, hN, h0, h1, h2, h14, h15, h16, hb, hlt])
        | (with_reducible refine xCond_split (fun hcd => ?_) (fun hcd => ?_) <;> (try (exfalso; clear hP hN; simp_all; done)) <;> (try (exfalso; simp at *; omega)))
        | with_reducible refine WP.block ?_
        | (with_reducible refine WP.skip ?_; simp [h0, h1, h2, h14, h15, h16, hb, hlt])
        | (with_reducible refine WP.exit ?_; simp [h0, h1, h2, h14, h15, h16, hb, hlt])
        | (with_reducible refine WP.ret ?_; simp [h0, h1, h2, h14, h15, h16, hb, hlt]))
      all_goals simp [he, allZ_done hlt hq]
  · skip
    repeat' (first
      | with_reducible refine WP.seq ?_
      | (with_reducible refine WP.region (hn := []) ?_; simp -implicitDefEqProofs [hP, hN, he])
      | (with_reducible refine WP.draw (hn := []) (by rw [hP]; kernel_rfl) (by kernel_rfl) ?_; simp -implicitDefEqProofs [hP, hN, he]; (try refine ⟨by kernel_rfl, ?_⟩))
      | (with_reducible refine xB_split (by simp [he]) (fun hgd => ?_) (fun hgd => ?_) <;> first | (exfalso; simp at hgd; done) | (exfalso; simp at hgd; omega) | simp -implicitDefEqProofs [hP, hN, he])
      | (with_reducible refine yB_split (by simp [he]) (fun hgd => ?_) (fun hgd => ?_) <;> first | (exfalso; simp at hgd; done) | (exfalso; simp at hgd; omega) | (simp -implicitDefEqProofs [hP, hN, he] <;> (try refine ⟨by kernel_rfl, ?_⟩)))
      | with_reducible refine xTwo_intro ?_ ?_
      | (with_reducible refine WP.cond' ?_; simp -implicitDefEqProofs [hP, hN, he])
      | (with_reducible refine xCond_split (fun hcd => ?_) (fun hcd => ?_) <;> (try (exfalso; clear hP hN; simp_all; done)) <;> (try (exfalso; simp at *; omega)))
      | with_reducible refine WP.block ?_
      | (with_reducible refine WP.skip ?_; simp [he])
      | (with_reducible refine WP.exit ?_; simp [he])
      | (with_reducible refine WP.ret ?_; simp [he]))
    all_goals simp [he]
theorem d167 (f : FuncId) (g : Int × Int → Int → Int) (xs : List (Int × Int)) (ys : List (Int)) (hl : xs.length ≤ 16777216) (he : xs.length = ys.length) (hf : ∀ a b, DetH Try.prog f [.pv (encI a), .pv (Z b)] [] [] (.pv (Z (g a b)))) : DetH Try.prog 167 [.pv (.sl (xs.map encI)), .pv (.sl (ys.map Z)), .pv (Fv f)] [] [] (.pv (.sl ((List.zipWith g xs ys).map Z))) := by
  refine detP_of Try.func167 rfl (by kernel_rfl) (by simp [Try.f167]) rfl ?_
  intro C hP hN
  simp only [Try.f167] at hN ⊢
  repeat' (first
    | with_reducible refine WP.seq ?_
    | (with_reducible refine WP.region (hn := []) ?_; simp -implicitDefEqProofs [hP, hN, hl, show (8 : Int) * xs.length ≤ 281474976710656 by omega, show (xs.length : Int) ≤ 9223372036854775807 by omega])
    | (with_reducible refine WP.draw (hn := []) (by rw [hP]; kernel_rfl) (by kernel_rfl) ?_; simp -implicitDefEqProofs [hP, hN, hl, show (8 : Int) * xs.length ≤ 281474976710656 by omega, show (xs.length : Int) ≤ 9223372036854775807 by omega]; (try refine ⟨by kernel_rfl, ?_⟩))
    | (with_reducible refine xB_split (by simp [hl, show (8 : Int) * xs.length ≤ 281474976710656 by omega, show (xs.length : Int) ≤ 9223372036854775807 by omega]) (fun hgd => ?_) (fun hgd => ?_) <;> first | (exfalso; simp at hgd; done) | (exfalso; simp at hgd; omega) | simp -implicitDefEqProofs [hP, hN, hl, show (8 : Int) * xs.length ≤ 281474976710656 by omega, show (xs.length : Int) ≤ 9223372036854775807 by omega])
    | (with_reducible refine yB_split (by simp [hl, show (8 : Int) * xs.length ≤ 281474976710656 by omega, show (xs.length : Int) ≤ 9223372036854775807 by omega]) (fun hgd => ?_) (fun hgd => ?_) <;> first | (exfalso; simp at hgd; done) | (exfalso; simp at hgd; omega) | (simp -implicitDefEqProofs [hP, hN, hl, show (8 : Int) * xs.length ≤ 281474976710656 by omega, show (xs.length : Int) ≤ 9223372036854775807 by omega] <;> (try refine ⟨by kernel_rfl, ?_⟩)))
    | with_reducible refine xTwo_intro ?_ ?_
    | (with_reducible refine WP.cond' ?_; simp -implicitDefEqProofs [hP, hN, hl, show (8 : Int) * xs.length ≤ 281474976710656 by omega, show (xs.length : Int) ≤ 9223372036854775807 by omega])
    | (with_reducible refine xCond_split (fun hcd => ?_) (fun hcd => ?_) <;> (try (exfalso; clear hP hN; simp_all; done)) <;> (try (exfalso; simp at *; omega)))
    | with_reducible refine WP.block ?_
    | (with_reducible refine WP.skip ?_; simp [hl, show (8 : Int) * xs.length ≤ 281474976710656 by omega, show (xs.length : Int) ≤ 9223372036854775807 by omega])
    | (with_reducible refine WP.exit ?_; simp [hl, show (8 : Int) * xs.length ≤ 281474976710656 by omega, show (xs.length : Int) ≤ 9223372036854775807 by omega])
    | (with_reducible refine WP.ret ?_; simp [hl, show (8 : Int) * xs.length ≤ 281474976710656 by omega, show (xs.length : Int) ≤ 9223372036854775807 by omega]))
  refine WP.loopN [9] xs.length (fun i st => st.t 0 = .pv (.sl (xs.map encI)) ∧ st.t 1 = .pv (.sl (ys.map Z)) ∧ st.t 2 = .pv (Fv f) ∧ st.t 7 = .arr 12 xs.length ∧ st.t 13 = .pv (.sl (xs.map encI)) ∧ st.t 14 = .pv (Z xs.length) ∧ st.t 15 = .pv (Z i) ∧ st.h 9 = none ∧
    ∃ L, st.h 12 = some (.row 2 1 L 0) ∧ L.length = xs.length ∧ ∀ j, j < i → L[j]? = ((List.zipWith g xs ys).map Z)[j]?) (by simp) ?_
  rintro i st hi ⟨h0, h1, h2, h7, h13, h14, h15, hb, L, hL, hLl, hq⟩
  have hT : L.length = ((List.zipWith g xs ys).map Z).length := by simp [hLl, he]
  by_cases hlt : i < xs.length
  · have hw := wr_succ hlt (big hl)
    have hlt' : i < ys.length := by omega
    have hltL : i < L.length := by omega
    repeat' (first
      | with_reducible refine WP.seq ?_
      | (with_reducible refine WP.region (hn := []) ?_; simp -implicitDefEqProofs [hP, hN, h0, h1, h2, h7, h13, h14, h15, hb, hL, hLl, hlt, hlt', hltL, hw])
      | (with_reducible refine WP.draw (hn := []) (by rw [hP]; kernel_rfl) (by kernel_rfl) ?_; simp -implicitDefEqProofs [hP, hN, h0, h1, h2, h7, h13, h14, h15, hb, hL, hLl, hlt, hlt', hltL, hw]; (try refine ⟨by kernel_rfl, ?_⟩))
      | (with_reducible refine xB_split (by simp [h0, h1, h2, h7, h13, h14, h15, hb, hL, hLl, hlt, hlt', hltL, hw]) (fun hgd => ?_) (fun hgd => ?_) <;> first | (exfalso; simp at hgd; done) | (exfalso; simp at hgd; omega) | simp -implicitDefEqProofs [hP, hN, h0, h1, h2, h7, h13, h14, h15, hb, hL, hLl, hlt, hlt', hltL, hw])
      | (with_reducible refine yB_split (by simp [h0, h1, h2, h7, h13, h14, h15, hb, hL, hLl, hlt, hlt', hltL, hw]) (fun hgd => ?_) (fun hgd => ?_) <;> first | (exfalso; simp at hgd; done) | (exfalso; simp at hgd; omega) | (simp -implicitDefEqProofs [hP, hN, h0, h1, h2, h7, h13, h14, h15, hb, hL, hLl, hlt, hlt', hltL, hw] <;> (try refine ⟨by kernel_rfl, ?_⟩)))
      | (with_reducible refine xC_intro (hf _ _) ?_; simp -implicitDefEqProofs [hP, hN, h0, h1, h2, h7, h13, h14, h15, hb, hL, hLl, hlt, hlt', hltL, hw])
      | (with_reducible refine yC_intro (hf _ _) ?_; simp -implicitDefEqProofs [hP, hN, h0, h1, h2, h7, h13, h14, h15, hb, hL, hLl, hlt, hlt', hltL, hw]; (try refine ⟨by kernel_rfl, ?_⟩))
      | with_reducible refine xTwo_intro ?_ ?_
      | (with_reducible refine WP.cond' ?_; simp -implicitDefEqProofs [hP, hN, h0, h1, h2, h7, h13, h14, h15, hb, hL, hLl, hlt, hlt', hltL, hw])
      | (with_reducible refine xCond_split (fun hcd => ?_) (fun hcd => ?_) <;> (try (exfalso; clear hP hN; simp_all; done)) <;> (try (exfalso; simp at *; omega)))
      | with_reducible refine WP.block ?_
      | (with_reducible refine WP.skip ?_; simp [h0, h1, h2, h7, h13, h14, h15, hb, hL, hLl, hlt, hlt', hltL, hw])
      | (with_reducible refine WP.exit ?_; simp [h0, h1, h2, h7, h13, h14, h15, hb, hL, hLl, hlt, hlt', hltL, hw])
      | (with_reducible refine WP.ret ?_; simp [h0, h1, h2, h7, h13, h14, h15, hb, hL, hLl, hlt, hlt', hltL, hw]))
    simpa using upto_set hT hq (v := Z (g xs[i] ys[i])) (by simp [List.getElem?_zipWith, hlt, hlt'])
  · skip
    repeat' (first
      | with_reducible refine WP.seq ?_
      | (with_reducible refine WP.region (hn := []) ?_; simp -implicitDefEqProofs [hP, hN, h0, h1, h2, h7, h13, h14, h15, hb, hL, hLl, hlt])
      | (with_reducible refine WP.draw (hn := []) (by rw [hP]; kernel_rfl) (by kernel_rfl) ?_; simp -implicitDefEqProofs [hP, hN, h0, h1, h2, h7, h13, h14, h15, hb, hL, hLl, hlt]; (try refine ⟨by kernel_rfl, ?_⟩))
      | (with_reducible refine xB_split (by simp [h0, h1, h2, h7, h13, h14, h15, hb, hL, hLl, hlt]) (fun hgd => ?_) (fun hgd => ?_) <;> first | (exfalso; simp at hgd; done) | (exfalso; simp at hgd; omega) | simp -implicitDefEqProofs [hP, hN, h0, h1, h2, h7, h13, h14, h15, hb, hL, hLl, hlt])
      | (with_reducible refine yB_split (by simp [h0, h1, h2, h7, h13, h14, h15, hb, hL, hLl, hlt]) (fun hgd => ?_) (fun hgd => ?_) <;> first | (exfalso; simp at hgd; done) | (exfalso; simp at hgd; omega) | (simp -implicitDefEqProofs [hP, hN, h0, h1, h2, h7, h13, h14, h15, hb, hL, hLl, hlt] <;> (try refine ⟨by kernel_rfl, ?_⟩)))
      | with_reducible refine xTwo_intro ?_ ?_
      | (with_reducible refine WP.cond' ?_; simp -implicitDefEqProofs [hP, hN, h0, h1, h2, h7, h13, h14, h15, hb, hL, hLl, hlt])
      | (with_reducible refine xCond_split (fun hcd => ?_) (fun hcd => ?_) <;> (try (exfalso; clear hP hN; simp_all; done)) <;> (try (exfalso; simp at *; omega)))
      | with_reducible refine WP.block ?_
      | (with_reducible refine WP.skip ?_; simp [h0, h1, h2, h7, h13, h14, h15, hb, hL, hLl, hlt])
      | (with_reducible refine WP.exit ?_; simp [h0, h1, h2, h7, h13, h14, h15, hb, hL, hLl, hlt])
      | (with_reducible refine WP.ret ?_; simp [h0, h1, h2, h7, h13, h14, h15, hb, hL, hLl, hlt]))
    simpa using upto_all hT hq (by simp; omega)
def clampI (x : Int × Int) (y : Int) : Int := min (max y x.1) x.2
theorem d168 (x : Int × Int) (y : Int) : DetH Try.prog 168 [.pv (encI x), .pv (Z y)] [] [] (.pv (Z (clampI x y))) := by
  refine detP_of Try.func168 rfl (by kernel_rfl) (by simp [Try.f168]) rfl ?_
  intro C hP hN
  simp only [Try.f168] at hN ⊢
  repeat' (first
    | with_reducible refine WP.seq ?_
    | (with_reducible refine WP.region (hn := []) ?_; simp -implicitDefEqProofs [hP, hN])
    | (with_reducible refine WP.draw (hn := []) (by rw [hP]; kernel_rfl) (by kernel_rfl) ?_; simp -implicitDefEqProofs [hP, hN]; (try refine ⟨by kernel_rfl, ?_⟩))
    | (with_reducible refine xB_split (by simp) (fun hgd => ?_) (fun hgd => ?_) <;> first | (exfalso; simp at hgd; done) | (exfalso; simp at hgd; omega) | simp -implicitDefEqProofs [hP, hN])
    | (with_reducible refine yB_split (by simp) (fun hgd => ?_) (fun hgd => ?_) <;> first | (exfalso; simp at hgd; done) | (exfalso; simp at hgd; omega) | (simp -implicitDefEqProofs [hP, hN] <;> (try refine ⟨by kernel_rfl, ?_⟩)))
    | with_reducible refine xTwo_intro ?_ ?_
    | (with_reducible refine WP.cond' ?_; simp -implicitDefEqProofs [hP, hN])
    | (with_reducible refine xCond_split (fun hcd => ?_) (fun hcd => ?_) <;> (try (exfalso; clear hP hN; simp_all; done)) <;> (try (exfalso; simp at *; omega)))
    | with_reducible refine WP.block ?_
    | (with_reducible refine WP.skip ?_; simp)
    | (with_reducible refine WP.exit ?_; simp)
    | (with_reducible refine WP.ret ?_; simp))
  all_goals (first | (simp_all [clampI]; done) | ((try simp_all [clampI]) <;> (try omega) <;> grind))
def clampL (xs : List (Int × Int)) (ys : List Int) : List Int := if decide (xs.length = ys.length) && allB vI xs then List.zipWith clampI xs ys else []
theorem d126 (xs : List (Int × Int)) (ys : List Int) (hl : xs.length ≤ 16777216) : DetH Try.prog 126 [.pv (iv xs), .pv (zs ys)] [] [] (.pv (zs (clampL xs ys))) := by
  refine detP_of Try.func126 rfl (by kernel_rfl) (by simp [Try.f126]) rfl ?_
  intro C hP hN
  simp only [Try.f126] at hN ⊢
  by_cases he : xs.length = ys.length
  · cases hv : allB vI xs with
    | false =>
      repeat' (first
        | with_reducible refine WP.seq ?_
        | (with_reducible refine WP.region (hn := []) ?_; simp -implicitDefEqProofs [hP, hN, he, hv])
        | (with_reducible refine WP.draw (hn := []) (by rw [hP]; kernel_rfl) (by kernel_rfl) ?_; simp -implicitDefEqProofs [hP, hN, he, hv]; (try refine ⟨by kernel_rfl, ?_⟩))
        | (with_reducible refine xB_split (by simp [he, hv]) (fun hgd => ?_) (fun hgd => ?_) <;> first | (exfalso; simp at hgd; done) | (exfalso; simp at hgd; omega) | simp -implicitDefEqProofs [hP, hN, he, hv])
        | (with_reducible refine yB_split (by simp [he, hv]) (fun hgd => ?_) (fun hgd => ?_) <;> first | (exfalso; simp at hgd; done) | (exfalso; simp at hgd; omega) | (simp -implicitDefEqProofs [hP, hN, he, hv] <;> (try refine ⟨by kernel_rfl, ?_⟩)))
        | (with_reducible refine xC_intro (d152 _ (big hl)) ?_; simp -implicitDefEqProofs [hP, hN, he, hv])
        | (with_reducible refine yC_intro (d152 _ (big hl)) ?_; simp -implicitDefEqProofs [hP, hN, he, hv]; (try refine ⟨by kernel_rfl, ?_⟩))
        | with_reducible refine xTwo_intro ?_ ?_
        | (with_reducible refine WP.cond' ?_; simp -implicitDefEqProofs [hP, hN, he, hv])
        | (with_reducible refine xCond_split (fun hcd => ?_) (fun hcd => ?_) <;> (try (exfalso; clear hP hN; simp_all; done)) <;> (try (exfalso; simp at *; omega)))
        | with_reducible refine WP.block ?_
        | (with_reducible refine WP.skip ?_; simp [he, hv])
        | (with_reducible refine WP.exit ?_; simp [he, hv])
        | (with_reducible refine WP.ret ?_; simp [he, hv]))
      all_goals simp [clampL, he, hv]
    | true =>
      repeat' (first
        | with_reducible refine WP.seq ?_
        | (with_reducible refine WP.region (hn := []) ?_; simp -implicitDefEqProofs [hP, hN, he, hv])
        | (with_reducible refine WP.draw (hn := []) (by rw [hP]; kernel_rfl) (by kernel_rfl) ?_; simp -implicitDefEqProofs [hP, hN, he, hv]; (try refine ⟨by kernel_rfl, ?_⟩))
        | (with_reducible refine xB_split (by simp [he, hv]) (fun hgd => ?_) (fun hgd => ?_) <;> first | (exfalso; simp at hgd; done) | (exfalso; simp at hgd; omega) | simp -implicitDefEqProofs [hP, hN, he, hv])
        | (with_reducible refine yB_split (by simp [he, hv]) (fun hgd => ?_) (fun hgd => ?_) <;> first | (exfalso; simp at hgd; done) | (exfalso; simp at hgd; omega) | (simp -implicitDefEqProofs [hP, hN, he, hv] <;> (try refine ⟨by kernel_rfl, ?_⟩)))
        | (with_reducible refine xC_intro (d152 _ (big hl)) ?_; simp -implicitDefEqProofs [hP, hN, he, hv])
        | (with_reducible refine yC_intro (d152 _ (big hl)) ?_; simp -implicitDefEqProofs [hP, hN, he, hv]; (try refine ⟨by kernel_rfl, ?_⟩))
        | (with_reducible refine xC_intro (d167 _ _ _ _ hl he d168) ?_; simp -implicitDefEqProofs [hP, hN, he, hv])
        | (with_reducible refine yC_intro (d167 _ _ _ _ hl he d168) ?_; simp -implicitDefEqProofs [hP, hN, he, hv]; (try refine ⟨by kernel_rfl, ?_⟩))
        | with_reducible refine xTwo_intro ?_ ?_
        | (with_reducible refine WP.cond' ?_; simp -implicitDefEqProofs [hP, hN, he, hv])
        | (with_reducible refine xCond_split (fun hcd => ?_) (fun hcd => ?_) <;> (try (exfalso; clear hP hN; simp_all; done)) <;> (try (exfalso; simp at *; omega)))
        | with_reducible refine WP.block ?_
        | (with_reducible refine WP.skip ?_; simp [he, hv])
        | (with_reducible refine WP.exit ?_; simp [he, hv])
        | (with_reducible refine WP.ret ?_; simp [he, hv]))
      all_goals simp [clampL, he, hv]
  · skip
    repeat' (first
      | with_reducible refine WP.seq ?_
      | (with_reducible refine WP.region (hn := []) ?_; simp -implicitDefEqProofs [hP, hN, he])
      | (with_reducible refine WP.draw (hn := []) (by rw [hP]; kernel_rfl) (by kernel_rfl) ?_; simp -implicitDefEqProofs [hP, hN, he]; (try refine ⟨by kernel_rfl, ?_⟩))
      | (with_reducible refine xB_split (by simp [he]) (fun hgd => ?_) (fun hgd => ?_) <;> first | (exfalso; simp at hgd; done) | (exfalso; simp at hgd; omega) | simp -implicitDefEqProofs [hP, hN, he])
      | (with_reducible refine yB_split (by simp [he]) (fun hgd => ?_) (fun hgd => ?_) <;> first | (exfalso; simp at hgd; done) | (exfalso; simp at hgd; omega) | (simp -implicitDefEqProofs [hP, hN, he] <;> (try refine ⟨by kernel_rfl, ?_⟩)))
      | (with_reducible refine xC_intro (d152 _ (big hl)) ?_; simp -implicitDefEqProofs [hP, hN, he])
      | (with_reducible refine yC_intro (d152 _ (big hl)) ?_; simp -implicitDefEqProofs [hP, hN, he]; (try refine ⟨by kernel_rfl, ?_⟩))
      | with_reducible refine xTwo_intro ?_ ?_
      | (with_reducible refine WP.cond' ?_; simp -implicitDefEqProofs [hP, hN, he])
      | (with_reducible refine xCond_split (fun hcd => ?_) (fun hcd => ?_) <;> (try (exfalso; clear hP hN; simp_all; done)) <;> (try (exfalso; simp at *; omega)))
      | with_reducible refine WP.block ?_
      | (with_reducible refine WP.skip ?_; simp [he])
      | (with_reducible refine WP.exit ?_; simp [he])
      | (with_reducible refine WP.ret ?_; simp [he]))
    all_goals simp [clampL, he]
theorem hMid (a : Int × Int) : DetH Try.prog 154 [.pv (encI a)] [] [] (.pv (Z (midI a))) := d154 a.1 a.2
theorem hHas (a : Int × Int) (b : Int) : DetH Try.prog 150 [.pv (encI a), .pv (Z b)] [] [] (.pv (B (hasI a b))) := d150 a.1 a.2 b
def middleL (xs : List (Int × Int)) : List Int := if allB vI xs then xs.map midI else []
def hasC (xs : List (Int × Int)) (ys : List Int) : Bool := decide (xs.length = ys.length) && allZ hasI xs ys
def withinC (xs ys : List (Int × Int)) : Bool := decide (xs.length = ys.length) && allZ withinI xs ys
def touchI (x y : Int × Int) : Bool := validB x.1 x.2 && validB y.1 y.2 && decide (max x.1 y.1 ≤ min x.2 y.2)
def touchC (xs ys : List (Int × Int)) : Bool := decide (xs.length = ys.length) && allZ touchI xs ys
theorem d86 (xs : List (Int × Int)) (ys : List Int) (hl : xs.length ≤ 9223372036854775807) : DetH Try.prog 86 [.pv (iv xs), .pv (zs ys)] [] [] (.pv (B (hasC xs ys))) := by
  refine detP_of Try.func86 rfl (by kernel_rfl) (by simp [Try.f86]) rfl ?_
  intro C hP hN
  simp only [Try.f86] at hN ⊢
  repeat' (first
    | with_reducible refine WP.seq ?_
    | (with_reducible refine WP.region (hn := []) ?_; simp -implicitDefEqProofs [hP, hN])
    | (with_reducible refine WP.draw (hn := []) (by rw [hP]; kernel_rfl) (by kernel_rfl) ?_; simp -implicitDefEqProofs [hP, hN]; (try refine ⟨by kernel_rfl, ?_⟩))
    | (with_reducible refine xB_split (by simp) (fun hgd => ?_) (fun hgd => ?_) <;> first | (exfalso; simp at hgd; done) | (exfalso; simp at hgd; omega) | simp -implicitDefEqProofs [hP, hN])
    | (with_reducible refine yB_split (by simp) (fun hgd => ?_) (fun hgd => ?_) <;> first | (exfalso; simp at hgd; done) | (exfalso; simp at hgd; omega) | (simp -implicitDefEqProofs [hP, hN] <;> (try refine ⟨by kernel_rfl, ?_⟩)))
    | (with_reducible refine xC_intro (d149 _ hasI _ _ hl hHas) ?_; simp -implicitDefEqProofs [hP, hN])
    | (with_reducible refine yC_intro (d149 _ hasI _ _ hl hHas) ?_; simp -implicitDefEqProofs [hP, hN]; (try refine ⟨by kernel_rfl, ?_⟩))
    | with_reducible refine xTwo_intro ?_ ?_
    | (with_reducible refine WP.cond' ?_; simp -implicitDefEqProofs [hP, hN])
    | (with_reducible refine xCond_split (fun hcd => ?_) (fun hcd => ?_) <;> (try (exfalso; clear hP hN; simp_all; done)) <;> (try (exfalso; simp at *; omega)))
    | with_reducible refine WP.block ?_
    | (with_reducible refine WP.skip ?_; simp)
    | (with_reducible refine WP.exit ?_; simp)
    | (with_reducible refine WP.ret ?_; simp))
  all_goals (first | (simp_all [hasC]; done) | ((try simp_all [hasC]) <;> (try omega) <;> grind))
theorem d158 (x y : Int × Int) : DetH Try.prog 158 [.pv (encI x), .pv (encI y)] [] [] (.pv (B (touchI x y))) := by
  refine detP_of Try.func158 rfl (by kernel_rfl) (by simp [Try.f158]) rfl ?_
  intro C hP hN
  simp only [Try.f158] at hN ⊢
  cases h : touchI x y with
  | true =>
    have h' : (validB x.1 x.2 && validB y.1 y.2 && decide (max x.1 y.1 ≤ min x.2 y.2)) = true := h
    repeat' (first
      | with_reducible refine WP.seq ?_
      | (with_reducible refine WP.region (hn := []) ?_; simp -implicitDefEqProofs [hP, hN, h'])
      | (with_reducible refine WP.draw (hn := []) (by rw [hP]; kernel_rfl) (by kernel_rfl) ?_; simp -implicitDefEqProofs [hP, hN, h']; (try refine ⟨by kernel_rfl, ?_⟩))
      | (with_reducible refine xB_split (by simp [h']) (fun hgd => ?_) (fun hgd => ?_) <;> first | (exfalso; simp at hgd; done) | (exfalso; simp at hgd; omega) | simp -implicitDefEqProofs [hP, hN, h'])
      | (with_reducible refine yB_split (by simp [h']) (fun hgd => ?_) (fun hgd => ?_) <;> first | (exfalso; simp at hgd; done) | (exfalso; simp at hgd; omega) | (simp -implicitDefEqProofs [hP, hN, h'] <;> (try refine ⟨by kernel_rfl, ?_⟩)))
      | (with_reducible refine xC_intro (d159 _ _ _ _) ?_; simp -implicitDefEqProofs [hP, hN, h'])
      | (with_reducible refine yC_intro (d159 _ _ _ _) ?_; simp -implicitDefEqProofs [hP, hN, h']; (try refine ⟨by kernel_rfl, ?_⟩))
      | with_reducible refine xTwo_intro ?_ ?_
      | (with_reducible refine WP.cond' ?_; simp -implicitDefEqProofs [hP, hN, h'])
      | (with_reducible refine xCond_split (fun hcd => ?_) (fun hcd => ?_) <;> (try (exfalso; clear hP hN; simp_all; done)) <;> (try (exfalso; simp at *; omega)))
      | with_reducible refine WP.block ?_
      | (with_reducible refine WP.skip ?_; simp [h'])
      | (with_reducible refine WP.exit ?_; simp [h'])
      | (with_reducible refine WP.ret ?_; simp [h']))
  | false =>
    have h' : (validB x.1 x.2 && validB y.1 y.2 && decide (max x.1 y.1 ≤ min x.2 y.2)) = false := h
    repeat' (first
      | with_reducible refine WP.seq ?_
      | (with_reducible refine WP.region (hn := []) ?_; simp -implicitDefEqProofs [hP, hN, h'])
      | (with_reducible refine WP.draw (hn := []) (by rw [hP]; kernel_rfl) (by kernel_rfl) ?_; simp -implicitDefEqProofs [hP, hN, h']; (try refine ⟨by kernel_rfl, ?_⟩))
      | (with_reducible refine xB_split (by simp [h']) (fun hgd => ?_) (fun hgd => ?_) <;> first | (exfalso; simp at hgd; done) | (exfalso; simp at hgd; omega) | simp -implicitDefEqProofs [hP, hN, h'])
      | (with_reducible refine yB_split (by simp [h']) (fun hgd => ?_) (fun hgd => ?_) <;> first | (exfalso; simp at hgd; done) | (exfalso; simp at hgd; omega) | (simp -implicitDefEqProofs [hP, hN, h'] <;> (try refine ⟨by kernel_rfl, ?_⟩)))
      | (with_reducible refine xC_intro (d159 _ _ _ _) ?_; simp -implicitDefEqProofs [hP, hN, h'])
      | (with_reducible refine yC_intro (d159 _ _ _ _) ?_; simp -implicitDefEqProofs [hP, hN, h']; (try refine ⟨by kernel_rfl, ?_⟩))
      | with_reducible refine xTwo_intro ?_ ?_
      | (with_reducible refine WP.cond' ?_; simp -implicitDefEqProofs [hP, hN, h'])
      | (with_reducible refine xCond_split (fun hcd => ?_) (fun hcd => ?_) <;> (try (exfalso; clear hP hN; simp_all; done)) <;> (try (exfalso; simp at *; omega)))
      | with_reducible refine WP.block ?_
      | (with_reducible refine WP.skip ?_; simp [h'])
      | (with_reducible refine WP.exit ?_; simp [h'])
      | (with_reducible refine WP.ret ?_; simp [h']))
theorem d104 (xs ys : List (Int × Int)) (hl : xs.length ≤ 9223372036854775807) : DetH Try.prog 104 [.pv (iv xs), .pv (iv ys)] [] [] (.pv (B (touchC xs ys))) := by
  refine detP_of Try.func104 rfl (by kernel_rfl) (by simp [Try.f104]) rfl ?_
  intro C hP hN
  simp only [Try.f104] at hN ⊢
  repeat' (first
    | with_reducible refine WP.seq ?_
    | (with_reducible refine WP.region (hn := []) ?_; simp -implicitDefEqProofs [hP, hN])
    | (with_reducible refine WP.draw (hn := []) (by rw [hP]; kernel_rfl) (by kernel_rfl) ?_; simp -implicitDefEqProofs [hP, hN]; (try refine ⟨by kernel_rfl, ?_⟩))
    | (with_reducible refine xB_split (by simp) (fun hgd => ?_) (fun hgd => ?_) <;> first | (exfalso; simp at hgd; done) | (exfalso; simp at hgd; omega) | simp -implicitDefEqProofs [hP, hN])
    | (with_reducible refine yB_split (by simp) (fun hgd => ?_) (fun hgd => ?_) <;> first | (exfalso; simp at hgd; done) | (exfalso; simp at hgd; omega) | (simp -implicitDefEqProofs [hP, hN] <;> (try refine ⟨by kernel_rfl, ?_⟩)))
    | (with_reducible refine xC_intro (d157 _ touchI _ _ hl d158) ?_; simp -implicitDefEqProofs [hP, hN])
    | (with_reducible refine yC_intro (d157 _ touchI _ _ hl d158) ?_; simp -implicitDefEqProofs [hP, hN]; (try refine ⟨by kernel_rfl, ?_⟩))
    | with_reducible refine xTwo_intro ?_ ?_
    | (with_reducible refine WP.cond' ?_; simp -implicitDefEqProofs [hP, hN])
    | (with_reducible refine xCond_split (fun hcd => ?_) (fun hcd => ?_) <;> (try (exfalso; clear hP hN; simp_all; done)) <;> (try (exfalso; simp at *; omega)))
    | with_reducible refine WP.block ?_
    | (with_reducible refine WP.skip ?_; simp)
    | (with_reducible refine WP.exit ?_; simp)
    | (with_reducible refine WP.ret ?_; simp))
  all_goals (first | (simp_all [touchC]; done) | ((try simp_all [touchC]) <;> (try omega) <;> grind))
end Go.Ab
