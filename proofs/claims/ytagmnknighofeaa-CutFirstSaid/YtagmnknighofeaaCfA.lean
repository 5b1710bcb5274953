/- Cf1, Cf2, Cf3, Cf4, Cf5, Cf6, Cf7, Cf8, Cf9, Cf10, Cf11: as one text. -/
import Derived.Test.YtagmnknighofeaaTy
set_option linter.all false
/- Contracts: numbers and intervals. -/
namespace Go.Ab
open Go.Proofs
abbrev I (lo hi : Int) : PV := .val (.agg #[.int .i64 lo, .int .i64 hi])
abbrev encI (x : Int × Int) : PV := I x.1 x.2
abbrev B (b : Bool) : PV := .val (.bool b)
abbrev Z (n : Int) : PV := .val (.int .i64 n)
abbrev wr (n : Int) : Int := IntKind.i64.wrap n
def validB (lo hi : Int) : Bool := decide (-2147483648 ≤ lo) && decide (lo ≤ hi) && decide (hi ≤ 2147483648)

theorem eqI (a b c d : Int) : runPure Try.prog (Op.equal 46 (.agg #[.int .i64 a, .int .i64 b]) (.agg #[.int .i64 c, .int .i64 d])) = some (a == c && b == d) := by
  have hf : (Try.prog.fieldsOf 46).toList = [(Try.prog.fieldsOf 46)[0]!, (Try.prog.fieldsOf 46)[1]!] := by kernel_rfl
  show runPure Try.prog (Op.equalIn (9999 + 1) 46 _ _) = _
  rw [rp_struct 9999 46 _ _ (by kernel_rfl) (by kernel_rfl), hf]
  have h := rp_cons (P := Try.prog) (d := 9999) (xs := #[.int .i64 a, .int .i64 b]) (ys := #[.int .i64 c, .int .i64 d]) (f := (Try.prog.fieldsOf 46)[0]!) (fs := [(Try.prog.fieldsOf 46)[1]!]) (a := .int .i64 a) (b := .int .i64 c) (by decide +kernel) (by kernel_rfl) (by kernel_rfl) (rp_int 9998 _ .i64 .i64 a c (by kernel_rfl))
    (rp_cons (by decide +kernel) (a := .int .i64 b) (b := .int .i64 d) (by kernel_rfl) (by kernel_rfl) (rp_int 9998 _ .i64 .i64 b d (by kernel_rfl)) rp_nil)
  rw [h]; simp
def evPureX (P : Program) (o : Oper) (ρ : Operand → AV) : Option Eff := evPure P o ρ
def ints2 (x : AV) : Option (Int × Int) := match x with
  | .pv (.val (.agg vs)) => match vs.toList with
    | [.int .i64 a, .int .i64 b] => some (a, b)
    | _ => none
  | _ => none
theorem ints2_some {x : AV} {a b : Int} (h : ints2 x = some (a, b)) : x = .pv (I a b) := by
  unfold ints2 at h
  split at h
  · split at h
    · rename_i vs _ a' b' hv
      injection h with h; injection h with h1 h2; subst h1; subst h2
      rw [← Array.toArray_toList (xs := vs), hv]
    · cases h
  · cases h
def cmp2 (x y : AV) (fb : Option Eff) : Option Eff := match ints2 x, ints2 y with
  | some (a, b), some (c, d) => some (.pv (.val (.bool !(a == c && b == d))), [])
  | _, _ => fb
@[simp] theorem cmp2_some (a b c d : Int) (fb : Option Eff) : cmp2 (.pv (.val (.agg #[.int .i64 a, .int .i64 b]))) (.pv (.val (.agg #[.int .i64 c, .int .i64 d]))) fb = some (.pv (.val (.bool !(a == c && b == d))), []) := rfl
@[simp] theorem neqI {dst : Option Nat} {ty : TypeId} {pos : String} {aft : Array Edge} {g : Option (Nat × Bool)} {ρ : Operand → AV} (x y : Operand) :
    evPure Try.prog ⟨dst, .binOp .neq 46 x y 46, ty, pos, aft, g⟩ ρ = cmp2 (ρ x) (ρ y) (evPureX Try.prog ⟨dst, .binOp .neq 46 x y 46, ty, pos, aft, g⟩ ρ) := by
  unfold cmp2
  split
  · rename_i a b c d hx hy
    exact evPure_neq rfl (ints2_some hx) (ints2_some hy) (by kernel_rfl) (eqI a b c d)
  · rfl
theorem d179 (lo hi : Int) : DetH Try.prog 179 [.pv (I lo hi)] [] [] (.pv (B (validB lo hi))) := by
  refine detP_of Try.func179 rfl (by kernel_rfl) (by simp [Try.f179]) rfl ?_
  intro C hP hN
  simp only [Try.f179] at hN ⊢
  repeat' (first
    | with_reducible refine WP.seq ?_
    | (with_reducible ((first | refine WP.region (hn := []) ?_ | refine WP.cond' ?_); simp -implicitDefEqProofs (maxSteps := 2000000) [hP, hN]))
    | (with_reducible ((first | refine WP.draw (hn := []) (by rw [hP]; kernel_rfl) (by kernel_rfl) ?_); simp -implicitDefEqProofs (maxSteps := 2000000) [hP, hN]; (try refine ⟨by kernel_rfl, ?_⟩)))
    | (with_reducible refine xB_split (by simp) (fun hgd => ?_) (fun hgd => ?_) <;> first | (exfalso; simp at hgd; done) | (exfalso; simp at hgd; omega) | simp -implicitDefEqProofs (maxSteps := 2000000) [hP, hN])
    | (with_reducible refine yB_split (by simp) (fun hgd => ?_) (fun hgd => ?_) <;> first | (exfalso; simp at hgd; done) | (exfalso; simp at hgd; omega) | (simp -implicitDefEqProofs (maxSteps := 2000000) [hP, hN] <;> (try refine ⟨by kernel_rfl, ?_⟩)))
    | with_reducible refine xTwo_intro ?_ ?_
    | (with_reducible refine xCond_split (fun hcd => ?_) (fun hcd => ?_) <;> (try (exfalso; clear hP hN; simp_all; done)) <;> (try (exfalso; simp at *; omega)))
    | with_reducible refine WP.block ?_
    | (with_reducible ((first | refine WP.skip ?_ | refine WP.exit ?_ | refine WP.ret ?_); simp)))
  all_goals (first | (simp_all [validB]; done) | ((try simp_all [validB]) <;> (try omega) <;> grind))
theorem d115 (lo hi : Int) : DetH Try.prog 115 [.pv (I lo hi)] [] [] (.pv (B (validB lo hi))) := by
  refine detP_of Try.func115 rfl (by kernel_rfl) (by simp [Try.f115]) rfl ?_
  intro C hP hN
  simp only [Try.f115] at hN ⊢
  repeat' (first
    | with_reducible refine WP.seq ?_
    | (with_reducible ((first | refine WP.region (hn := []) ?_ | refine WP.cond' ?_); simp -implicitDefEqProofs (maxSteps := 2000000) [hP, hN]))
    | (with_reducible ((first | refine WP.draw (hn := []) (by rw [hP]; kernel_rfl) (by kernel_rfl) ?_); simp -implicitDefEqProofs (maxSteps := 2000000) [hP, hN]; (try refine ⟨by kernel_rfl, ?_⟩)))
    | (with_reducible refine xB_split (by simp) (fun hgd => ?_) (fun hgd => ?_) <;> first | (exfalso; simp at hgd; done) | (exfalso; simp at hgd; omega) | simp -implicitDefEqProofs (maxSteps := 2000000) [hP, hN])
    | (with_reducible refine yB_split (by simp) (fun hgd => ?_) (fun hgd => ?_) <;> first | (exfalso; simp at hgd; done) | (exfalso; simp at hgd; omega) | (simp -implicitDefEqProofs (maxSteps := 2000000) [hP, hN] <;> (try refine ⟨by kernel_rfl, ?_⟩)))
    | with_reducible refine xTwo_intro ?_ ?_
    | (with_reducible refine xCond_split (fun hcd => ?_) (fun hcd => ?_) <;> (try (exfalso; clear hP hN; simp_all; done)) <;> (try (exfalso; simp at *; omega)))
    | with_reducible refine WP.block ?_
    | (with_reducible ((first | refine WP.skip ?_ | refine WP.exit ?_ | refine WP.ret ?_); simp)))
  all_goals (first | (simp_all [validB]; done) | ((try simp_all [validB]) <;> (try omega) <;> grind))
theorem d183 (a b c d : Int) : DetH Try.prog 183 [.pv (I a b), .pv (I c d)] [] [] (.pv (B (validB a b && validB c d))) := by
  refine detP_of Try.func183 rfl (by kernel_rfl) (by simp [Try.f183]) rfl ?_
  intro C hP hN
  simp only [Try.f183] at hN ⊢
  repeat' (first
    | with_reducible refine WP.seq ?_
    | (with_reducible ((first | refine WP.region (hn := []) ?_ | refine xC_intro (d179 _ _) ?_ | refine WP.cond' ?_); simp -implicitDefEqProofs (maxSteps := 2000000) [hP, hN]))
    | (with_reducible ((first | refine WP.draw (hn := []) (by rw [hP]; kernel_rfl) (by kernel_rfl) ?_ | refine yC_intro (d179 _ _) ?_); simp -implicitDefEqProofs (maxSteps := 2000000) [hP, hN]; (try refine ⟨by kernel_rfl, ?_⟩)))
    | (with_reducible refine xB_split (by simp) (fun hgd => ?_) (fun hgd => ?_) <;> first | (exfalso; simp at hgd; done) | (exfalso; simp at hgd; omega) | simp -implicitDefEqProofs (maxSteps := 2000000) [hP, hN])
    | (with_reducible refine yB_split (by simp) (fun hgd => ?_) (fun hgd => ?_) <;> first | (exfalso; simp at hgd; done) | (exfalso; simp at hgd; omega) | (simp -implicitDefEqProofs (maxSteps := 2000000) [hP, hN] <;> (try refine ⟨by kernel_rfl, ?_⟩)))
    | with_reducible refine xTwo_intro ?_ ?_
    | (with_reducible refine xCond_split (fun hcd => ?_) (fun hcd => ?_) <;> (try (exfalso; clear hP hN; simp_all; done)) <;> (try (exfalso; simp at *; omega)))
    | with_reducible refine WP.block ?_
    | (with_reducible ((first | refine WP.skip ?_ | refine WP.exit ?_ | refine WP.ret ?_); simp)))
  all_goals (first | (simp_all; done) | ((try simp_all) <;> (try omega) <;> grind))
def roundI (n k : Int) : Int := if n.tmod k < 0 then wr (n.tmod k + k) else n.tmod k
theorem d35 (n k : Int) (hk : k ≠ 0) : DetH Try.prog 35 [.pv (Z n), .pv (Z k)] [] [] (.pv (Z (roundI n k))) := by
  refine detP_of Try.func35 rfl (by kernel_rfl) (by simp [Try.f35]) rfl ?_
  intro C hP hN
  simp only [Try.f35] at hN ⊢
  repeat' (first
    | with_reducible refine WP.seq ?_
    | (with_reducible ((first | refine WP.region (hn := []) ?_ | refine WP.cond' ?_); simp -implicitDefEqProofs (maxSteps := 2000000) [hP, hN, hk]))
    | (with_reducible ((first | refine WP.draw (hn := []) (by rw [hP]; kernel_rfl) (by kernel_rfl) ?_); simp -implicitDefEqProofs (maxSteps := 2000000) [hP, hN, hk]; (try refine ⟨by kernel_rfl, ?_⟩)))
    | (with_reducible refine xB_split (by simp [hk]) (fun hgd => ?_) (fun hgd => ?_) <;> first | (exfalso; simp at hgd; done) | (exfalso; simp at hgd; omega) | simp -implicitDefEqProofs (maxSteps := 2000000) [hP, hN, hk])
    | (with_reducible refine yB_split (by simp [hk]) (fun hgd => ?_) (fun hgd => ?_) <;> first | (exfalso; simp at hgd; done) | (exfalso; simp at hgd; omega) | (simp -implicitDefEqProofs (maxSteps := 2000000) [hP, hN, hk] <;> (try refine ⟨by kernel_rfl, ?_⟩)))
    | with_reducible refine xTwo_intro ?_ ?_
    | (with_reducible refine xCond_split (fun hcd => ?_) (fun hcd => ?_) <;> (try (exfalso; clear hP hN; simp_all; done)) <;> (try (exfalso; simp at *; omega)))
    | with_reducible refine WP.block ?_
    | (with_reducible ((first | refine WP.skip ?_ | refine WP.exit ?_ | refine WP.ret ?_); simp [hk])))
  all_goals (first | (simp_all [roundI]; done) | ((try simp_all [roundI]) <;> (try omega) <;> grind))

@[simp] theorem ite_min (a b : Int) : (if b < a then b else a) = min a b := by split <;> omega
@[simp] theorem ite_max (a b : Int) : (if a < b then b else a) = max a b := by split <;> omega
theorem wr_id {n : Int} (h1 : -9223372036854775808 ≤ n) (h2 : n < 9223372036854775808) : wr n = n := by
  rw [wr, IntKind.wrap_i64]; omega

theorem min64 {k : Int} (hk : k < 64) : min k.toNat 64 = k.toNat := by omega
theorem bits64 : IntKind.i64.bits = 64 := rfl
theorem d182 (a k : Int) (h : 0 ≤ k) (hk : k < 64) : DetH Try.prog 182 [.pv (Z a), .pv (Z k)] [] [] (.pv (Z (a.fdiv (2 ^ k.toNat)))) := by
  refine detP_of Try.func182 rfl (by kernel_rfl) (by simp [Try.f182]) rfl ?_
  intro C hP hN
  simp only [Try.f182] at hN ⊢
  repeat' (first
    | with_reducible refine WP.seq ?_
    | (with_reducible ((first | refine WP.region (hn := []) ?_ | refine WP.cond' ?_); simp -implicitDefEqProofs (maxSteps := 2000000) [hP, hN, h, bits64, min64 hk]))
    | (with_reducible ((first | refine WP.draw (hn := []) (by rw [hP]; kernel_rfl) (by kernel_rfl) ?_); simp -implicitDefEqProofs (maxSteps := 2000000) [hP, hN, h, bits64, min64 hk]; (try refine ⟨by kernel_rfl, ?_⟩)))
    | (with_reducible refine xB_split (by simp [h, bits64, min64 hk]) (fun hgd => ?_) (fun hgd => ?_) <;> first | (exfalso; simp at hgd; done) | (exfalso; simp at hgd; omega) | simp -implicitDefEqProofs (maxSteps := 2000000) [hP, hN, h, bits64, min64 hk])
    | (with_reducible refine yB_split (by simp [h, bits64, min64 hk]) (fun hgd => ?_) (fun hgd => ?_) <;> first | (exfalso; simp at hgd; done) | (exfalso; simp at hgd; omega) | (simp -implicitDefEqProofs (maxSteps := 2000000) [hP, hN, h, bits64, min64 hk] <;> (try refine ⟨by kernel_rfl, ?_⟩)))
    | with_reducible refine xTwo_intro ?_ ?_
    | (with_reducible refine xCond_split (fun hcd => ?_) (fun hcd => ?_) <;> (try (exfalso; clear hP hN; simp_all; done)) <;> (try (exfalso; simp at *; omega)))
    | with_reducible refine WP.block ?_
    | (with_reducible ((first | refine WP.skip ?_ | refine WP.exit ?_ | refine WP.ret ?_); simp [h, bits64, min64 hk])))
  all_goals (first | (simp_all; done) | ((try simp_all) <;> (try omega) <;> grind))
theorem d153 (a b : Int) : DetH Try.prog 153 [.pv (I a b)] [] [] (.pv (Z (if validB a b then wr (b - a) else 0))) := by
  refine detP_of Try.func153 rfl (by kernel_rfl) (by simp [Try.f153]) rfl ?_
  intro C hP hN
  simp only [Try.f153] at hN ⊢
  repeat' (first
    | with_reducible refine WP.seq ?_
    | (with_reducible ((first | refine WP.region (hn := []) ?_ | refine xC_intro (d179 _ _) ?_ | refine WP.cond' ?_); simp -implicitDefEqProofs (maxSteps := 2000000) [hP, hN]))
    | (with_reducible ((first | refine WP.draw (hn := []) (by rw [hP]; kernel_rfl) (by kernel_rfl) ?_ | refine yC_intro (d179 _ _) ?_); simp -implicitDefEqProofs (maxSteps := 2000000) [hP, hN]; (try refine ⟨by kernel_rfl, ?_⟩)))
    | (with_reducible refine xB_split (by simp) (fun hgd => ?_) (fun hgd => ?_) <;> first | (exfalso; simp at hgd; done) | (exfalso; simp at hgd; omega) | simp -implicitDefEqProofs (maxSteps := 2000000) [hP, hN])
    | (with_reducible refine yB_split (by simp) (fun hgd => ?_) (fun hgd => ?_) <;> first | (exfalso; simp at hgd; done) | (exfalso; simp at hgd; omega) | (simp -implicitDefEqProofs (maxSteps := 2000000) [hP, hN] <;> (try refine ⟨by kernel_rfl, ?_⟩)))
    | with_reducible refine xTwo_intro ?_ ?_
    | (with_reducible refine xCond_split (fun hcd => ?_) (fun hcd => ?_) <;> (try (exfalso; clear hP hN; simp_all; done)) <;> (try (exfalso; simp at *; omega)))
    | with_reducible refine WP.block ?_
    | (with_reducible ((first | refine WP.skip ?_ | refine WP.exit ?_ | refine WP.ret ?_); simp)))
  all_goals (first | (simp_all; done) | ((try simp_all) <;> (try omega) <;> grind))
theorem d154 (a b : Int) : DetH Try.prog 154 [.pv (I a b)] [] [] (.pv (Z (if validB a b then (wr (a + b)).fdiv 2 else 0))) := by
  refine detP_of Try.func154 rfl (by kernel_rfl) (by simp [Try.f154]) rfl ?_
  intro C hP hN
  simp only [Try.f154] at hN ⊢
  repeat' (first
    | with_reducible refine WP.seq ?_
    | (with_reducible ((first | refine WP.region (hn := []) ?_ | refine xC_intro (d179 _ _) ?_ | refine xC_intro (d182 _ _ (by decide) (by decide)) ?_ | refine WP.cond' ?_); simp -implicitDefEqProofs (maxSteps := 2000000) [hP, hN]))
    | (with_reducible ((first | refine WP.draw (hn := []) (by rw [hP]; kernel_rfl) (by kernel_rfl) ?_ | refine yC_intro (d179 _ _) ?_ | refine yC_intro (d182 _ _ (by decide) (by decide)) ?_); simp -implicitDefEqProofs (maxSteps := 2000000) [hP, hN]; (try refine ⟨by kernel_rfl, ?_⟩)))
    | (with_reducible refine xB_split (by simp) (fun hgd => ?_) (fun hgd => ?_) <;> first | (exfalso; simp at hgd; done) | (exfalso; simp at hgd; omega) | simp -implicitDefEqProofs (maxSteps := 2000000) [hP, hN])
    | (with_reducible refine yB_split (by simp) (fun hgd => ?_) (fun hgd => ?_) <;> first | (exfalso; simp at hgd; done) | (exfalso; simp at hgd; omega) | (simp -implicitDefEqProofs (maxSteps := 2000000) [hP, hN] <;> (try refine ⟨by kernel_rfl, ?_⟩)))
    | with_reducible refine xTwo_intro ?_ ?_
    | (with_reducible refine xCond_split (fun hcd => ?_) (fun hcd => ?_) <;> (try (exfalso; clear hP hN; simp_all; done)) <;> (try (exfalso; simp at *; omega)))
    | with_reducible refine WP.block ?_
    | (with_reducible ((first | refine WP.skip ?_ | refine WP.exit ?_ | refine WP.ret ?_); simp)))
  all_goals (first | (simp_all; done) | ((try simp_all) <;> (try omega) <;> grind))
theorem d150 (a b x : Int) : DetH Try.prog 150 [.pv (I a b), .pv (Z x)] [] [] (.pv (B (validB a b && decide (a ≤ x) && decide (x ≤ b)))) := by
  refine detP_of Try.func150 rfl (by kernel_rfl) (by simp [Try.f150]) rfl ?_
  intro C hP hN
  simp only [Try.f150] at hN ⊢
  repeat' (first
    | with_reducible refine WP.seq ?_
    | (with_reducible ((first | refine WP.region (hn := []) ?_ | refine xC_intro (d179 _ _) ?_ | refine WP.cond' ?_); simp -implicitDefEqProofs (maxSteps := 2000000) [hP, hN]))
    | (with_reducible ((first | refine WP.draw (hn := []) (by rw [hP]; kernel_rfl) (by kernel_rfl) ?_ | refine yC_intro (d179 _ _) ?_); simp -implicitDefEqProofs (maxSteps := 2000000) [hP, hN]; (try refine ⟨by kernel_rfl, ?_⟩)))
    | (with_reducible refine xB_split (by simp) (fun hgd => ?_) (fun hgd => ?_) <;> first | (exfalso; simp at hgd; done) | (exfalso; simp at hgd; omega) | simp -implicitDefEqProofs (maxSteps := 2000000) [hP, hN])
    | (with_reducible refine yB_split (by simp) (fun hgd => ?_) (fun hgd => ?_) <;> first | (exfalso; simp at hgd; done) | (exfalso; simp at hgd; omega) | (simp -implicitDefEqProofs (maxSteps := 2000000) [hP, hN] <;> (try refine ⟨by kernel_rfl, ?_⟩)))
    | with_reducible refine xTwo_intro ?_ ?_
    | (with_reducible refine xCond_split (fun hcd => ?_) (fun hcd => ?_) <;> (try (exfalso; clear hP hN; simp_all; done)) <;> (try (exfalso; simp at *; omega)))
    | with_reducible refine WP.block ?_
    | (with_reducible ((first | refine WP.skip ?_ | refine WP.exit ?_ | refine WP.ret ?_); simp)))
  all_goals (first | (simp_all; done) | ((try simp_all) <;> (try omega) <;> grind))
theorem d84 (a b x : Int) : DetH Try.prog 84 [.pv (I a b), .pv (Z x)] [] [] (.pv (B (validB a b && decide (a ≤ x) && decide (x ≤ b)))) := by
  refine detP_of Try.func84 rfl (by kernel_rfl) (by simp [Try.f84]) rfl ?_
  intro C hP hN
  simp only [Try.f84] at hN ⊢
  repeat' (first
    | with_reducible refine WP.seq ?_
    | (with_reducible ((first | refine WP.region (hn := []) ?_ | refine xC_intro (d115 _ _) ?_ | refine WP.cond' ?_); simp -implicitDefEqProofs (maxSteps := 2000000) [hP, hN]))
    | (with_reducible ((first | refine WP.draw (hn := []) (by rw [hP]; kernel_rfl) (by kernel_rfl) ?_ | refine yC_intro (d115 _ _) ?_); simp -implicitDefEqProofs (maxSteps := 2000000) [hP, hN]; (try refine ⟨by kernel_rfl, ?_⟩)))
    | (with_reducible refine xB_split (by simp) (fun hgd => ?_) (fun hgd => ?_) <;> first | (exfalso; simp at hgd; done) | (exfalso; simp at hgd; omega) | simp -implicitDefEqProofs (maxSteps := 2000000) [hP, hN])
    | (with_reducible refine yB_split (by simp) (fun hgd => ?_) (fun hgd => ?_) <;> first | (exfalso; simp at hgd; done) | (exfalso; simp at hgd; omega) | (simp -implicitDefEqProofs (maxSteps := 2000000) [hP, hN] <;> (try refine ⟨by kernel_rfl, ?_⟩)))
    | with_reducible refine xTwo_intro ?_ ?_
    | (with_reducible refine xCond_split (fun hcd => ?_) (fun hcd => ?_) <;> (try (exfalso; clear hP hN; simp_all; done)) <;> (try (exfalso; simp at *; omega)))
    | with_reducible refine WP.block ?_
    | (with_reducible ((first | refine WP.skip ?_ | refine WP.exit ?_ | refine WP.ret ?_); simp)))
  all_goals (first | (simp_all; done) | ((try simp_all) <;> (try omega) <;> grind))
theorem d159 (a b c d : Int) : DetH Try.prog 159 [.pv (I a b), .pv (I c d)] [] [] (.pv (.tup (if validB a b && validB c d && decide (max a c ≤ min b d) then [I (max a c) (min b d), B true] else [I 0 0, B false]))) := by
  refine detP_of Try.func159 rfl (by kernel_rfl) (by simp [Try.f159]) rfl ?_
  intro C hP hN
  simp only [Try.f159] at hN ⊢
  repeat' (first
    | with_reducible refine WP.seq ?_
    | (with_reducible ((first | refine WP.region (hn := []) ?_ | refine xC_intro (d183 _ _ _ _) ?_ | refine WP.cond' ?_); simp -implicitDefEqProofs (maxSteps := 2000000) [hP, hN]))
    | (with_reducible ((first | refine WP.draw (hn := []) (by rw [hP]; kernel_rfl) (by kernel_rfl) ?_ | refine yC_intro (d183 _ _ _ _) ?_); simp -implicitDefEqProofs (maxSteps := 2000000) [hP, hN]; (try refine ⟨by kernel_rfl, ?_⟩)))
    | (with_reducible refine xB_split (by simp) (fun hgd => ?_) (fun hgd => ?_) <;> first | (exfalso; simp at hgd; done) | (exfalso; simp at hgd; omega) | simp -implicitDefEqProofs (maxSteps := 2000000) [hP, hN])
    | (with_reducible refine yB_split (by simp) (fun hgd => ?_) (fun hgd => ?_) <;> first | (exfalso; simp at hgd; done) | (exfalso; simp at hgd; omega) | (simp -implicitDefEqProofs (maxSteps := 2000000) [hP, hN] <;> (try refine ⟨by kernel_rfl, ?_⟩)))
    | with_reducible refine xTwo_intro ?_ ?_
    | (with_reducible refine xCond_split (fun hcd => ?_) (fun hcd => ?_) <;> (try (exfalso; clear hP hN; simp_all; done)) <;> (try (exfalso; simp at *; omega)))
    | with_reducible refine WP.block ?_
    | (with_reducible ((first | refine WP.skip ?_ | refine WP.exit ?_ | refine WP.ret ?_); simp)))
  all_goals (first | (simp_all; done) | ((try simp_all) <;> (try omega) <;> grind))
theorem d127 (a b c d : Int) : DetH Try.prog 127 [.pv (I a b), .pv (I c d)] [] [] (.pv (.tup (if validB a b && validB c d && decide (max a c ≤ min b d) then [I (max a c) (min b d), B true] else [I 0 0, B false]))) := by
  refine detP_of Try.func127 rfl (by kernel_rfl) (by simp [Try.f127]) rfl ?_
  intro C hP hN
  simp only [Try.f127] at hN ⊢
  repeat' (first
    | with_reducible refine WP.seq ?_
    | (with_reducible ((first | refine WP.region (hn := []) ?_ | refine xC_intro (d115 _ _) ?_ | refine WP.cond' ?_); simp -implicitDefEqProofs (maxSteps := 2000000) [hP, hN]))
    | (with_reducible ((first | refine WP.draw (hn := []) (by rw [hP]; kernel_rfl) (by kernel_rfl) ?_ | refine yC_intro (d115 _ _) ?_); simp -implicitDefEqProofs (maxSteps := 2000000) [hP, hN]; (try refine ⟨by kernel_rfl, ?_⟩)))
    | (with_reducible refine xB_split (by simp) (fun hgd => ?_) (fun hgd => ?_) <;> first | (exfalso; simp at hgd; done) | (exfalso; simp at hgd; omega) | simp -implicitDefEqProofs (maxSteps := 2000000) [hP, hN])
    | (with_reducible refine yB_split (by simp) (fun hgd => ?_) (fun hgd => ?_) <;> first | (exfalso; simp at hgd; done) | (exfalso; simp at hgd; omega) | (simp -implicitDefEqProofs (maxSteps := 2000000) [hP, hN] <;> (try refine ⟨by kernel_rfl, ?_⟩)))
    | with_reducible refine xTwo_intro ?_ ?_
    | (with_reducible refine xCond_split (fun hcd => ?_) (fun hcd => ?_) <;> (try (exfalso; clear hP hN; simp_all; done)) <;> (try (exfalso; simp at *; omega)))
    | with_reducible refine WP.block ?_
    | (with_reducible ((first | refine WP.skip ?_ | refine WP.exit ?_ | refine WP.ret ?_); simp)))
  all_goals (first | (simp_all; done) | ((try simp_all) <;> (try omega) <;> grind))
end Go.Ab

/- Contracts: searching lists. -/
namespace Go.Ab
open Go.Proofs
abbrev zs (xs : List Int) : PV := .sl (xs.map Z)
abbrev iv (xs : List (Int × Int)) : PV := .sl (xs.map encI)
abbrev Fv (f : FuncId) : PV := .val (.func (.func f) #[] #[])
theorem big {n : Nat} (h : n ≤ 16777216) : n ≤ 9223372036854775807 := by omega
theorem wr_succ {i n : Nat} (h : i < n) (hn : n ≤ 9223372036854775807) : IntKind.i64.wrap ((i : Int) + 1) = (i : Int) + 1 := by rw [IntKind.wrap_i64]; omega
def idxB {α : Type} (p : α → Bool) (xs : List α) : Int := match xs.findIdx? p with
  | some i => i
  | none => -1
theorem idxB_found {α : Type} {p : α → Bool} {xs : List α} {i : Nat} (hlt : i < xs.length) (hq : ∀ j x, j < i → xs[j]? = some x → p x = false) (hp : p xs[i] = true) : idxB p xs = i := by
  have : xs.findIdx? p = some i := by
    rw [List.findIdx?_eq_some_iff_getElem]
    refine ⟨hlt, hp, fun j hj => ?_⟩
    have hjl : j < xs.length := by omega
    rw [hq j xs[j] hj (List.getElem?_eq_getElem hjl)]; simp
  simp [idxB, this]
theorem idxB_none {α : Type} {p : α → Bool} {xs : List α} (hq : ∀ (j : Nat) x, xs[j]? = some x → p x = false) : idxB p xs = -1 := by
  have : xs.findIdx? p = none := by
    rw [List.findIdx?_eq_none_iff]
    intro x hx
    obtain ⟨j, hj, rfl⟩ := List.mem_iff_getElem.1 hx
    exact hq j _ (List.getElem?_eq_getElem hj)
  simp [idxB, this]
theorem idxB_any {α : Type} (p : α → Bool) (xs : List α) : decide (0 ≤ idxB p xs) = xs.any p := by
  unfold idxB
  cases h : xs.findIdx? p with
  | none =>
    rw [List.findIdx?_eq_none_iff] at h
    have : xs.any p = false := by
      rw [List.any_eq_false]; intro x hx; rw [h x hx]; simp
    simp [this]
  | some i =>
    rw [List.findIdx?_eq_some_iff_getElem] at h
    obtain ⟨hl, hp, _⟩ := h
    have : xs.any p = true := List.any_eq_true.2 ⟨xs[i], List.getElem_mem hl, hp⟩
    simp [this]
theorem prev_step {α : Type} {p : α → Bool} {xs : List α} {i : Nat} (hlt : i < xs.length) (hq : ∀ j x, j < i → xs[j]? = some x → p x = false) (hp : p xs[i] = false) : ∀ j x, j < i + 1 → xs[j]? = some x → p x = false := by
  intro j x hj hx
  by_cases e : j = i
  · subst e; rw [List.getElem?_eq_getElem hlt] at hx; injection hx with hx; subst hx; exact hp
  · exact hq j x (by omega) hx
theorem prev_all {α : Type} {p : α → Bool} {xs : List α} {i : Nat} (hlt : ¬ i < xs.length) (hq : ∀ j x, j < i → xs[j]? = some x → p x = false) : ∀ (j : Nat) x, xs[j]? = some x → p x = false := by
  intro j x hx
  have := (List.getElem?_eq_some_iff.1 hx).1
  exact hq j x (by omega) hx


theorem d186 (f : FuncId) (p : Int × Int → Bool) (xs : List (Int × Int)) (hl : xs.length ≤ 9223372036854775807) (hf : ∀ x, DetH Try.prog f [.pv (encI x)] [] [] (.pv (B (p x)))) : DetH Try.prog 186 [.pv (iv xs), .pv (Fv f)] [] [] (.pv (Z (idxB p xs))) := by
  refine detP_of Try.func186 rfl (by kernel_rfl) (by simp [Try.f186]) rfl ?_
  intro C hP hN
  simp only [Try.f186] at hN ⊢
  repeat' (first
    | with_reducible refine WP.seq ?_
    | (with_reducible ((first | refine WP.region (hn := []) ?_ | refine WP.cond' ?_); simp -implicitDefEqProofs (maxSteps := 2000000) [hP, hN]))
    | (with_reducible ((first | refine WP.draw (hn := []) (by rw [hP]; kernel_rfl) (by kernel_rfl) ?_); simp -implicitDefEqProofs (maxSteps := 2000000) [hP, hN]; (try refine ⟨by kernel_rfl, ?_⟩)))
    | (with_reducible refine xB_split (by simp) (fun hgd => ?_) (fun hgd => ?_) <;> first | (exfalso; simp at hgd; done) | (exfalso; simp at hgd; omega) | simp -implicitDefEqProofs (maxSteps := 2000000) [hP, hN])
    | (with_reducible refine yB_split (by simp) (fun hgd => ?_) (fun hgd => ?_) <;> first | (exfalso; simp at hgd; done) | (exfalso; simp at hgd; omega) | (simp -implicitDefEqProofs (maxSteps := 2000000) [hP, hN] <;> (try refine ⟨by kernel_rfl, ?_⟩)))
    | with_reducible refine xTwo_intro ?_ ?_
    | (with_reducible refine xCond_split (fun hcd => ?_) (fun hcd => ?_) <;> (try (exfalso; clear hP hN; simp_all; done)) <;> (try (exfalso; simp at *; omega)))
    | with_reducible refine WP.block ?_
    | (with_reducible ((first | refine WP.skip ?_ | refine WP.exit ?_ | refine WP.ret ?_); simp)))
  refine WP.loopN [] xs.length (fun i st => st.t 0 = .pv (iv xs) ∧ st.t 1 = .pv (Fv f) ∧ st.t 7 = .pv (Z xs.length) ∧ st.t 8 = .pv (Z i) ∧ ∀ j x, j < i → xs[j]? = some x → p x = false) (by simp) ?_
  rintro i st hi ⟨h0, h1, h7, h8, hq⟩
  by_cases hlt : i < xs.length
  · have hw := wr_succ hlt hl
    repeat' (first
      | with_reducible refine WP.seq ?_
      | (with_reducible ((first | refine WP.region (hn := []) ?_ | refine xC_intro (hf _) ?_ | refine WP.cond' ?_); simp -implicitDefEqProofs (maxSteps := 2000000) [hP, hN, h0, h1, h7, h8, hlt, hw]))
      | (with_reducible ((first | refine WP.draw (hn := []) (by rw [hP]; kernel_rfl) (by kernel_rfl) ?_ | refine yC_intro (hf _) ?_); simp -implicitDefEqProofs (maxSteps := 2000000) [hP, hN, h0, h1, h7, h8, hlt, hw]; (try refine ⟨by kernel_rfl, ?_⟩)))
      | (with_reducible refine xB_split (by simp [h0, h1, h7, h8, hlt, hw]) (fun hgd => ?_) (fun hgd => ?_) <;> first | (exfalso; simp at hgd; done) | (exfalso; simp at hgd; omega) | simp -implicitDefEqProofs (maxSteps := 2000000) [hP, hN, h0, h1, h7, h8, hlt, hw])
      | (with_reducible refine yB_split (by simp [h0, h1, h7, h8, hlt, hw]) (fun hgd => ?_) (fun hgd => ?_) <;> first | (exfalso; simp at hgd; done) | (exfalso; simp at hgd; omega) | (simp -implicitDefEqProofs (maxSteps := 2000000) [hP, hN, h0, h1, h7, h8, hlt, hw] <;> (try refine ⟨by kernel_rfl, ?_⟩)))
      | with_reducible refine xTwo_intro ?_ ?_
      | (with_reducible refine xCond_split (fun hcd => ?_) (fun hcd => ?_) <;> (try (exfalso; clear hP hN; simp_all; done)) <;> (try (exfalso; simp at *; omega)))
      | with_reducible refine WP.block ?_
      | (with_reducible ((first | refine WP.skip ?_ | refine WP.exit ?_ | refine WP.ret ?_); simp [h0, h1, h7, h8, hlt, hw])))
    · exact (idxB_found hlt hq hcd).symm
    · simpa using prev_step hlt hq hcd
  · skip
    repeat' (first
      | with_reducible refine WP.seq ?_
      | (with_reducible ((first | refine WP.region (hn := []) ?_ | refine WP.cond' ?_); simp -implicitDefEqProofs (maxSteps := 2000000) [hP, hN, h0, h1, h7, h8, hlt]))
      | (with_reducible ((first | refine WP.draw (hn := []) (by rw [hP]; kernel_rfl) (by kernel_rfl) ?_); simp -implicitDefEqProofs (maxSteps := 2000000) [hP, hN, h0, h1, h7, h8, hlt]; (try refine ⟨by kernel_rfl, ?_⟩)))
      | (with_reducible refine xB_split (by simp [h0, h1, h7, h8, hlt]) (fun hgd => ?_) (fun hgd => ?_) <;> first | (exfalso; simp at hgd; done) | (exfalso; simp at hgd; omega) | simp -implicitDefEqProofs (maxSteps := 2000000) [hP, hN, h0, h1, h7, h8, hlt])
      | (with_reducible refine yB_split (by simp [h0, h1, h7, h8, hlt]) (fun hgd => ?_) (fun hgd => ?_) <;> first | (exfalso; simp at hgd; done) | (exfalso; simp at hgd; omega) | (simp -implicitDefEqProofs (maxSteps := 2000000) [hP, hN, h0, h1, h7, h8, hlt] <;> (try refine ⟨by kernel_rfl, ?_⟩)))
      | with_reducible refine xTwo_intro ?_ ?_
      | (with_reducible refine xCond_split (fun hcd => ?_) (fun hcd => ?_) <;> (try (exfalso; clear hP hN; simp_all; done)) <;> (try (exfalso; simp at *; omega)))
      | with_reducible refine WP.block ?_
      | (with_reducible ((first | refine WP.skip ?_ | refine WP.exit ?_ | refine WP.ret ?_); simp [h0, h1, h7, h8, hlt])))
    exact (idxB_none (prev_all hlt hq)).symm


theorem d180 (f : FuncId) (p : Int × Int → Bool) (xs : List (Int × Int)) (hl : xs.length ≤ 9223372036854775807) (hf : ∀ x, DetH Try.prog f [.pv (encI x)] [] [] (.pv (B (p x)))) : DetH Try.prog 180 [.pv (iv xs), .pv (Fv f)] [] [] (.pv (B (xs.any p))) := by
  refine detP_of Try.func180 rfl (by kernel_rfl) (by simp [Try.f180]) rfl ?_
  intro C hP hN
  simp only [Try.f180] at hN ⊢
  repeat' (first
    | with_reducible refine WP.seq ?_
    | (with_reducible ((first | refine WP.region (hn := []) ?_ | refine xC_intro (d186 _ _ _ hl hf) ?_ | refine WP.cond' ?_); simp -implicitDefEqProofs (maxSteps := 2000000) [hP, hN]))
    | (with_reducible ((first | refine WP.draw (hn := []) (by rw [hP]; kernel_rfl) (by kernel_rfl) ?_ | refine yC_intro (d186 _ _ _ hl hf) ?_); simp -implicitDefEqProofs (maxSteps := 2000000) [hP, hN]; (try refine ⟨by kernel_rfl, ?_⟩)))
    | (with_reducible refine xB_split (by simp) (fun hgd => ?_) (fun hgd => ?_) <;> first | (exfalso; simp at hgd; done) | (exfalso; simp at hgd; omega) | simp -implicitDefEqProofs (maxSteps := 2000000) [hP, hN])
    | (with_reducible refine yB_split (by simp) (fun hgd => ?_) (fun hgd => ?_) <;> first | (exfalso; simp at hgd; done) | (exfalso; simp at hgd; omega) | (simp -implicitDefEqProofs (maxSteps := 2000000) [hP, hN] <;> (try refine ⟨by kernel_rfl, ?_⟩)))
    | with_reducible refine xTwo_intro ?_ ?_
    | (with_reducible refine xCond_split (fun hcd => ?_) (fun hcd => ?_) <;> (try (exfalso; clear hP hN; simp_all; done)) <;> (try (exfalso; simp at *; omega)))
    | with_reducible refine WP.block ?_
    | (with_reducible ((first | refine WP.skip ?_ | refine WP.exit ?_ | refine WP.ret ?_); simp)))
  all_goals (first | (simp_all [idxB_any]; done) | ((try simp_all [idxB_any]) <;> (try omega) <;> grind))


def allB {α : Type} (p : α → Bool) (xs : List α) : Bool := xs.all p
theorem any_not {α : Type} (p : α → Bool) (xs : List α) : (xs.any fun x => !p x) = !allB p xs := by simp [allB, List.any_eq_not_all_not]
abbrev vI (x : Int × Int) : Bool := validB x.1 x.2
theorem d181 (x : Int × Int) : DetH Try.prog 181 [.pv (encI x)] [] [] (.pv (B (!validB x.1 x.2))) := by
  refine detP_of Try.func181 rfl (by kernel_rfl) (by simp [Try.f181]) rfl ?_
  intro C hP hN
  simp only [Try.f181] at hN ⊢
  repeat' (first
    | with_reducible refine WP.seq ?_
    | (with_reducible ((first | refine WP.region (hn := []) ?_ | refine xC_intro (d179 _ _) ?_ | refine WP.cond' ?_); simp -implicitDefEqProofs (maxSteps := 2000000) [hP, hN]))
    | (with_reducible ((first | refine WP.draw (hn := []) (by rw [hP]; kernel_rfl) (by kernel_rfl) ?_ | refine yC_intro (d179 _ _) ?_); simp -implicitDefEqProofs (maxSteps := 2000000) [hP, hN]; (try refine ⟨by kernel_rfl, ?_⟩)))
    | (with_reducible refine xB_split (by simp) (fun hgd => ?_) (fun hgd => ?_) <;> first | (exfalso; simp at hgd; done) | (exfalso; simp at hgd; omega) | simp -implicitDefEqProofs (maxSteps := 2000000) [hP, hN])
    | (with_reducible refine yB_split (by simp) (fun hgd => ?_) (fun hgd => ?_) <;> first | (exfalso; simp at hgd; done) | (exfalso; simp at hgd; omega) | (simp -implicitDefEqProofs (maxSteps := 2000000) [hP, hN] <;> (try refine ⟨by kernel_rfl, ?_⟩)))
    | with_reducible refine xTwo_intro ?_ ?_
    | (with_reducible refine xCond_split (fun hcd => ?_) (fun hcd => ?_) <;> (try (exfalso; clear hP hN; simp_all; done)) <;> (try (exfalso; simp at *; omega)))
    | with_reducible refine WP.block ?_
    | (with_reducible ((first | refine WP.skip ?_ | refine WP.exit ?_ | refine WP.ret ?_); simp)))
  all_goals (first | (simp_all; done) | ((try simp_all) <;> (try omega) <;> grind))
theorem d152 (xs : List (Int × Int)) (hl : xs.length ≤ 9223372036854775807) : DetH Try.prog 152 [.pv (iv xs)] [] [] (.pv (B (allB vI xs))) := by
  refine detP_of Try.func152 rfl (by kernel_rfl) (by simp [Try.f152]) rfl ?_
  intro C hP hN
  simp only [Try.f152] at hN ⊢
  repeat' (first
    | with_reducible refine WP.seq ?_
    | (with_reducible ((first | refine WP.region (hn := []) ?_ | refine xC_intro (d180 _ _ _ hl d181) ?_ | refine WP.cond' ?_); simp -implicitDefEqProofs (maxSteps := 2000000) [hP, hN, any_not vI xs]))
    | (with_reducible ((first | refine WP.draw (hn := []) (by rw [hP]; kernel_rfl) (by kernel_rfl) ?_ | refine yC_intro (d180 _ _ _ hl d181) ?_); simp -implicitDefEqProofs (maxSteps := 2000000) [hP, hN, any_not vI xs]; (try refine ⟨by kernel_rfl, ?_⟩)))
    | (with_reducible refine xB_split (by simp [any_not vI xs]) (fun hgd => ?_) (fun hgd => ?_) <;> first | (exfalso; simp at hgd; done) | (exfalso; simp at hgd; omega) | simp -implicitDefEqProofs (maxSteps := 2000000) [hP, hN, any_not vI xs])
    | (with_reducible refine yB_split (by simp [any_not vI xs]) (fun hgd => ?_) (fun hgd => ?_) <;> first | (exfalso; simp at hgd; done) | (exfalso; simp at hgd; omega) | (simp -implicitDefEqProofs (maxSteps := 2000000) [hP, hN, any_not vI xs] <;> (try refine ⟨by kernel_rfl, ?_⟩)))
    | with_reducible refine xTwo_intro ?_ ?_
    | (with_reducible refine xCond_split (fun hcd => ?_) (fun hcd => ?_) <;> (try (exfalso; clear hP hN; simp_all; done)) <;> (try (exfalso; simp at *; omega)))
    | with_reducible refine WP.block ?_
    | (with_reducible ((first | refine WP.skip ?_ | refine WP.exit ?_ | refine WP.ret ?_); simp [any_not vI xs])))
  all_goals (first | (simp_all; done) | ((try simp_all) <;> (try omega) <;> grind))
def smallB (x : Int) : Bool := decide (-2147483648 ≤ x) && decide (x ≤ 2147483648)
end Go.Ab

/- Contracts: motions. -/
namespace Go.Ab
open Go.Proofs
end Go.Ab

/- Contracts: the reference's loops over lists. -/
namespace Go.Ab
open Go.Proofs
theorem all_false {α : Type} {p : α → Bool} {xs : List α} {i : Nat} (hlt : i < xs.length) (hp : p xs[i] = false) : allB p xs = false := by
  rw [allB, List.all_eq_false]; exact ⟨xs[i], List.getElem_mem hlt, by simp [hp]⟩
theorem all_step {α : Type} {p : α → Bool} {xs : List α} {i : Nat} (hlt : i < xs.length) (h : allB p (xs.take i) = true) (hp : p xs[i] = true) : allB p (xs.take (i + 1)) = true := by
  unfold allB at *; rw [List.take_succ_eq_append_getElem hlt, List.all_append, h]; simp [hp]
theorem all_done {α : Type} {p : α → Bool} {xs : List α} {i : Nat} (hlt : ¬ i < xs.length) (h : allB p (xs.take i) = true) : allB p xs = true := by
  rwa [List.take_of_length_le (by omega)] at h
theorem take_map_step {α β : Type} {f : α → β} {xs : List α} {i : Nat} (hlt : i < xs.length) : (xs.map f).take i ++ [f xs[i]] = (xs.map f).take (i + 1) := by
  rw [List.take_succ_eq_append_getElem (by simpa using hlt)]; simp
theorem take_done {α : Type} {xs : List α} {i n : Nat} (hn : xs.length = n) (hi : ¬ i < n) : xs.take i = xs := List.take_of_length_le (by omega)
def allZ {α β : Type} (f : α → β → Bool) (xs : List α) (ys : List β) : Bool := (List.zipWith f xs ys).all id
def allZt {α β : Type} (f : α → β → Bool) (xs : List α) (ys : List β) (i : Nat) : Bool := ((List.zipWith f xs ys).take i).all id
theorem allZ_false {α β : Type} {f : α → β → Bool} {xs : List α} {ys : List β} {i : Nat} (hlt : i < xs.length) (hlt' : i < ys.length) (hp : f xs[i] ys[i] = false) : allZ f xs ys = false :=
  all_false (p := id) (xs := List.zipWith f xs ys) (i := i) (by simp; omega) (by simpa using hp)
theorem allZ_step {α β : Type} {f : α → β → Bool} {xs : List α} {ys : List β} {i : Nat} (hlt : i < xs.length) (hlt' : i < ys.length) (h : allZt f xs ys i = true) (hp : f xs[i] ys[i] = true) : allZt f xs ys (i + 1) = true :=
  all_step (p := id) (xs := List.zipWith f xs ys) (i := i) (by simp; omega) h (by simpa using hp)
theorem allZ_done {α β : Type} {f : α → β → Bool} {xs : List α} {ys : List β} {i : Nat} (hlt : ¬ i < xs.length) (h : allZt f xs ys i = true) : allZ f xs ys = true :=
  all_done (p := id) (xs := List.zipWith f xs ys) (i := i) (by simp; omega) h


theorem d82 (xs : List (Int × Int)) (hl : xs.length ≤ 9223372036854775807) : DetH Try.prog 82 [.pv (iv xs)] [] [] (.pv (B (allB vI xs))) := by
  refine detP_of Try.func82 rfl (by kernel_rfl) (by simp [Try.f82]) rfl ?_
  intro C hP hN
  simp only [Try.f82] at hN ⊢
  repeat' (first
    | with_reducible refine WP.seq ?_
    | (with_reducible ((first | refine WP.region (hn := []) ?_ | refine WP.cond' ?_); simp -implicitDefEqProofs (maxSteps := 2000000) [hP, hN]))
    | (with_reducible ((first | refine WP.draw (hn := []) (by rw [hP]; kernel_rfl) (by kernel_rfl) ?_); simp -implicitDefEqProofs (maxSteps := 2000000) [hP, hN]; (try refine ⟨by kernel_rfl, ?_⟩)))
    | (with_reducible refine xB_split (by simp) (fun hgd => ?_) (fun hgd => ?_) <;> first | (exfalso; simp at hgd; done) | (exfalso; simp at hgd; omega) | simp -implicitDefEqProofs (maxSteps := 2000000) [hP, hN])
    | (with_reducible refine yB_split (by simp) (fun hgd => ?_) (fun hgd => ?_) <;> first | (exfalso; simp at hgd; done) | (exfalso; simp at hgd; omega) | (simp -implicitDefEqProofs (maxSteps := 2000000) [hP, hN] <;> (try refine ⟨by kernel_rfl, ?_⟩)))
    | with_reducible refine xTwo_intro ?_ ?_
    | (with_reducible refine xCond_split (fun hcd => ?_) (fun hcd => ?_) <;> (try (exfalso; clear hP hN; simp_all; done)) <;> (try (exfalso; simp at *; omega)))
    | with_reducible refine WP.block ?_
    | (with_reducible ((first | refine WP.skip ?_ | refine WP.exit ?_ | refine WP.ret ?_); simp)))
  refine WP.loopN [] xs.length (fun i st => st.t 0 = .pv (iv xs) ∧ st.t 3 = .pv (Z i) ∧ allB vI (xs.take i) = true) (by simp [allB]) ?_
  rintro i st hi ⟨h0, h1, hq⟩
  by_cases hlt : i < xs.length
  · have hw := wr_succ hlt hl
    have hF : vI xs[i] = false → allB vI xs = false := all_false hlt
    have hS : vI xs[i] = true → allB vI (xs.take (i + 1)) = true := all_step hlt hq
    repeat' (first
      | with_reducible refine WP.seq ?_
      | (with_reducible ((first | refine WP.region (hn := []) ?_ | refine xC_intro (d115 _ _) ?_ | refine WP.cond' ?_); simp -implicitDefEqProofs (maxSteps := 2000000) [hP, hN, h0, h1, hlt, hw]))
      | (with_reducible ((first | refine WP.draw (hn := []) (by rw [hP]; kernel_rfl) (by kernel_rfl) ?_ | refine yC_intro (d115 _ _) ?_); simp -implicitDefEqProofs (maxSteps := 2000000) [hP, hN, h0, h1, hlt, hw]; (try refine ⟨by kernel_rfl, ?_⟩)))
      | (with_reducible refine xB_split (by simp [h0, h1, hlt, hw]) (fun hgd => ?_) (fun hgd => ?_) <;> first | (exfalso; simp at hgd; done) | (exfalso; simp at hgd; omega) | simp -implicitDefEqProofs (maxSteps := 2000000) [hP, hN, h0, h1, hlt, hw])
      | (with_reducible refine yB_split (by simp [h0, h1, hlt, hw]) (fun hgd => ?_) (fun hgd => ?_) <;> first | (exfalso; simp at hgd; done) | (exfalso; simp at hgd; omega) | (simp -implicitDefEqProofs (maxSteps := 2000000) [hP, hN, h0, h1, hlt, hw] <;> (try refine ⟨by kernel_rfl, ?_⟩)))
      | with_reducible refine xTwo_intro ?_ ?_
      | (with_reducible refine xCond_split (fun hcd => ?_) (fun hcd => ?_) <;> (try (exfalso; clear hP hN; simp_all; done)) <;> (try (exfalso; simp at *; omega)))
      | with_reducible refine WP.block ?_
      | (with_reducible ((first | refine WP.skip ?_ | refine WP.exit ?_ | refine WP.ret ?_); simp [h0, h1, hlt, hw])))
    all_goals first | (rw [hF]; simp_all [smallB]; try omega) | (rw [hS]; simp_all [smallB]; try omega)
  · skip
    repeat' (first
      | with_reducible refine WP.seq ?_
      | (with_reducible ((first | refine WP.region (hn := []) ?_ | refine WP.cond' ?_); simp -implicitDefEqProofs (maxSteps := 2000000) [hP, hN, h0, h1, hlt]))
      | (with_reducible ((first | refine WP.draw (hn := []) (by rw [hP]; kernel_rfl) (by kernel_rfl) ?_); simp -implicitDefEqProofs (maxSteps := 2000000) [hP, hN, h0, h1, hlt]; (try refine ⟨by kernel_rfl, ?_⟩)))
      | (with_reducible refine xB_split (by simp [h0, h1, hlt]) (fun hgd => ?_) (fun hgd => ?_) <;> first | (exfalso; simp at hgd; done) | (exfalso; simp at hgd; omega) | simp -implicitDefEqProofs (maxSteps := 2000000) [hP, hN, h0, h1, hlt])
      | (with_reducible refine yB_split (by simp [h0, h1, hlt]) (fun hgd => ?_) (fun hgd => ?_) <;> first | (exfalso; simp at hgd; done) | (exfalso; simp at hgd; omega) | (simp -implicitDefEqProofs (maxSteps := 2000000) [hP, hN, h0, h1, hlt] <;> (try refine ⟨by kernel_rfl, ?_⟩)))
      | with_reducible refine xTwo_intro ?_ ?_
      | (with_reducible refine xCond_split (fun hcd => ?_) (fun hcd => ?_) <;> (try (exfalso; clear hP hN; simp_all; done)) <;> (try (exfalso; simp at *; omega)))
      | with_reducible refine WP.block ?_
      | (with_reducible ((first | refine WP.skip ?_ | refine WP.exit ?_ | refine WP.ret ?_); simp [h0, h1, hlt])))
    simp [all_done hlt hq]


def hasI (x : Int × Int) (c : Int) : Bool := validB x.1 x.2 && decide (x.1 ≤ c) && decide (c ≤ x.2)
def hasL (xs : List (Int × Int)) (ys : List Int) : Bool := allB vI xs && decide (xs.length = ys.length) && allZ hasI xs ys
theorem d30 (xs : List (Int × Int)) (ys : List (Int)) (hl : xs.length ≤ 9223372036854775807) (hm : ys.length ≤ 9223372036854775807) : DetH Try.prog 30 [.pv (iv xs), .pv (zs ys)] [] [] (.pv (B (hasL xs ys))) := by
  refine detP_of Try.func30 rfl (by kernel_rfl) (by simp [Try.f30]) rfl ?_
  intro C hP hN
  simp only [Try.f30] at hN ⊢
  cases hv : allB vI xs with
  | false =>
    repeat' (first
      | with_reducible refine WP.seq ?_
      | (with_reducible ((first | refine WP.region (hn := []) ?_ | refine xC_intro (d82 _ hl) ?_ | refine WP.cond' ?_); simp -implicitDefEqProofs (maxSteps := 2000000) [hP, hN, hv]))
      | (with_reducible ((first | refine WP.draw (hn := []) (by rw [hP]; kernel_rfl) (by kernel_rfl) ?_ | refine yC_intro (d82 _ hl) ?_); simp -implicitDefEqProofs (maxSteps := 2000000) [hP, hN, hv]; (try refine ⟨by kernel_rfl, ?_⟩)))
      | (with_reducible refine xB_split (by simp [hv]) (fun hgd => ?_) (fun hgd => ?_) <;> first | (exfalso; simp at hgd; done) | (exfalso; simp at hgd; omega) | simp -implicitDefEqProofs (maxSteps := 2000000) [hP, hN, hv])
      | (with_reducible refine yB_split (by simp [hv]) (fun hgd => ?_) (fun hgd => ?_) <;> first | (exfalso; simp at hgd; done) | (exfalso; simp at hgd; omega) | (simp -implicitDefEqProofs (maxSteps := 2000000) [hP, hN, hv] <;> (try refine ⟨by kernel_rfl, ?_⟩)))
      | with_reducible refine xTwo_intro ?_ ?_
      | (with_reducible refine xCond_split (fun hcd => ?_) (fun hcd => ?_) <;> (try (exfalso; clear hP hN; simp_all; done)) <;> (try (exfalso; simp at *; omega)))
      | with_reducible refine WP.block ?_
      | (with_reducible ((first | refine WP.skip ?_ | refine WP.exit ?_ | refine WP.ret ?_); simp [hv])))
    all_goals simp [hasL, hv]
  | true =>
    by_cases he : xs.length = ys.length
    · skip
      repeat' (first
        | with_reducible refine WP.seq ?_
        | (with_reducible ((first | refine WP.region (hn := []) ?_ | refine xC_intro (d82 _ hl) ?_ | refine WP.cond' ?_); simp -implicitDefEqProofs (maxSteps := 2000000) [hP, hN, hv, he]))
        | (with_reducible ((first | refine WP.draw (hn := []) (by rw [hP]; kernel_rfl) (by kernel_rfl) ?_ | refine yC_intro (d82 _ hl) ?_); simp -implicitDefEqProofs (maxSteps := 2000000) [hP, hN, hv, he]; (try refine ⟨by kernel_rfl, ?_⟩)))
        | (with_reducible refine xB_split (by simp [hv, he]) (fun hgd => ?_) (fun hgd => ?_) <;> first | (exfalso; simp at hgd; done) | (exfalso; simp at hgd; omega) | simp -implicitDefEqProofs (maxSteps := 2000000) [hP, hN, hv, he])
        | (with_reducible refine yB_split (by simp [hv, he]) (fun hgd => ?_) (fun hgd => ?_) <;> first | (exfalso; simp at hgd; done) | (exfalso; simp at hgd; omega) | (simp -implicitDefEqProofs (maxSteps := 2000000) [hP, hN, hv, he] <;> (try refine ⟨by kernel_rfl, ?_⟩)))
        | with_reducible refine xTwo_intro ?_ ?_
        | (with_reducible refine xCond_split (fun hcd => ?_) (fun hcd => ?_) <;> (try (exfalso; clear hP hN; simp_all; done)) <;> (try (exfalso; simp at *; omega)))
        | with_reducible refine WP.block ?_
        | (with_reducible ((first | refine WP.skip ?_ | refine WP.exit ?_ | refine WP.ret ?_); simp [hv, he])))
      refine WP.loopN [] xs.length (fun i st => st.t 0 = .pv (iv xs) ∧ st.t 1 = .pv (zs ys) ∧ st.t 5 = .pv (Z i) ∧ allZt hasI xs ys i = true) (by simp [allZt]) ?_
      rintro i st hi ⟨h0, h1, h2, hq⟩
      by_cases hlt : i < xs.length
      · have hw := wr_succ hlt hl
        have hlt' : i < ys.length := by omega
        have hF : hasI xs[i] ys[i] = false → allZ hasI xs ys = false := allZ_false hlt hlt'
        have hS : hasI xs[i] ys[i] = true → allZt hasI xs ys (i + 1) = true := allZ_step hlt hlt' hq
        repeat' (first
          | with_reducible refine WP.seq ?_
          | (with_reducible ((first | refine WP.region (hn := []) ?_ | refine xC_intro (d84 _ _ _) ?_ | refine WP.cond' ?_); simp -implicitDefEqProofs (maxSteps := 2000000) [hP, hN, h0, h1, h2, hlt, hlt', hw]))
          | (with_reducible ((first | refine WP.draw (hn := []) (by rw [hP]; kernel_rfl) (by kernel_rfl) ?_ | refine yC_intro (d84 _ _ _) ?_); simp -implicitDefEqProofs (maxSteps := 2000000) [hP, hN, h0, h1, h2, hlt, hlt', hw]; (try refine ⟨by kernel_rfl, ?_⟩)))
          | (with_reducible refine xB_split (by simp [h0, h1, h2, hlt, hlt', hw]) (fun hgd => ?_) (fun hgd => ?_) <;> first | (exfalso; simp at hgd; done) | (exfalso; simp at hgd; omega) | simp -implicitDefEqProofs (maxSteps := 2000000) [hP, hN, h0, h1, h2, hlt, hlt', hw])
          | (with_reducible refine yB_split (by simp [h0, h1, h2, hlt, hlt', hw]) (fun hgd => ?_) (fun hgd => ?_) <;> first | (exfalso; simp at hgd; done) | (exfalso; simp at hgd; omega) | (simp -implicitDefEqProofs (maxSteps := 2000000) [hP, hN, h0, h1, h2, hlt, hlt', hw] <;> (try refine ⟨by kernel_rfl, ?_⟩)))
          | with_reducible refine xTwo_intro ?_ ?_
          | (with_reducible refine xCond_split (fun hcd => ?_) (fun hcd => ?_) <;> (try (exfalso; clear hP hN; simp_all; done)) <;> (try (exfalso; simp at *; omega)))
          | with_reducible refine WP.block ?_
          | (with_reducible ((first | refine WP.skip ?_ | refine WP.exit ?_ | refine WP.ret ?_); simp [h0, h1, h2, hlt, hlt', hw])))
        all_goals first | (rw [hasL, hF (by simp only [hasI] <;> grind)]; simp; done) | (rw [hS (by simp only [hasI] <;> grind)]; done)
      · have hlt' : ¬ i < ys.length := by omega
        repeat' (first
          | with_reducible refine WP.seq ?_
          | (with_reducible ((first | refine WP.region (hn := []) ?_ | refine WP.cond' ?_); simp -implicitDefEqProofs (maxSteps := 2000000) [hP, hN, h0, h1, h2, hlt, hlt']))
          | (with_reducible ((first | refine WP.draw (hn := []) (by rw [hP]; kernel_rfl) (by kernel_rfl) ?_); simp -implicitDefEqProofs (maxSteps := 2000000) [hP, hN, h0, h1, h2, hlt, hlt']; (try refine ⟨by kernel_rfl, ?_⟩)))
          | (with_reducible refine xB_split (by simp [h0, h1, h2, hlt, hlt']) (fun hgd => ?_) (fun hgd => ?_) <;> first | (exfalso; simp at hgd; done) | (exfalso; simp at hgd; omega) | simp -implicitDefEqProofs (maxSteps := 2000000) [hP, hN, h0, h1, h2, hlt, hlt'])
          | (with_reducible refine yB_split (by simp [h0, h1, h2, hlt, hlt']) (fun hgd => ?_) (fun hgd => ?_) <;> first | (exfalso; simp at hgd; done) | (exfalso; simp at hgd; omega) | (simp -implicitDefEqProofs (maxSteps := 2000000) [hP, hN, h0, h1, h2, hlt, hlt'] <;> (try refine ⟨by kernel_rfl, ?_⟩)))
          | with_reducible refine xTwo_intro ?_ ?_
          | (with_reducible refine xCond_split (fun hcd => ?_) (fun hcd => ?_) <;> (try (exfalso; clear hP hN; simp_all; done)) <;> (try (exfalso; simp at *; omega)))
          | with_reducible refine WP.block ?_
          | (with_reducible ((first | refine WP.skip ?_ | refine WP.exit ?_ | refine WP.ret ?_); simp [h0, h1, h2, hlt, hlt'])))
        all_goals simp [hasL, hv, he, allZ_done hlt hq]
    · skip
      repeat' (first
        | with_reducible refine WP.seq ?_
        | (with_reducible ((first | refine WP.region (hn := []) ?_ | refine xC_intro (d82 _ hl) ?_ | refine WP.cond' ?_); simp -implicitDefEqProofs (maxSteps := 2000000) [hP, hN, hv, he]))
        | (with_reducible ((first | refine WP.draw (hn := []) (by rw [hP]; kernel_rfl) (by kernel_rfl) ?_ | refine yC_intro (d82 _ hl) ?_); simp -implicitDefEqProofs (maxSteps := 2000000) [hP, hN, hv, he]; (try refine ⟨by kernel_rfl, ?_⟩)))
        | (with_reducible refine xB_split (by simp [hv, he]) (fun hgd => ?_) (fun hgd => ?_) <;> first | (exfalso; simp at hgd; done) | (exfalso; simp at hgd; omega) | simp -implicitDefEqProofs (maxSteps := 2000000) [hP, hN, hv, he])
        | (with_reducible refine yB_split (by simp [hv, he]) (fun hgd => ?_) (fun hgd => ?_) <;> first | (exfalso; simp at hgd; done) | (exfalso; simp at hgd; omega) | (simp -implicitDefEqProofs (maxSteps := 2000000) [hP, hN, hv, he] <;> (try refine ⟨by kernel_rfl, ?_⟩)))
        | with_reducible refine xTwo_intro ?_ ?_
        | (with_reducible refine xCond_split (fun hcd => ?_) (fun hcd => ?_) <;> (try (exfalso; clear hP hN; simp_all; done)) <;> (try (exfalso; simp at *; omega)))
        | with_reducible refine WP.block ?_
        | (with_reducible ((first | refine WP.skip ?_ | refine WP.exit ?_ | refine WP.ret ?_); simp [hv, he])))
      all_goals simp [hasL, hv, he]


end Go.Ab

/- Contracts: appending loops, Halve, awake. -/
namespace Go.Ab
open Go.Proofs
end Go.Ab


/- Contracts: Halve, awake. -/
namespace Go.Ab
open Go.Proofs
def widthI (x : Int × Int) : Int := if validB x.1 x.2 then wr (x.2 - x.1) else 0
def midI (x : Int × Int) : Int := if validB x.1 x.2 then (wr (x.1 + x.2)).fdiv 2 else 0
def halveOk (xs : List (Int × Int)) (j : Int) : Bool := decide (0 ≤ j) && allB vI xs && (match xs[j.toNat]? with | some x => decide (2 ≤ widthI x) | none => false)
def halveA (xs : List (Int × Int)) (j : Int) : List (Int × Int) := if halveOk xs j then (match xs[j.toNat]? with | some x => xs.set j.toNat (x.1, midI x) | none => []) else []
def halveZ (xs : List (Int × Int)) (j : Int) : List (Int × Int) := if halveOk xs j then (match xs[j.toNat]? with | some x => xs.set j.toNat (midI x, x.2) | none => []) else []
theorem d93 (xs : List (Int × Int)) (j : Int) (hl : xs.length ≤ 16777216) : DetH Try.prog 93 [.pv (iv xs), .pv (Z j)] [] [] (.pv (.tup [iv (halveA xs j), iv (halveZ xs j), B (halveOk xs j)])) := by
  refine detP_of Try.func93 rfl (by kernel_rfl) (by simp [Try.f93]) rfl ?_
  intro C hP hN
  simp only [Try.f93] at hN ⊢
  by_cases hj : 0 ≤ j
  · obtain ⟨n, rfl⟩ := Int.eq_ofNat_of_zero_le hj
    by_cases hlt : n < xs.length
    · cases hv : allB vI xs with
      | false =>
        repeat' (first
          | with_reducible refine WP.seq ?_
          | (with_reducible ((first | refine WP.region (hn := []) ?_ | refine xC_intro (d152 _ (big hl)) ?_ | refine WP.cond' ?_); simp -implicitDefEqProofs (maxSteps := 2000000) [hP, hN, hlt, hv]))
          | (with_reducible ((first | refine WP.draw (hn := []) (by rw [hP]; kernel_rfl) (by kernel_rfl) ?_ | refine yC_intro (d152 _ (big hl)) ?_); simp -implicitDefEqProofs (maxSteps := 2000000) [hP, hN, hlt, hv]; (try refine ⟨by kernel_rfl, ?_⟩)))
          | (with_reducible refine xB_split (by simp [hlt, hv]) (fun hgd => ?_) (fun hgd => ?_) <;> first | (exfalso; simp at hgd; done) | (exfalso; simp at hgd; omega) | simp -implicitDefEqProofs (maxSteps := 2000000) [hP, hN, hlt, hv])
          | (with_reducible refine yB_split (by simp [hlt, hv]) (fun hgd => ?_) (fun hgd => ?_) <;> first | (exfalso; simp at hgd; done) | (exfalso; simp at hgd; omega) | (simp -implicitDefEqProofs (maxSteps := 2000000) [hP, hN, hlt, hv] <;> (try refine ⟨by kernel_rfl, ?_⟩)))
          | with_reducible refine xTwo_intro ?_ ?_
          | (with_reducible refine xCond_split (fun hcd => ?_) (fun hcd => ?_) <;> (try (exfalso; clear hP hN; simp_all; done)) <;> (try (exfalso; simp at *; omega)))
          | with_reducible refine WP.block ?_
          | (with_reducible ((first | refine WP.skip ?_ | refine WP.exit ?_ | refine WP.ret ?_); simp [hlt, hv])))
        all_goals simp [halveA, halveZ, halveOk, hv]
      | true =>
        have hx := List.getElem?_eq_getElem hlt
        generalize hxx : xs[n] = x at hx
        by_cases hwd : widthI x < 2
        · have hwd' := hwd
          simp only [widthI] at hwd'
          repeat' (first
            | with_reducible refine WP.seq ?_
            | (with_reducible ((first | refine WP.region (hn := []) ?_ | refine xC_intro (d152 _ (big hl)) ?_ | refine xC_intro (d153 _ _) ?_ | refine WP.cond' ?_); simp -implicitDefEqProofs (maxSteps := 2000000) [hP, hN, hlt, hv, hx, hxx, hwd']))
            | (with_reducible ((first | refine WP.draw (hn := []) (by rw [hP]; kernel_rfl) (by kernel_rfl) ?_ | refine yC_intro (d152 _ (big hl)) ?_ | refine yC_intro (d153 _ _) ?_); simp -implicitDefEqProofs (maxSteps := 2000000) [hP, hN, hlt, hv, hx, hxx, hwd']; (try refine ⟨by kernel_rfl, ?_⟩)))
            | (with_reducible refine xB_split (by simp [hlt, hv, hx, hxx, hwd']) (fun hgd => ?_) (fun hgd => ?_) <;> first | (exfalso; simp at hgd; done) | (exfalso; simp at hgd; omega) | simp -implicitDefEqProofs (maxSteps := 2000000) [hP, hN, hlt, hv, hx, hxx, hwd'])
            | (with_reducible refine yB_split (by simp [hlt, hv, hx, hxx, hwd']) (fun hgd => ?_) (fun hgd => ?_) <;> first | (exfalso; simp at hgd; done) | (exfalso; simp at hgd; omega) | (simp -implicitDefEqProofs (maxSteps := 2000000) [hP, hN, hlt, hv, hx, hxx, hwd'] <;> (try refine ⟨by kernel_rfl, ?_⟩)))
            | with_reducible refine xTwo_intro ?_ ?_
            | (with_reducible refine xCond_split (fun hcd => ?_) (fun hcd => ?_) <;> (try (exfalso; clear hP hN; simp_all; done)) <;> (try (exfalso; simp at *; omega)))
            | with_reducible refine WP.block ?_
            | (with_reducible ((first | refine WP.skip ?_ | refine WP.exit ?_ | refine WP.ret ?_); simp [hlt, hv, hx, hxx, hwd'])))
          all_goals simp [halveA, halveZ, halveOk, hv, hx, Int.not_le.2 hwd]
        · have hwd' := hwd
          simp only [widthI] at hwd'
          repeat' (first
            | with_reducible refine WP.seq ?_
            | (with_reducible ((first | refine WP.region (hn := []) ?_ | refine xC_intro (d152 _ (big hl)) ?_ | refine xC_intro (d153 _ _) ?_ | refine xC_intro (d154 _ _) ?_ | refine WP.cond' ?_); simp -implicitDefEqProofs (maxSteps := 2000000) [hP, hN, hlt, hv, hx, hxx, hwd', show (16 : Int) * xs.length ≤ 281474976710656 by omega, show (xs.length : Int) ≤ 9223372036854775807 by omega]))
            | (with_reducible ((first | refine WP.draw (hn := []) (by rw [hP]; kernel_rfl) (by kernel_rfl) ?_ | refine yC_intro (d152 _ (big hl)) ?_ | refine yC_intro (d153 _ _) ?_ | refine yC_intro (d154 _ _) ?_); simp -implicitDefEqProofs (maxSteps := 2000000) [hP, hN, hlt, hv, hx, hxx, hwd', show (16 : Int) * xs.length ≤ 281474976710656 by omega, show (xs.length : Int) ≤ 9223372036854775807 by omega]; (try refine ⟨by kernel_rfl, ?_⟩)))
            | (with_reducible refine xB_split (by simp [hlt, hv, hx, hxx, hwd', show (16 : Int) * xs.length ≤ 281474976710656 by omega, show (xs.length : Int) ≤ 9223372036854775807 by omega]) (fun hgd => ?_) (fun hgd => ?_) <;> first | (exfalso; simp at hgd; done) | (exfalso; simp at hgd; omega) | simp -implicitDefEqProofs (maxSteps := 2000000) [hP, hN, hlt, hv, hx, hxx, hwd', show (16 : Int) * xs.length ≤ 281474976710656 by omega, show (xs.length : Int) ≤ 9223372036854775807 by omega])
            | (with_reducible refine yB_split (by simp [hlt, hv, hx, hxx, hwd', show (16 : Int) * xs.length ≤ 281474976710656 by omega, show (xs.length : Int) ≤ 9223372036854775807 by omega]) (fun hgd => ?_) (fun hgd => ?_) <;> first | (exfalso; simp at hgd; done) | (exfalso; simp at hgd; omega) | (simp -implicitDefEqProofs (maxSteps := 2000000) [hP, hN, hlt, hv, hx, hxx, hwd', show (16 : Int) * xs.length ≤ 281474976710656 by omega, show (xs.length : Int) ≤ 9223372036854775807 by omega] <;> (try refine ⟨by kernel_rfl, ?_⟩)))
            | with_reducible refine xTwo_intro ?_ ?_
            | (with_reducible refine xCond_split (fun hcd => ?_) (fun hcd => ?_) <;> (try (exfalso; clear hP hN; simp_all; done)) <;> (try (exfalso; simp at *; omega)))
            | with_reducible refine WP.block ?_
            | (with_reducible ((first | refine WP.skip ?_ | refine WP.exit ?_ | refine WP.ret ?_); simp [hlt, hv, hx, hxx, hwd', show (16 : Int) * xs.length ≤ 281474976710656 by omega, show (xs.length : Int) ≤ 9223372036854775807 by omega])))
          have hok : halveOk xs (n : Int) = true := by simp [halveOk, hv, hx, Int.not_lt.1 hwd]
          have ht : List.take xs.length (List.map encI xs) = List.map encI xs := List.take_of_length_le (by simp)
          simp [halveA, halveZ, hok, hx, ht, List.map_set, midI]
    · skip
      repeat' (first
        | with_reducible refine WP.seq ?_
        | (with_reducible ((first | refine WP.region (hn := []) ?_ | refine xC_intro (d152 _ (big hl)) ?_ | refine WP.cond' ?_); simp -implicitDefEqProofs (maxSteps := 2000000) [hP, hN, hlt]))
        | (with_reducible ((first | refine WP.draw (hn := []) (by rw [hP]; kernel_rfl) (by kernel_rfl) ?_ | refine yC_intro (d152 _ (big hl)) ?_); simp -implicitDefEqProofs (maxSteps := 2000000) [hP, hN, hlt]; (try refine ⟨by kernel_rfl, ?_⟩)))
        | (with_reducible refine xB_split (by simp [hlt]) (fun hgd => ?_) (fun hgd => ?_) <;> first | (exfalso; simp at hgd; done) | (exfalso; simp at hgd; omega) | simp -implicitDefEqProofs (maxSteps := 2000000) [hP, hN, hlt])
        | (with_reducible refine yB_split (by simp [hlt]) (fun hgd => ?_) (fun hgd => ?_) <;> first | (exfalso; simp at hgd; done) | (exfalso; simp at hgd; omega) | (simp -implicitDefEqProofs (maxSteps := 2000000) [hP, hN, hlt] <;> (try refine ⟨by kernel_rfl, ?_⟩)))
        | with_reducible refine xTwo_intro ?_ ?_
        | (with_reducible refine xCond_split (fun hcd => ?_) (fun hcd => ?_) <;> (try (exfalso; clear hP hN; simp_all; done)) <;> (try (exfalso; simp at *; omega)))
        | with_reducible refine WP.block ?_
        | (with_reducible ((first | refine WP.skip ?_ | refine WP.exit ?_ | refine WP.ret ?_); simp [hlt])))
      all_goals (have hx : xs[n]? = none := List.getElem?_eq_none (by omega)); simp [halveA, halveZ, halveOk, hx]
  · skip
    repeat' (first
      | with_reducible refine WP.seq ?_
      | (with_reducible ((first | refine WP.region (hn := []) ?_ | refine xC_intro (d152 _ (big hl)) ?_ | refine WP.cond' ?_); simp -implicitDefEqProofs (maxSteps := 2000000) [hP, hN, hj, show j < 0 by omega]))
      | (with_reducible ((first | refine WP.draw (hn := []) (by rw [hP]; kernel_rfl) (by kernel_rfl) ?_ | refine yC_intro (d152 _ (big hl)) ?_); simp -implicitDefEqProofs (maxSteps := 2000000) [hP, hN, hj, show j < 0 by omega]; (try refine ⟨by kernel_rfl, ?_⟩)))
      | (with_reducible refine xB_split (by simp [hj, show j < 0 by omega]) (fun hgd => ?_) (fun hgd => ?_) <;> first | (exfalso; simp at hgd; done) | (exfalso; simp at hgd; omega) | simp -implicitDefEqProofs (maxSteps := 2000000) [hP, hN, hj, show j < 0 by omega])
      | (with_reducible refine yB_split (by simp [hj, show j < 0 by omega]) (fun hgd => ?_) (fun hgd => ?_) <;> first | (exfalso; simp at hgd; done) | (exfalso; simp at hgd; omega) | (simp -implicitDefEqProofs (maxSteps := 2000000) [hP, hN, hj, show j < 0 by omega] <;> (try refine ⟨by kernel_rfl, ?_⟩)))
      | with_reducible refine xTwo_intro ?_ ?_
      | (with_reducible refine xCond_split (fun hcd => ?_) (fun hcd => ?_) <;> (try (exfalso; clear hP hN; simp_all; done)) <;> (try (exfalso; simp at *; omega)))
      | with_reducible refine WP.block ?_
      | (with_reducible ((first | refine WP.skip ?_ | refine WP.exit ?_ | refine WP.ret ?_); simp [hj, show j < 0 by omega])))
    all_goals simp [halveA, halveZ, halveOk, hj]
end Go.Ab

/- Contracts: sources. -/
namespace Go.Ab
open Go.Proofs
def nx (l : List Int) (n : Nat) (k : Int) : Int := match l[n]? with
  | some x => roundI x k
  | none => 0
def nn (l : List Int) (n : Nat) : Nat := if n < l.length then n + 1 else n

abbrev srcP (l : List Int) (n : Nat) : List PV := [zs l, Z n]
theorem d71 (l : List Int) : DetH Try.prog 71 [.pv (zs l)] [] [] (.box (srcP l 0)) := by
  refine detP_of Try.func71 rfl (by kernel_rfl) (by simp [Try.f71]) rfl ?_
  intro C hP hN
  simp only [Try.f71] at hN ⊢
  repeat' (first
    | with_reducible refine WP.seq ?_
    | (with_reducible ((first | refine WP.region (hn := []) ?_ | refine WP.cond' ?_); simp -implicitDefEqProofs (maxSteps := 2000000) [hP, hN]))
    | (with_reducible ((first | refine WP.draw (hn := []) (by rw [hP]; kernel_rfl) (by kernel_rfl) ?_); simp -implicitDefEqProofs (maxSteps := 2000000) [hP, hN]; (try refine ⟨by kernel_rfl, ?_⟩)))
    | (with_reducible refine xB_split (by simp) (fun hgd => ?_) (fun hgd => ?_) <;> first | (exfalso; simp at hgd; done) | (exfalso; simp at hgd; omega) | simp -implicitDefEqProofs (maxSteps := 2000000) [hP, hN])
    | (with_reducible refine yB_split (by simp) (fun hgd => ?_) (fun hgd => ?_) <;> first | (exfalso; simp at hgd; done) | (exfalso; simp at hgd; omega) | (simp -implicitDefEqProofs (maxSteps := 2000000) [hP, hN] <;> (try refine ⟨by kernel_rfl, ?_⟩)))
    | with_reducible refine xTwo_intro ?_ ?_
    | (with_reducible refine xCond_split (fun hcd => ?_) (fun hcd => ?_) <;> (try (exfalso; clear hP hN; simp_all; done)) <;> (try (exfalso; simp at *; omega)))
    | with_reducible refine WP.block ?_
    | (with_reducible ((first | refine WP.skip ?_ | refine WP.exit ?_ | refine WP.ret ?_); simp)))
  all_goals (first | (simp_all; done) | ((try simp_all) <;> (try omega) <;> grind))
theorem nn_le (l : List Int) (n : Nat) : nn l n ≤ n + 1 := by unfold nn; split <;> omega
theorem d75 (l : List Int) (n : Nat) (k : Int) (hk : k ≠ 0) (hn : n < 1000000) : DetH Try.prog 75 [.bx 0, .pv (Z k)] [srcP l n] [srcP l (nn l n)] (.pv (Z (nx l n k))) := by
  have hw : IntKind.i64.wrap ((n : Int) + 1) = (n : Int) + 1 := by rw [IntKind.wrap_i64]; omega
  have hw' : IntKind.i64.wrap (n : Int) = n := by rw [IntKind.wrap_i64]; omega
  refine detH_of Try.func75 rfl (by kernel_rfl) (by simp [Try.f75]) rfl (by intro i j h; rcases i with _ | _ | _ | i <;> simp_all) ?_
  intro C hP hN
  simp only [Try.f75] at hN ⊢
  by_cases hlt : n < l.length
  · skip
    repeat' (first
      | with_reducible refine WP.seq ?_
      | (with_reducible ((first | refine WP.region (hn := []) ?_ | refine xC_intro (d35 _ _ hk) ?_ | refine WP.cond' ?_); simp -implicitDefEqProofs (maxSteps := 2000000) [hP, hN, srcP, hlt, hw, hw', Nat.not_le.2 hlt]))
      | (with_reducible ((first | refine WP.draw (hn := []) (by rw [hP]; kernel_rfl) (by kernel_rfl) ?_ | refine yC_intro (d35 _ _ hk) ?_); simp -implicitDefEqProofs (maxSteps := 2000000) [hP, hN, srcP, hlt, hw, hw', Nat.not_le.2 hlt]; (try refine ⟨by kernel_rfl, ?_⟩)))
      | (with_reducible refine xB_split (by simp [srcP, hlt, hw, hw', Nat.not_le.2 hlt]) (fun hgd => ?_) (fun hgd => ?_) <;> first | (exfalso; simp at hgd; done) | (exfalso; simp at hgd; omega) | simp -implicitDefEqProofs (maxSteps := 2000000) [hP, hN, srcP, hlt, hw, hw', Nat.not_le.2 hlt])
      | (with_reducible refine yB_split (by simp [srcP, hlt, hw, hw', Nat.not_le.2 hlt]) (fun hgd => ?_) (fun hgd => ?_) <;> first | (exfalso; simp at hgd; done) | (exfalso; simp at hgd; omega) | (simp -implicitDefEqProofs (maxSteps := 2000000) [hP, hN, srcP, hlt, hw, hw', Nat.not_le.2 hlt] <;> (try refine ⟨by kernel_rfl, ?_⟩)))
      | with_reducible refine xTwo_intro ?_ ?_
      | (with_reducible refine xCond_split (fun hcd => ?_) (fun hcd => ?_) <;> (try (exfalso; clear hP hN; simp_all; done)) <;> (try (exfalso; simp at *; omega)))
      | with_reducible refine WP.block ?_
      | (with_reducible ((first | refine WP.skip ?_ | refine WP.exit ?_ | refine WP.ret ?_); simp [srcP, hlt, hw, hw', Nat.not_le.2 hlt])))
    simp [nn, nx, hlt]
  · skip
    repeat' (first
      | with_reducible refine WP.seq ?_
      | (with_reducible ((first | refine WP.region (hn := []) ?_ | refine WP.cond' ?_); simp -implicitDefEqProofs (maxSteps := 2000000) [hP, hN, srcP, hlt, Nat.not_lt.1 hlt]))
      | (with_reducible ((first | refine WP.draw (hn := []) (by rw [hP]; kernel_rfl) (by kernel_rfl) ?_); simp -implicitDefEqProofs (maxSteps := 2000000) [hP, hN, srcP, hlt, Nat.not_lt.1 hlt]; (try refine ⟨by kernel_rfl, ?_⟩)))
      | (with_reducible refine xB_split (by simp [srcP, hlt, Nat.not_lt.1 hlt]) (fun hgd => ?_) (fun hgd => ?_) <;> first | (exfalso; simp at hgd; done) | (exfalso; simp at hgd; omega) | simp -implicitDefEqProofs (maxSteps := 2000000) [hP, hN, srcP, hlt, Nat.not_lt.1 hlt])
      | (with_reducible refine yB_split (by simp [srcP, hlt, Nat.not_lt.1 hlt]) (fun hgd => ?_) (fun hgd => ?_) <;> first | (exfalso; simp at hgd; done) | (exfalso; simp at hgd; omega) | (simp -implicitDefEqProofs (maxSteps := 2000000) [hP, hN, srcP, hlt, Nat.not_lt.1 hlt] <;> (try refine ⟨by kernel_rfl, ?_⟩)))
      | with_reducible refine xTwo_intro ?_ ?_
      | (with_reducible refine xCond_split (fun hcd => ?_) (fun hcd => ?_) <;> (try (exfalso; clear hP hN; simp_all; done)) <;> (try (exfalso; simp at *; omega)))
      | with_reducible refine WP.block ?_
      | (with_reducible ((first | refine WP.skip ?_ | refine WP.exit ?_ | refine WP.ret ?_); simp [srcP, hlt, Nat.not_lt.1 hlt])))
    simp [nn, nx, hlt]
theorem d145 (l : List Int) (n : Nat) (k : Int) (h0 : 0 < k) (hk : k < 1000000) (hn : n < 1000000) : DetH Try.prog 145 [.bx 0, .pv (Z k)] [srcP l n] [srcP l (nn l n)] (.pv (Z (wr (nx l n (2 * k + 1) - k)))) := by
  have hw : IntKind.i64.wrap (2 * k) = 2 * k := by rw [IntKind.wrap_i64]; omega
  have hw' : IntKind.i64.wrap (2 * k + 1) = 2 * k + 1 := by rw [IntKind.wrap_i64]; omega
  refine detH_of Try.func145 rfl (by kernel_rfl) (by simp [Try.f145]) rfl (by intro i j h; rcases i with _ | _ | _ | i <;> simp_all) ?_
  intro C hP hN
  simp only [Try.f145] at hN ⊢
  repeat' (first
    | with_reducible refine WP.seq ?_
    | (with_reducible ((first | refine WP.region (hn := []) ?_ | refine xC_intro (d75 l n (2 * k + 1) (by omega) hn) ?_ | refine WP.cond' ?_); simp -implicitDefEqProofs (maxSteps := 2000000) [hP, hN, srcP, hw, hw']))
    | (with_reducible ((first | refine WP.draw (hn := []) (by rw [hP]; kernel_rfl) (by kernel_rfl) ?_ | refine yC_intro (d75 l n (2 * k + 1) (by omega) hn) ?_); simp -implicitDefEqProofs (maxSteps := 2000000) [hP, hN, srcP, hw, hw']; (try refine ⟨by kernel_rfl, ?_⟩)))
    | (with_reducible refine xB_split (by simp [srcP, hw, hw']) (fun hgd => ?_) (fun hgd => ?_) <;> first | (exfalso; simp at hgd; done) | (exfalso; simp at hgd; omega) | simp -implicitDefEqProofs (maxSteps := 2000000) [hP, hN, srcP, hw, hw'])
    | (with_reducible refine yB_split (by simp [srcP, hw, hw']) (fun hgd => ?_) (fun hgd => ?_) <;> first | (exfalso; simp at hgd; done) | (exfalso; simp at hgd; omega) | (simp -implicitDefEqProofs (maxSteps := 2000000) [hP, hN, srcP, hw, hw'] <;> (try refine ⟨by kernel_rfl, ?_⟩)))
    | with_reducible refine xTwo_intro ?_ ?_
    | (with_reducible refine xCond_split (fun hcd => ?_) (fun hcd => ?_) <;> (try (exfalso; clear hP hN; simp_all; done)) <;> (try (exfalso; simp at *; omega)))
    | with_reducible refine WP.block ?_
    | (with_reducible ((first | refine WP.skip ?_ | refine WP.exit ?_ | refine WP.ret ?_); simp [srcP, hw, hw'])))
theorem nx_range (l : List Int) (n : Nat) {k : Int} (hk : 0 < k) (hk' : k < 4611686018427387904) : 0 ≤ nx l n k ∧ nx l n k < k := by
  unfold nx
  split
  · rename_i x _
    have h1 : -k < x.tmod k := by have := Int.lt_tmod_of_pos x hk; omega
    have h2 : x.tmod k < k := Int.tmod_lt_of_pos x hk
    unfold roundI
    split
    · rw [wr_id (by omega) (by omega)]; omega
    · omega
  · omega
section
variable {dst : Option Nat} {ty : TypeId} {pos : String} {aft : Array Edge} {g : Option (Nat × Bool)} {ρ : Operand → AV}
end
end Go.Ab

/- Contracts: joints. -/
namespace Go.Ab
open Go.Proofs
structure J where
  name : ByteArray
  kind : Int
  parent : Int
  ox : Int
  oy : Int
  oz : Int
  lo : Int
  hi : Int
  w : Int
  sp : Int
  ac : Int
  tq : Int
end Go.Ab

/- Contracts: robots. -/
namespace Go.Ab
open Go.Proofs
structure Ms where
  link : Int
  mass : Int
  px : Int
  py : Int
  pz : Int
end Go.Ab

/- Contracts: configurations, motions. -/
namespace Go.Ab
open Go.Proofs
theorem round_range (x : Int) {k : Int} (hk : 0 < k) (hk' : k < 4611686018427387904) : 0 ≤ roundI x k ∧ roundI x k < k := by
  have := nx_range [x] 0 hk hk'
  simpa [nx] using this
end Go.Ab

/- Contracts: config's loops with a function. -/
namespace Go.Ab
open Go.Proofs
theorem rp_bool {P : Program} (d : Nat) (t : TypeId) (a b : Bool) (h : P.underlying t = some .bool) : runPure P (Op.equalIn (d + 1) t (.bool a) (.bool b)) = some (a == b) := by
  simp only [Op.equalIn, runPure_bind, runPure_underlying h, Option.bind_some]; rfl
def bool2 (x y : AV) : Option (Bool × Bool) := match x, y with
  | .pv (.val (.bool a)), .pv (.val (.bool b)) => some (a, b)
  | _, _ => none
def cmpB (x y : AV) (fb : Option Eff) : Option Eff := match bool2 x y with
  | some (a, b) => some (.pv (.val (.bool (a == b))), [])
  | none => fb
@[simp] theorem cmpB_some (a b : Bool) (fb : Option Eff) : cmpB (.pv (.val (.bool a))) (.pv (.val (.bool b))) fb = some (.pv (.val (.bool (a == b))), []) := rfl
@[simp] theorem eqBool {dst : Option Nat} {ty : TypeId} {pos : String} {aft : Array Edge} {g : Option (Nat × Bool)} {ρ : Operand → AV} (x y : Operand) :
    evPure Try.prog ⟨dst, .binOp .eql 4 x y 4, ty, pos, aft, g⟩ ρ = cmpB (ρ x) (ρ y) (evPureX Try.prog ⟨dst, .binOp .eql 4 x y 4, ty, pos, aft, g⟩ ρ) := by
  unfold cmpB
  split
  · rename_i a b h
    unfold bool2 at h
    split at h
    · rename_i a' b' hx hy
      injection h with h; injection h with h1 h2; subst h1; subst h2
      refine evPure_of (by simp [Op.operands, hx, hy, valOf]) ?_
      unfold execOp
      simp only [(valOf_some hx).2, (valOf_some hy).2]
      have h1 : runPure Try.prog (eqGuard .eql 4 x y (.bool a') (.bool b')) = some () := by kernel_rfl
      have h2 : runPure Try.prog (binOp .eql 4 (.bool a') (.bool b')) = some (.bool (a' == b')) := by
        simp only [binOp, runPure_bind]
        rw [show runPure Try.prog (Op.equal 4 (.bool a') (.bool b')) = some (a' == b') from rp_bool 9999 4 a' b' Try.underlying4]
        rfl
      simp only [runPure_bind, h1, h2, Option.bind_some]; rfl
    · cases h
  · rfl
theorem d149 (f : FuncId) (p : Int × Int → Int → Bool) (xs : List (Int × Int)) (ys : List (Int)) (hl : xs.length ≤ 9223372036854775807) (hf : ∀ a b, DetH Try.prog f [.pv (encI a), .pv (Z b)] [] [] (.pv (B (p a b)))) : DetH Try.prog 149 [.pv (.sl (xs.map encI)), .pv (.sl (ys.map Z)), .pv (Fv f)] [] [] (.pv (B (decide (xs.length = ys.length) && allZ p xs ys))) := by
  refine detP_of Try.func149 rfl (by kernel_rfl) (by simp [Try.f149]) rfl ?_
  intro C hP hN
  simp only [Try.f149] at hN ⊢
  by_cases he : xs.length = ys.length
  · skip
    repeat' (first
      | with_reducible refine WP.seq ?_
      | (with_reducible ((first | refine WP.region (hn := []) ?_ | refine WP.cond' ?_); simp -implicitDefEqProofs (maxSteps := 2000000) [hP, hN, he]))
      | (with_reducible ((first | refine WP.draw (hn := []) (by rw [hP]; kernel_rfl) (by kernel_rfl) ?_); simp -implicitDefEqProofs (maxSteps := 2000000) [hP, hN, he]; (try refine ⟨by kernel_rfl, ?_⟩)))
      | (with_reducible refine xB_split (by simp [he]) (fun hgd => ?_) (fun hgd => ?_) <;> first | (exfalso; simp at hgd; done) | (exfalso; simp at hgd; omega) | simp -implicitDefEqProofs (maxSteps := 2000000) [hP, hN, he])
      | (with_reducible refine yB_split (by simp [he]) (fun hgd => ?_) (fun hgd => ?_) <;> first | (exfalso; simp at hgd; done) | (exfalso; simp at hgd; omega) | (simp -implicitDefEqProofs (maxSteps := 2000000) [hP, hN, he] <;> (try refine ⟨by kernel_rfl, ?_⟩)))
      | with_reducible refine xTwo_intro ?_ ?_
      | (with_reducible refine xCond_split (fun hcd => ?_) (fun hcd => ?_) <;> (try (exfalso; clear hP hN; simp_all; done)) <;> (try (exfalso; simp at *; omega)))
      | with_reducible refine WP.block ?_
      | (with_reducible ((first | refine WP.skip ?_ | refine WP.exit ?_ | refine WP.ret ?_); simp [he])))
    refine WP.loopN [8] xs.length (fun i st => st.t 0 = .pv (.sl (xs.map encI)) ∧ st.t 1 = .pv (.sl (ys.map Z)) ∧ st.t 2 = .pv (Fv f) ∧ st.t 14 = .pv (.sl (xs.map encI)) ∧ st.t 15 = .pv (Z xs.length) ∧ st.t 16 = .pv (Z i) ∧ st.h 8 = none ∧ allZt p xs ys i = true) (by simp [allZt, he]) ?_
    rintro i st hi ⟨h0, h1, h2, h14, h15, h16, hb, hq⟩
    by_cases hlt : i < xs.length
    · have hw := wr_succ hlt hl
      have hlt' : i < ys.length := by omega
      have hF : p xs[i] ys[i] = false → allZ p xs ys = false := allZ_false hlt hlt'
      have hS : p xs[i] ys[i] = true → allZt p xs ys (i + 1) = true := allZ_step hlt hlt' hq
      repeat' (first
        | with_reducible refine WP.seq ?_
        | (with_reducible ((first | refine WP.region (hn := []) ?_ | refine xC_intro (hf _ _) ?_ | refine WP.cond' ?_); simp -implicitDefEqProofs (maxSteps := 2000000) [hP, hN, h0, h1, h2, h14, h15, h16, hb, hlt, hlt', hw]))
        | (with_reducible ((first | refine WP.draw (hn := []) (by rw [hP]; kernel_rfl) (by kernel_rfl) ?_ | refine yC_intro (hf _ _) ?_); simp -implicitDefEqProofs (maxSteps := 2000000) [hP, hN, h0, h1, h2, h14, h15, h16, hb, hlt, hlt', hw]; (try refine ⟨by kernel_rfl, ?_⟩)))
        | (with_reducible refine xB_split (by simp [h0, h1, h2, h14, h15, h16, hb, hlt, hlt', hw]) (fun hgd => ?_) (fun hgd => ?_) <;> first | (exfalso; simp at hgd; done) | (exfalso; simp at hgd; omega) | simp -implicitDefEqProofs (maxSteps := 2000000) [hP, hN, h0, h1, h2, h14, h15, h16, hb, hlt, hlt', hw])
        | (with_reducible refine yB_split (by simp [h0, h1, h2, h14, h15, h16, hb, hlt, hlt', hw]) (fun hgd => ?_) (fun hgd => ?_) <;> first | (exfalso; simp at hgd; done) | (exfalso; simp at hgd; omega) | (simp -implicitDefEqProofs (maxSteps := 2000000) [hP, hN, h0, h1, h2, h14, h15, h16, hb, hlt, hlt', hw] <;> (try refine ⟨by kernel_rfl, ?_⟩)))
        | with_reducible refine xTwo_intro ?_ ?_
        | (with_reducible refine xCond_split (fun hcd => ?_) (fun hcd => ?_) <;> (try (exfalso; clear hP hN; simp_all; done)) <;> (try (exfalso; simp at *; omega)))
        | with_reducible refine WP.block ?_
        | (with_reducible ((first | refine WP.skip ?_ | refine WP.exit ?_ | refine WP.ret ?_); simp [h0, h1, h2, h14, h15, h16, hb, hlt, hlt', hw])))
      all_goals first | exact hF (by simpa using hcd) | simpa using hS (by simpa using hcd)
    · skip
      repeat' (first
        | with_reducible refine WP.seq ?_
        | (with_reducible ((first | refine WP.region (hn := []) ?_ | refine WP.cond' ?_); simp -implicitDefEqProofs (maxSteps := 2000000) [hP, hN, h0, h1, h2, h14, h15, h16, hb, hlt]))
        | (with_reducible ((first | refine WP.draw (hn := []) (by rw [hP]; kernel_rfl) (by kernel_rfl) ?_); simp -implicitDefEqProofs (maxSteps := 2000000) [hP, hN, h0, h1, h2, h14, h15, h16, hb, hlt]; (try refine ⟨by kernel_rfl, ?_⟩)))
        | (with_reducible refine xB_split (by simp [h0, h1, h2, h14, h15, h16, hb, hlt]) (fun hgd => ?_) (fun hgd => ?_) <;> first | (exfalso; simp at hgd; done) | (exfalso; simp at hgd; omega) | simp -implicitDefEqProofs (maxSteps := 2000000) [hP, hN, h0, h1, h2, h14, h15, h16, hb, hlt])
        | (with_reducible refine yB_split (by simp [h0, h1, h2, h14, h15, h16, hb, hlt]) (fun hgd => ?_) (fun hgd => ?_) <;> first | (exfalso; simp at hgd; done) | (exfalso; simp at hgd; omega) | (simp -implicitDefEqProofs (maxSteps := 2000000) [hP, hN, h0, h1, h2, h14, h15, h16, hb, hlt] <;> (try refine ⟨by kernel_rfl, ?_⟩)))
        | with_reducible refine xTwo_intro ?_ ?_
        | (with_reducible refine xCond_split (fun hcd => ?_) (fun hcd => ?_) <;> (try (exfalso; clear hP hN; simp_all; done)) <;> (try (exfalso; simp at *; omega)))
        | with_reducible refine WP.block ?_
        | (with_reducible ((first | refine WP.skip ?_ | refine WP.exit ?_ | refine WP.ret ?_); simp [h0, h1, h2, h14, h15, h16, hb, hlt])))
      all_goals simp [he, allZ_done hlt hq]
  · skip
    repeat' (first
      | with_reducible refine WP.seq ?_
      | (with_reducible ((first | refine WP.region (hn := []) ?_ | refine WP.cond' ?_); simp -implicitDefEqProofs (maxSteps := 2000000) [hP, hN, he]))
      | (with_reducible ((first | refine WP.draw (hn := []) (by rw [hP]; kernel_rfl) (by kernel_rfl) ?_); simp -implicitDefEqProofs (maxSteps := 2000000) [hP, hN, he]; (try refine ⟨by kernel_rfl, ?_⟩)))
      | (with_reducible refine xB_split (by simp [he]) (fun hgd => ?_) (fun hgd => ?_) <;> first | (exfalso; simp at hgd; done) | (exfalso; simp at hgd; omega) | simp -implicitDefEqProofs (maxSteps := 2000000) [hP, hN, he])
      | (with_reducible refine yB_split (by simp [he]) (fun hgd => ?_) (fun hgd => ?_) <;> first | (exfalso; simp at hgd; done) | (exfalso; simp at hgd; omega) | (simp -implicitDefEqProofs (maxSteps := 2000000) [hP, hN, he] <;> (try refine ⟨by kernel_rfl, ?_⟩)))
      | with_reducible refine xTwo_intro ?_ ?_
      | (with_reducible refine xCond_split (fun hcd => ?_) (fun hcd => ?_) <;> (try (exfalso; clear hP hN; simp_all; done)) <;> (try (exfalso; simp at *; omega)))
      | with_reducible refine WP.block ?_
      | (with_reducible ((first | refine WP.skip ?_ | refine WP.exit ?_ | refine WP.ret ?_); simp [he])))
    all_goals simp [he]
theorem d157 (f : FuncId) (p : Int × Int → Int × Int → Bool) (xs : List (Int × Int)) (ys : List (Int × Int)) (hl : xs.length ≤ 9223372036854775807) (hf : ∀ a b, DetH Try.prog f [.pv (encI a), .pv (encI b)] [] [] (.pv (B (p a b)))) : DetH Try.prog 157 [.pv (.sl (xs.map encI)), .pv (.sl (ys.map encI)), .pv (Fv f)] [] [] (.pv (B (decide (xs.length = ys.length) && allZ p xs ys))) := by
  refine detP_of Try.func157 rfl (by kernel_rfl) (by simp [Try.f157]) rfl ?_
  intro C hP hN
  simp only [Try.f157] at hN ⊢
  by_cases he : xs.length = ys.length
  · skip
    repeat' (first
      | with_reducible refine WP.seq ?_
      | (with_reducible ((first | refine WP.region (hn := []) ?_ | refine WP.cond' ?_); simp -implicitDefEqProofs (maxSteps := 2000000) [hP, hN, he]))
      | (with_reducible ((first | refine WP.draw (hn := []) (by rw [hP]; kernel_rfl) (by kernel_rfl) ?_); simp -implicitDefEqProofs (maxSteps := 2000000) [hP, hN, he]; (try refine ⟨by kernel_rfl, ?_⟩)))
      | (with_reducible refine xB_split (by simp [he]) (fun hgd => ?_) (fun hgd => ?_) <;> first | (exfalso; simp at hgd; done) | (exfalso; simp at hgd; omega) | simp -implicitDefEqProofs (maxSteps := 2000000) [hP, hN, he])
      | (with_reducible refine yB_split (by simp [he]) (fun hgd => ?_) (fun hgd => ?_) <;> first | (exfalso; simp at hgd; done) | (exfalso; simp at hgd; omega) | (simp -implicitDefEqProofs (maxSteps := 2000000) [hP, hN, he] <;> (try refine ⟨by kernel_rfl, ?_⟩)))
      | with_reducible refine xTwo_intro ?_ ?_
      | (with_reducible refine xCond_split (fun hcd => ?_) (fun hcd => ?_) <;> (try (exfalso; clear hP hN; simp_all; done)) <;> (try (exfalso; simp at *; omega)))
      | with_reducible refine WP.block ?_
      | (with_reducible ((first | refine WP.skip ?_ | refine WP.exit ?_ | refine WP.ret ?_); simp [he])))
    refine WP.loopN [8] xs.length (fun i st => st.t 0 = .pv (.sl (xs.map encI)) ∧ st.t 1 = .pv (.sl (ys.map encI)) ∧ st.t 2 = .pv (Fv f) ∧ st.t 14 = .pv (.sl (xs.map encI)) ∧ st.t 15 = .pv (Z xs.length) ∧ st.t 16 = .pv (Z i) ∧ st.h 8 = none ∧ allZt p xs ys i = true) (by simp [allZt, he]) ?_
    rintro i st hi ⟨h0, h1, h2, h14, h15, h16, hb, hq⟩
    by_cases hlt : i < xs.length
    · have hw := wr_succ hlt hl
      have hlt' : i < ys.length := by omega
      have hF : p xs[i] ys[i] = false → allZ p xs ys = false := allZ_false hlt hlt'
      have hS : p xs[i] ys[i] = true → allZt p xs ys (i + 1) = true := allZ_step hlt hlt' hq
      repeat' (first
        | with_reducible refine WP.seq ?_
        | (with_reducible ((first | refine WP.region (hn := []) ?_ | refine xC_intro (hf _ _) ?_ | refine WP.cond' ?_); simp -implicitDefEqProofs (maxSteps := 2000000) [hP, hN, h0, h1, h2, h14, h15, h16, hb, hlt, hlt', hw]))
        | (with_reducible ((first | refine WP.draw (hn := []) (by rw [hP]; kernel_rfl) (by kernel_rfl) ?_ | refine yC_intro (hf _ _) ?_); simp -implicitDefEqProofs (maxSteps := 2000000) [hP, hN, h0, h1, h2, h14, h15, h16, hb, hlt, hlt', hw]; (try refine ⟨by kernel_rfl, ?_⟩)))
        | (with_reducible refine xB_split (by simp [h0, h1, h2, h14, h15, h16, hb, hlt, hlt', hw]) (fun hgd => ?_) (fun hgd => ?_) <;> first | (exfalso; simp at hgd; done) | (exfalso; simp at hgd; omega) | simp -implicitDefEqProofs (maxSteps := 2000000) [hP, hN, h0, h1, h2, h14, h15, h16, hb, hlt, hlt', hw])
        | (with_reducible refine yB_split (by simp [h0, h1, h2, h14, h15, h16, hb, hlt, hlt', hw]) (fun hgd => ?_) (fun hgd => ?_) <;> first | (exfalso; simp at hgd; done) | (exfalso; simp at hgd; omega) | (simp -implicitDefEqProofs (maxSteps := 2000000) [hP, hN, h0, h1, h2, h14, h15, h16, hb, hlt, hlt', hw] <;> (try refine ⟨by kernel_rfl, ?_⟩)))
        | with_reducible refine xTwo_intro ?_ ?_
        | (with_reducible refine xCond_split (fun hcd => ?_) (fun hcd => ?_) <;> (try (exfalso; clear hP hN; simp_all; done)) <;> (try (exfalso; simp at *; omega)))
        | with_reducible refine WP.block ?_
        | (with_reducible ((first | refine WP.skip ?_ | refine WP.exit ?_ | refine WP.ret ?_); simp [h0, h1, h2, h14, h15, h16, hb, hlt, hlt', hw])))
      all_goals first | exact hF (by simpa using hcd) | simpa using hS (by simpa using hcd)
    · skip
      repeat' (first
        | with_reducible refine WP.seq ?_
        | (with_reducible ((first | refine WP.region (hn := []) ?_ | refine WP.cond' ?_); simp -implicitDefEqProofs (maxSteps := 2000000) [hP, hN, h0, h1, h2, h14, h15, h16, hb, hlt]))
        | (with_reducible ((first | refine WP.draw (hn := []) (by rw [hP]; kernel_rfl) (by kernel_rfl) ?_); simp -implicitDefEqProofs (maxSteps := 2000000) [hP, hN, h0, h1, h2, h14, h15, h16, hb, hlt]; (try refine ⟨by kernel_rfl, ?_⟩)))
        | (with_reducible refine xB_split (by simp [h0, h1, h2, h14, h15, h16, hb, hlt]) (fun hgd => ?_) (fun hgd => ?_) <;> first | (exfalso; simp at hgd; done) | (exfalso; simp at hgd; omega) | simp -implicitDefEqProofs (maxSteps := 2000000) [hP, hN, h0, h1, h2, h14, h15, h16, hb, hlt])
        | (with_reducible refine yB_split (by simp [h0, h1, h2, h14, h15, h16, hb, hlt]) (fun hgd => ?_) (fun hgd => ?_) <;> first | (exfalso; simp at hgd; done) | (exfalso; simp at hgd; omega) | (simp -implicitDefEqProofs (maxSteps := 2000000) [hP, hN, h0, h1, h2, h14, h15, h16, hb, hlt] <;> (try refine ⟨by kernel_rfl, ?_⟩)))
        | with_reducible refine xTwo_intro ?_ ?_
        | (with_reducible refine xCond_split (fun hcd => ?_) (fun hcd => ?_) <;> (try (exfalso; clear hP hN; simp_all; done)) <;> (try (exfalso; simp at *; omega)))
        | with_reducible refine WP.block ?_
        | (with_reducible ((first | refine WP.skip ?_ | refine WP.exit ?_ | refine WP.ret ?_); simp [h0, h1, h2, h14, h15, h16, hb, hlt])))
      all_goals simp [he, allZ_done hlt hq]
  · skip
    repeat' (first
      | with_reducible refine WP.seq ?_
      | (with_reducible ((first | refine WP.region (hn := []) ?_ | refine WP.cond' ?_); simp -implicitDefEqProofs (maxSteps := 2000000) [hP, hN, he]))
      | (with_reducible ((first | refine WP.draw (hn := []) (by rw [hP]; kernel_rfl) (by kernel_rfl) ?_); simp -implicitDefEqProofs (maxSteps := 2000000) [hP, hN, he]; (try refine ⟨by kernel_rfl, ?_⟩)))
      | (with_reducible refine xB_split (by simp [he]) (fun hgd => ?_) (fun hgd => ?_) <;> first | (exfalso; simp at hgd; done) | (exfalso; simp at hgd; omega) | simp -implicitDefEqProofs (maxSteps := 2000000) [hP, hN, he])
      | (with_reducible refine yB_split (by simp [he]) (fun hgd => ?_) (fun hgd => ?_) <;> first | (exfalso; simp at hgd; done) | (exfalso; simp at hgd; omega) | (simp -implicitDefEqProofs (maxSteps := 2000000) [hP, hN, he] <;> (try refine ⟨by kernel_rfl, ?_⟩)))
      | with_reducible refine xTwo_intro ?_ ?_
      | (with_reducible refine xCond_split (fun hcd => ?_) (fun hcd => ?_) <;> (try (exfalso; clear hP hN; simp_all; done)) <;> (try (exfalso; simp at *; omega)))
      | with_reducible refine WP.block ?_
      | (with_reducible ((first | refine WP.skip ?_ | refine WP.exit ?_ | refine WP.ret ?_); simp [he])))
    all_goals simp [he]
theorem hHas (a : Int × Int) (b : Int) : DetH Try.prog 150 [.pv (encI a), .pv (Z b)] [] [] (.pv (B (hasI a b))) := d150 a.1 a.2 b
def middleL (xs : List (Int × Int)) : List Int := if allB vI xs then xs.map midI else []
def hasC (xs : List (Int × Int)) (ys : List Int) : Bool := decide (xs.length = ys.length) && allZ hasI xs ys
def touchI (x y : Int × Int) : Bool := validB x.1 x.2 && validB y.1 y.2 && decide (max x.1 y.1 ≤ min x.2 y.2)
def touchC (xs ys : List (Int × Int)) : Bool := decide (xs.length = ys.length) && allZ touchI xs ys
theorem d86 (xs : List (Int × Int)) (ys : List Int) (hl : xs.length ≤ 9223372036854775807) : DetH Try.prog 86 [.pv (iv xs), .pv (zs ys)] [] [] (.pv (B (hasC xs ys))) := by
  refine detP_of Try.func86 rfl (by kernel_rfl) (by simp [Try.f86]) rfl ?_
  intro C hP hN
  simp only [Try.f86] at hN ⊢
  repeat' (first
    | with_reducible refine WP.seq ?_
    | (with_reducible ((first | refine WP.region (hn := []) ?_ | refine xC_intro (d149 _ hasI _ _ hl hHas) ?_ | refine WP.cond' ?_); simp -implicitDefEqProofs (maxSteps := 2000000) [hP, hN]))
    | (with_reducible ((first | refine WP.draw (hn := []) (by rw [hP]; kernel_rfl) (by kernel_rfl) ?_ | refine yC_intro (d149 _ hasI _ _ hl hHas) ?_); simp -implicitDefEqProofs (maxSteps := 2000000) [hP, hN]; (try refine ⟨by kernel_rfl, ?_⟩)))
    | (with_reducible refine xB_split (by simp) (fun hgd => ?_) (fun hgd => ?_) <;> first | (exfalso; simp at hgd; done) | (exfalso; simp at hgd; omega) | simp -implicitDefEqProofs (maxSteps := 2000000) [hP, hN])
    | (with_reducible refine yB_split (by simp) (fun hgd => ?_) (fun hgd => ?_) <;> first | (exfalso; simp at hgd; done) | (exfalso; simp at hgd; omega) | (simp -implicitDefEqProofs (maxSteps := 2000000) [hP, hN] <;> (try refine ⟨by kernel_rfl, ?_⟩)))
    | with_reducible refine xTwo_intro ?_ ?_
    | (with_reducible refine xCond_split (fun hcd => ?_) (fun hcd => ?_) <;> (try (exfalso; clear hP hN; simp_all; done)) <;> (try (exfalso; simp at *; omega)))
    | with_reducible refine WP.block ?_
    | (with_reducible ((first | refine WP.skip ?_ | refine WP.exit ?_ | refine WP.ret ?_); simp)))
  all_goals (first | (simp_all [hasC]; done) | ((try simp_all [hasC]) <;> (try omega) <;> grind))
theorem d158 (x y : Int × Int) : DetH Try.prog 158 [.pv (encI x), .pv (encI y)] [] [] (.pv (B (touchI x y))) := by
  refine detP_of Try.func158 rfl (by kernel_rfl) (by simp [Try.f158]) rfl ?_
  intro C hP hN
  simp only [Try.f158] at hN ⊢
  cases h : touchI x y with
  | true =>
    have h' : (validB x.1 x.2 && validB y.1 y.2 && decide (max x.1 y.1 ≤ min x.2 y.2)) = true := h
    repeat' (first
      | with_reducible refine WP.seq ?_
      | (with_reducible ((first | refine WP.region (hn := []) ?_ | refine xC_intro (d159 _ _ _ _) ?_ | refine WP.cond' ?_); simp -implicitDefEqProofs (maxSteps := 2000000) [hP, hN, h']))
      | (with_reducible ((first | refine WP.draw (hn := []) (by rw [hP]; kernel_rfl) (by kernel_rfl) ?_ | refine yC_intro (d159 _ _ _ _) ?_); simp -implicitDefEqProofs (maxSteps := 2000000) [hP, hN, h']; (try refine ⟨by kernel_rfl, ?_⟩)))
      | (with_reducible refine xB_split (by simp [h']) (fun hgd => ?_) (fun hgd => ?_) <;> first | (exfalso; simp at hgd; done) | (exfalso; simp at hgd; omega) | simp -implicitDefEqProofs (maxSteps := 2000000) [hP, hN, h'])
      | (with_reducible refine yB_split (by simp [h']) (fun hgd => ?_) (fun hgd => ?_) <;> first | (exfalso; simp at hgd; done) | (exfalso; simp at hgd; omega) | (simp -implicitDefEqProofs (maxSteps := 2000000) [hP, hN, h'] <;> (try refine ⟨by kernel_rfl, ?_⟩)))
      | with_reducible refine xTwo_intro ?_ ?_
      | (with_reducible refine xCond_split (fun hcd => ?_) (fun hcd => ?_) <;> (try (exfalso; clear hP hN; simp_all; done)) <;> (try (exfalso; simp at *; omega)))
      | with_reducible refine WP.block ?_
      | (with_reducible ((first | refine WP.skip ?_ | refine WP.exit ?_ | refine WP.ret ?_); simp [h'])))
  | false =>
    have h' : (validB x.1 x.2 && validB y.1 y.2 && decide (max x.1 y.1 ≤ min x.2 y.2)) = false := h
    repeat' (first
      | with_reducible refine WP.seq ?_
      | (with_reducible ((first | refine WP.region (hn := []) ?_ | refine xC_intro (d159 _ _ _ _) ?_ | refine WP.cond' ?_); simp -implicitDefEqProofs (maxSteps := 2000000) [hP, hN, h']))
      | (with_reducible ((first | refine WP.draw (hn := []) (by rw [hP]; kernel_rfl) (by kernel_rfl) ?_ | refine yC_intro (d159 _ _ _ _) ?_); simp -implicitDefEqProofs (maxSteps := 2000000) [hP, hN, h']; (try refine ⟨by kernel_rfl, ?_⟩)))
      | (with_reducible refine xB_split (by simp [h']) (fun hgd => ?_) (fun hgd => ?_) <;> first | (exfalso; simp at hgd; done) | (exfalso; simp at hgd; omega) | simp -implicitDefEqProofs (maxSteps := 2000000) [hP, hN, h'])
      | (with_reducible refine yB_split (by simp [h']) (fun hgd => ?_) (fun hgd => ?_) <;> first | (exfalso; simp at hgd; done) | (exfalso; simp at hgd; omega) | (simp -implicitDefEqProofs (maxSteps := 2000000) [hP, hN, h'] <;> (try refine ⟨by kernel_rfl, ?_⟩)))
      | with_reducible refine xTwo_intro ?_ ?_
      | (with_reducible refine xCond_split (fun hcd => ?_) (fun hcd => ?_) <;> (try (exfalso; clear hP hN; simp_all; done)) <;> (try (exfalso; simp at *; omega)))
      | with_reducible refine WP.block ?_
      | (with_reducible ((first | refine WP.skip ?_ | refine WP.exit ?_ | refine WP.ret ?_); simp [h'])))
theorem d104 (xs ys : List (Int × Int)) (hl : xs.length ≤ 9223372036854775807) : DetH Try.prog 104 [.pv (iv xs), .pv (iv ys)] [] [] (.pv (B (touchC xs ys))) := by
  refine detP_of Try.func104 rfl (by kernel_rfl) (by simp [Try.f104]) rfl ?_
  intro C hP hN
  simp only [Try.f104] at hN ⊢
  repeat' (first
    | with_reducible refine WP.seq ?_
    | (with_reducible ((first | refine WP.region (hn := []) ?_ | refine xC_intro (d157 _ touchI _ _ hl d158) ?_ | refine WP.cond' ?_); simp -implicitDefEqProofs (maxSteps := 2000000) [hP, hN]))
    | (with_reducible ((first | refine WP.draw (hn := []) (by rw [hP]; kernel_rfl) (by kernel_rfl) ?_ | refine yC_intro (d157 _ touchI _ _ hl d158) ?_); simp -implicitDefEqProofs (maxSteps := 2000000) [hP, hN]; (try refine ⟨by kernel_rfl, ?_⟩)))
    | (with_reducible refine xB_split (by simp) (fun hgd => ?_) (fun hgd => ?_) <;> first | (exfalso; simp at hgd; done) | (exfalso; simp at hgd; omega) | simp -implicitDefEqProofs (maxSteps := 2000000) [hP, hN])
    | (with_reducible refine yB_split (by simp) (fun hgd => ?_) (fun hgd => ?_) <;> first | (exfalso; simp at hgd; done) | (exfalso; simp at hgd; omega) | (simp -implicitDefEqProofs (maxSteps := 2000000) [hP, hN] <;> (try refine ⟨by kernel_rfl, ?_⟩)))
    | with_reducible refine xTwo_intro ?_ ?_
    | (with_reducible refine xCond_split (fun hcd => ?_) (fun hcd => ?_) <;> (try (exfalso; clear hP hN; simp_all; done)) <;> (try (exfalso; simp at *; omega)))
    | with_reducible refine WP.block ?_
    | (with_reducible ((first | refine WP.skip ?_ | refine WP.exit ?_ | refine WP.ret ?_); simp)))
  all_goals (first | (simp_all [touchC]; done) | ((try simp_all [touchC]) <;> (try omega) <;> grind))
end Go.Ab
