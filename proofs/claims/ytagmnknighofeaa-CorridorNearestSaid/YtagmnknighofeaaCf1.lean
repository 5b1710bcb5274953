/- Contracts: numbers and intervals. -/
import Derived.Test.YtagmnknighofeaaTy
set_option linter.all false
namespace Go.Ab
open Go.Proofs
abbrev I (lo hi : Int) : PV := .val (.agg #[.int .i64 lo, .int .i64 hi])
abbrev encI (x : Int × Int) : PV := I x.1 x.2
abbrev B (b : Bool) : PV := .val (.bool b)
abbrev Z (n : Int) : PV := .val (.int .i64 n)
abbrev wr (n : Int) : Int := IntKind.i64.wrap n
def validB (lo hi : Int) : Bool := decide (-2147483648 ≤ lo) && decide (lo ≤ hi) && decide (hi ≤ 2147483648)

theorem eqI (a b c d : Int) : runPure Try.prog (Op.equal 46 (.agg #[.int .i64 a, .int .i64 b]) (.agg #[.int .i64 c, .int .i64 d])) = some (a == c && b == d) := by
  have hf : (Try.prog.fieldsOf 46).toList = [(Try.prog.fieldsOf 46)[0]!, (Try.prog.fieldsOf 46)[1]!] := by kernel_rfl
  show runPure Try.prog (Op.equalIn (9999 + 1) 46 _ _) = _
  rw [rp_struct 9999 46 _ _ (by kernel_rfl) (by kernel_rfl), hf]
  have h := rp_cons (P := Try.prog) (d := 9999) (xs := #[.int .i64 a, .int .i64 b]) (ys := #[.int .i64 c, .int .i64 d]) (f := (Try.prog.fieldsOf 46)[0]!) (fs := [(Try.prog.fieldsOf 46)[1]!]) (a := .int .i64 a) (b := .int .i64 c) (by decide +kernel) (by kernel_rfl) (by kernel_rfl) (rp_int 9998 _ .i64 .i64 a c (by kernel_rfl))
    (rp_cons (by decide +kernel) (a := .int .i64 b) (b := .int .i64 d) (by kernel_rfl) (by kernel_rfl) (rp_int 9998 _ .i64 .i64 b d (by kernel_rfl)) rp_nil)
  rw [h]; simp
def evPureX (P : Program) (o : Oper) (ρ : Operand → AV) : Option Eff := evPure P o ρ
def ints2 (x : AV) : Option (Int × Int) := match x with
  | .pv (.val (.agg vs)) => match vs.toList with
    | [.int .i64 a, .int .i64 b] => some (a, b)
    | _ => none
  | _ => none
theorem ints2_some {x : AV} {a b : Int} (h : ints2 x = some (a, b)) : x = .pv (I a b) := by
  unfold ints2 at h
  split at h
  · split at h
    · rename_i vs _ a' b' hv
      injection h with h; injection h with h1 h2; subst h1; subst h2
      rw [← Array.toArray_toList (xs := vs), hv]
    · cases h
  · cases h
def cmp2 (x y : AV) (fb : Option Eff) : Option Eff := match ints2 x, ints2 y with
  | some (a, b), some (c, d) => some (.pv (.val (.bool !(a == c && b == d))), [])
  | _, _ => fb
@[simp] theorem cmp2_some (a b c d : Int) (fb : Option Eff) : cmp2 (.pv (.val (.agg #[.int .i64 a, .int .i64 b]))) (.pv (.val (.agg #[.int .i64 c, .int .i64 d]))) fb = some (.pv (.val (.bool !(a == c && b == d))), []) := rfl
@[simp] theorem neqI {dst : Option Nat} {ty : TypeId} {pos : String} {aft : Array Edge} {g : Option (Nat × Bool)} {ρ : Operand → AV} (x y : Operand) :
    evPure Try.prog ⟨dst, .binOp .neq 46 x y 46, ty, pos, aft, g⟩ ρ = cmp2 (ρ x) (ρ y) (evPureX Try.prog ⟨dst, .binOp .neq 46 x y 46, ty, pos, aft, g⟩ ρ) := by
  unfold cmp2
  split
  · rename_i a b c d hx hy
    exact evPure_neq rfl (ints2_some hx) (ints2_some hy) (by kernel_rfl) (eqI a b c d)
  · rfl
theorem d179 (lo hi : Int) : DetH Try.prog 179 [.pv (I lo hi)] [] [] (.pv (B (validB lo hi))) := by
  refine detP_of Try.func179 rfl (by kernel_rfl) (by simp [Try.f179]) rfl ?_
  intro C hP hN
  simp only [Try.f179] at hN ⊢
  repeat' (first
    | with_reducible refine WP.seq ?_
    | (with_reducible refine WP.region (hn := []) ?_; simp -implicitDefEqProofs [hP, hN])
    | (with_reducible refine WP.draw (hn := []) (by rw [hP]; kernel_rfl) (by kernel_rfl) ?_; simp -implicitDefEqProofs [hP, hN]; (try refine ⟨by kernel_rfl, ?_⟩))
    | (with_reducible refine xB_split (by simp) (fun hgd => ?_) (fun hgd => ?_) <;> first | (exfalso; simp at hgd; done) | (exfalso; simp at hgd; omega) | simp -implicitDefEqProofs [hP, hN])
    | (with_reducible refine yB_split (by simp) (fun hgd => ?_) (fun hgd => ?_) <;> first | (exfalso; simp at hgd; done) | (exfalso; simp at hgd; omega) | (simp -implicitDefEqProofs [hP, hN] <;> (try refine ⟨by kernel_rfl, ?_⟩)))
    | with_reducible refine xTwo_intro ?_ ?_
    | (with_reducible refine WP.cond' ?_; simp -implicitDefEqProofs [hP, hN])
    | (with_reducible refine xCond_split (fun hcd => ?_) (fun hcd => ?_) <;> (try (exfalso; clear hP hN; simp_all; done)) <;> (try (exfalso; simp at *; omega)))
    | with_reducible refine WP.block ?_
    | (with_reducible refine WP.skip ?_; simp)
    | (with_reducible refine WP.exit ?_; simp)
    | (with_reducible refine WP.ret ?_; simp))
  all_goals (first | (simp_all [validB]; done) | ((try simp_all [validB]) <;> (try omega) <;> grind))
theorem d115 (lo hi : Int) : DetH Try.prog 115 [.pv (I lo hi)] [] [] (.pv (B (validB lo hi))) := by
  refine detP_of Try.func115 rfl (by kernel_rfl) (by simp [Try.f115]) rfl ?_
  intro C hP hN
  simp only [Try.f115] at hN ⊢
  repeat' (first
    | with_reducible refine WP.seq ?_
    | (with_reducible refine WP.region (hn := []) ?_; simp -implicitDefEqProofs [hP, hN])
    | (with_reducible refine WP.draw (hn := []) (by rw [hP]; kernel_rfl) (by kernel_rfl) ?_; simp -implicitDefEqProofs [hP, hN]; (try refine ⟨by kernel_rfl, ?_⟩))
    | (with_reducible refine xB_split (by simp) (fun hgd => ?_) (fun hgd => ?_) <;> first | (exfalso; simp at hgd; done) | (exfalso; simp at hgd; omega) | simp -implicitDefEqProofs [hP, hN])
    | (with_reducible refine yB_split (by simp) (fun hgd => ?_) (fun hgd => ?_) <;> first | (exfalso; simp at hgd; done) | (exfalso; simp at hgd; omega) | (simp -implicitDefEqProofs [hP, hN] <;> (try refine ⟨by kernel_rfl, ?_⟩)))
    | with_reducible refine xTwo_intro ?_ ?_
    | (with_reducible refine WP.cond' ?_; simp -implicitDefEqProofs [hP, hN])
    | (with_reducible refine xCond_split (fun hcd => ?_) (fun hcd => ?_) <;> (try (exfalso; clear hP hN; simp_all; done)) <;> (try (exfalso; simp at *; omega)))
    | with_reducible refine WP.block ?_
    | (with_reducible refine WP.skip ?_; simp)
    | (with_reducible refine WP.exit ?_; simp)
    | (with_reducible refine WP.ret ?_; simp))
  all_goals (first | (simp_all [validB]; done) | ((try simp_all [validB]) <;> (try omega) <;> grind))
theorem d183 (a b c d : Int) : DetH Try.prog 183 [.pv (I a b), .pv (I c d)] [] [] (.pv (B (validB a b && validB c d))) := by
  refine detP_of Try.func183 rfl (by kernel_rfl) (by simp [Try.f183]) rfl ?_
  intro C hP hN
  simp only [Try.f183] at hN ⊢
  repeat' (first
    | with_reducible refine WP.seq ?_
    | (with_reducible refine WP.region (hn := []) ?_; simp -implicitDefEqProofs [hP, hN])
    | (with_reducible refine WP.draw (hn := []) (by rw [hP]; kernel_rfl) (by kernel_rfl) ?_; simp -implicitDefEqProofs [hP, hN]; (try refine ⟨by kernel_rfl, ?_⟩))
    | (with_reducible refine xB_split (by simp) (fun hgd => ?_) (fun hgd => ?_) <;> first | (exfalso; simp at hgd; done) | (exfalso; simp at hgd; omega) | simp -implicitDefEqProofs [hP, hN])
    | (with_reducible refine yB_split (by simp) (fun hgd => ?_) (fun hgd => ?_) <;> first | (exfalso; simp at hgd; done) | (exfalso; simp at hgd; omega) | (simp -implicitDefEqProofs [hP, hN] <;> (try refine ⟨by kernel_rfl, ?_⟩)))
    | (with_reducible refine xC_intro (d179 _ _) ?_; simp -implicitDefEqProofs [hP, hN])
    | (with_reducible refine yC_intro (d179 _ _) ?_; simp -implicitDefEqProofs [hP, hN]; (try refine ⟨by kernel_rfl, ?_⟩))
    | with_reducible refine xTwo_intro ?_ ?_
    | (with_reducible refine WP.cond' ?_; simp -implicitDefEqProofs [hP, hN])
    | (with_reducible refine xCond_split (fun hcd => ?_) (fun hcd => ?_) <;> (try (exfalso; clear hP hN; simp_all; done)) <;> (try (exfalso; simp at *; omega)))
    | with_reducible refine WP.block ?_
    | (with_reducible refine WP.skip ?_; simp)
    | (with_reducible refine WP.exit ?_; simp)
    | (with_reducible refine WP.ret ?_; simp))
  all_goals (first | (simp_all; done) | ((try simp_all) <;> (try omega) <;> grind))
theorem d83 (a b c d : Int) : DetH Try.prog 83 [.pv (I a b), .pv (I c d)] [] [] (.pv (B (validB a b && validB c d && decide (c ≤ a) && decide (b ≤ d)))) := by
  refine detP_of Try.func83 rfl (by kernel_rfl) (by simp [Try.f83]) rfl ?_
  intro C hP hN
  simp only [Try.f83] at hN ⊢
  repeat' (first
    | with_reducible refine WP.seq ?_
    | (with_reducible refine WP.region (hn := []) ?_; simp -implicitDefEqProofs [hP, hN])
    | (with_reducible refine WP.draw (hn := []) (by rw [hP]; kernel_rfl) (by kernel_rfl) ?_; simp -implicitDefEqProofs [hP, hN]; (try refine ⟨by kernel_rfl, ?_⟩))
    | (with_reducible refine xB_split (by simp) (fun hgd => ?_) (fun hgd => ?_) <;> first | (exfalso; simp at hgd; done) | (exfalso; simp at hgd; omega) | simp -implicitDefEqProofs [hP, hN])
    | (with_reducible refine yB_split (by simp) (fun hgd => ?_) (fun hgd => ?_) <;> first | (exfalso; simp at hgd; done) | (exfalso; simp at hgd; omega) | (simp -implicitDefEqProofs [hP, hN] <;> (try refine ⟨by kernel_rfl, ?_⟩)))
    | (with_reducible refine xC_intro (d115 _ _) ?_; simp -implicitDefEqProofs [hP, hN])
    | (with_reducible refine yC_intro (d115 _ _) ?_; simp -implicitDefEqProofs [hP, hN]; (try refine ⟨by kernel_rfl, ?_⟩))
    | with_reducible refine xTwo_intro ?_ ?_
    | (with_reducible refine WP.cond' ?_; simp -implicitDefEqProofs [hP, hN])
    | (with_reducible refine xCond_split (fun hcd => ?_) (fun hcd => ?_) <;> (try (exfalso; clear hP hN; simp_all; done)) <;> (try (exfalso; simp at *; omega)))
    | with_reducible refine WP.block ?_
    | (with_reducible refine WP.skip ?_; simp)
    | (with_reducible refine WP.exit ?_; simp)
    | (with_reducible refine WP.ret ?_; simp))
  all_goals (first | (simp_all; done) | ((try simp_all) <;> (try omega) <;> grind))
def roundI (n k : Int) : Int := if n.tmod k < 0 then wr (n.tmod k + k) else n.tmod k
theorem d35 (n k : Int) (hk : k ≠ 0) : DetH Try.prog 35 [.pv (Z n), .pv (Z k)] [] [] (.pv (Z (roundI n k))) := by
  refine detP_of Try.func35 rfl (by kernel_rfl) (by simp [Try.f35]) rfl ?_
  intro C hP hN
  simp only [Try.f35] at hN ⊢
  repeat' (first
    | with_reducible refine WP.seq ?_
    | (with_reducible refine WP.region (hn := []) ?_; simp -implicitDefEqProofs [hP, hN, hk])
    | (with_reducible refine WP.draw (hn := []) (by rw [hP]; kernel_rfl) (by kernel_rfl) ?_; simp -implicitDefEqProofs [hP, hN, hk]; (try refine ⟨by kernel_rfl, ?_⟩))
    | (with_reducible refine xB_split (by simp [hk]) (fun hgd => ?_) (fun hgd => ?_) <;> first | (exfalso; simp at hgd; done) | (exfalso; simp at hgd; omega) | simp -implicitDefEqProofs [hP, hN, hk])
    | (with_reducible refine yB_split (by simp [hk]) (fun hgd => ?_) (fun hgd => ?_) <;> first | (exfalso; simp at hgd; done) | (exfalso; simp at hgd; omega) | (simp -implicitDefEqProofs [hP, hN, hk] <;> (try refine ⟨by kernel_rfl, ?_⟩)))
    | with_reducible refine xTwo_intro ?_ ?_
    | (with_reducible refine WP.cond' ?_; simp -implicitDefEqProofs [hP, hN, hk])
    | (with_reducible refine xCond_split (fun hcd => ?_) (fun hcd => ?_) <;> (try (exfalso; clear hP hN; simp_all; done)) <;> (try (exfalso; simp at *; omega)))
    | with_reducible refine WP.block ?_
    | (with_reducible refine WP.skip ?_; simp [hk])
    | (with_reducible refine WP.exit ?_; simp [hk])
    | (with_reducible refine WP.ret ?_; simp [hk]))
  all_goals (first | (simp_all [roundI]; done) | ((try simp_all [roundI]) <;> (try omega) <;> grind))

@[simp] theorem ite_min (a b : Int) : (if b < a then b else a) = min a b := by split <;> omega
@[simp] theorem ite_max (a b : Int) : (if a < b then b else a) = max a b := by split <;> omega
theorem wr_id {n : Int} (h1 : -9223372036854775808 ≤ n) (h2 : n < 9223372036854775808) : wr n = n := by
  rw [wr, IntKind.wrap_i64]; omega

theorem min64 {k : Int} (hk : k < 64) : min k.toNat 64 = k.toNat := by omega
theorem bits64 : IntKind.i64.bits = 64 := rfl
theorem d182 (a k : Int) (h : 0 ≤ k) (hk : k < 64) : DetH Try.prog 182 [.pv (Z a), .pv (Z k)] [] [] (.pv (Z (a.fdiv (2 ^ k.toNat)))) := by
  refine detP_of Try.func182 rfl (by kernel_rfl) (by simp [Try.f182]) rfl ?_
  intro C hP hN
  simp only [Try.f182] at hN ⊢
  repeat' (first
    | with_reducible refine WP.seq ?_
    | (with_reducible refine WP.region (hn := []) ?_; simp -implicitDefEqProofs [hP, hN, h, bits64, min64 hk])
    | (with_reducible refine WP.draw (hn := []) (by rw [hP]; kernel_rfl) (by kernel_rfl) ?_; simp -implicitDefEqProofs [hP, hN, h, bits64, min64 hk]; (try refine ⟨by kernel_rfl, ?_⟩))
    | (with_reducible refine xB_split (by simp [h, bits64, min64 hk]) (fun hgd => ?_) (fun hgd => ?_) <;> first | (exfalso; simp at hgd; done) | (exfalso; simp at hgd; omega) | simp -implicitDefEqProofs [hP, hN, h, bits64, min64 hk])
    | (with_reducible refine yB_split (by simp [h, bits64, min64 hk]) (fun hgd => ?_) (fun hgd => ?_) <;> first | (exfalso; simp at hgd; done) | (exfalso; simp at hgd; omega) | (simp -implicitDefEqProofs [hP, hN, h, bits64, min64 hk] <;> (try refine ⟨by kernel_rfl, ?_⟩)))
    | with_reducible refine xTwo_intro ?_ ?_
    | (with_reducible refine WP.cond' ?_; simp -implicitDefEqProofs [hP, hN, h, bits64, min64 hk])
    | (with_reducible refine xCond_split (fun hcd => ?_) (fun hcd => ?_) <;> (try (exfalso; clear hP hN; simp_all; done)) <;> (try (exfalso; simp at *; omega)))
    | with_reducible refine WP.block ?_
    | (with_reducible refine WP.skip ?_; simp [h, bits64, min64 hk])
    | (with_reducible refine WP.exit ?_; simp [h, bits64, min64 hk])
    | (with_reducible refine WP.ret ?_; simp [h, bits64, min64 hk]))
  all_goals (first | (simp_all; done) | ((try simp_all) <;> (try omega) <;> grind))
def hullI (x y : Int × Int) : Int × Int := if validB x.1 x.2 && validB y.1 y.2 then (min x.1 y.1, max x.2 y.2) else (0, 0)
theorem d98 (a b c d : Int) : DetH Try.prog 98 [.pv (I a b), .pv (I c d)] [] [] (.pv (encI (hullI (a, b) (c, d)))) := by
  refine detP_of Try.func98 rfl (by kernel_rfl) (by simp [Try.f98]) rfl ?_
  intro C hP hN
  simp only [Try.f98] at hN ⊢
  repeat' (first
    | with_reducible refine WP.seq ?_
    | (with_reducible refine WP.region (hn := []) ?_; simp -implicitDefEqProofs [hP, hN])
    | (with_reducible refine WP.draw (hn := []) (by rw [hP]; kernel_rfl) (by kernel_rfl) ?_; simp -implicitDefEqProofs [hP, hN]; (try refine ⟨by kernel_rfl, ?_⟩))
    | (with_reducible refine xB_split (by simp) (fun hgd => ?_) (fun hgd => ?_) <;> first | (exfalso; simp at hgd; done) | (exfalso; simp at hgd; omega) | simp -implicitDefEqProofs [hP, hN])
    | (with_reducible refine yB_split (by simp) (fun hgd => ?_) (fun hgd => ?_) <;> first | (exfalso; simp at hgd; done) | (exfalso; simp at hgd; omega) | (simp -implicitDefEqProofs [hP, hN] <;> (try refine ⟨by kernel_rfl, ?_⟩)))
    | (with_reducible refine xC_intro (d115 _ _) ?_; simp -implicitDefEqProofs [hP, hN])
    | (with_reducible refine yC_intro (d115 _ _) ?_; simp -implicitDefEqProofs [hP, hN]; (try refine ⟨by kernel_rfl, ?_⟩))
    | with_reducible refine xTwo_intro ?_ ?_
    | (with_reducible refine WP.cond' ?_; simp -implicitDefEqProofs [hP, hN])
    | (with_reducible refine xCond_split (fun hcd => ?_) (fun hcd => ?_) <;> (try (exfalso; clear hP hN; simp_all; done)) <;> (try (exfalso; simp at *; omega)))
    | with_reducible refine WP.block ?_
    | (with_reducible refine WP.skip ?_; simp)
    | (with_reducible refine WP.exit ?_; simp)
    | (with_reducible refine WP.ret ?_; simp))
  all_goals (first | (simp_all [hullI]; done) | ((try simp_all [hullI]) <;> (try omega) <;> grind))
theorem d153 (a b : Int) : DetH Try.prog 153 [.pv (I a b)] [] [] (.pv (Z (if validB a b then wr (b - a) else 0))) := by
  refine detP_of Try.func153 rfl (by kernel_rfl) (by simp [Try.f153]) rfl ?_
  intro C hP hN
  simp only [Try.f153] at hN ⊢
  repeat' (first
    | with_reducible refine WP.seq ?_
    | (with_reducible refine WP.region (hn := []) ?_; simp -implicitDefEqProofs [hP, hN])
    | (with_reducible refine WP.draw (hn := []) (by rw [hP]; kernel_rfl) (by kernel_rfl) ?_; simp -implicitDefEqProofs [hP, hN]; (try refine ⟨by kernel_rfl, ?_⟩))
    | (with_reducible refine xB_split (by simp) (fun hgd => ?_) (fun hgd => ?_) <;> first | (exfalso; simp at hgd; done) | (exfalso; simp at hgd; omega) | simp -implicitDefEqProofs [hP, hN])
    | (with_reducible refine yB_split (by simp) (fun hgd => ?_) (fun hgd => ?_) <;> first | (exfalso; simp at hgd; done) | (exfalso; simp at hgd; omega) | (simp -implicitDefEqProofs [hP, hN] <;> (try refine ⟨by kernel_rfl, ?_⟩)))
    | (with_reducible refine xC_intro (d179 _ _) ?_; simp -implicitDefEqProofs [hP, hN])
    | (with_reducible refine yC_intro (d179 _ _) ?_; simp -implicitDefEqProofs [hP, hN]; (try refine ⟨by kernel_rfl, ?_⟩))
    | with_reducible refine xTwo_intro ?_ ?_
    | (with_reducible refine WP.cond' ?_; simp -implicitDefEqProofs [hP, hN])
    | (with_reducible refine xCond_split (fun hcd => ?_) (fun hcd => ?_) <;> (try (exfalso; clear hP hN; simp_all; done)) <;> (try (exfalso; simp at *; omega)))
    | with_reducible refine WP.block ?_
    | (with_reducible refine WP.skip ?_; simp)
    | (with_reducible refine WP.exit ?_; simp)
    | (with_reducible refine WP.ret ?_; simp))
  all_goals (first | (simp_all; done) | ((try simp_all) <;> (try omega) <;> grind))
theorem d154 (a b : Int) : DetH Try.prog 154 [.pv (I a b)] [] [] (.pv (Z (if validB a b then (wr (a + b)).fdiv 2 else 0))) := by
  refine detP_of Try.func154 rfl (by kernel_rfl) (by simp [Try.f154]) rfl ?_
  intro C hP hN
  simp only [Try.f154] at hN ⊢
  repeat' (first
    | with_reducible refine WP.seq ?_
    | (with_reducible refine WP.region (hn := []) ?_; simp -implicitDefEqProofs [hP, hN])
    | (with_reducible refine WP.draw (hn := []) (by rw [hP]; kernel_rfl) (by kernel_rfl) ?_; simp -implicitDefEqProofs [hP, hN]; (try refine ⟨by kernel_rfl, ?_⟩))
    | (with_reducible refine xB_split (by simp) (fun hgd => ?_) (fun hgd => ?_) <;> first | (exfalso; simp at hgd; done) | (exfalso; simp at hgd; omega) | simp -implicitDefEqProofs [hP, hN])
    | (with_reducible refine yB_split (by simp) (fun hgd => ?_) (fun hgd => ?_) <;> first | (exfalso; simp at hgd; done) | (exfalso; simp at hgd; omega) | (simp -implicitDefEqProofs [hP, hN] <;> (try refine ⟨by kernel_rfl, ?_⟩)))
    | (with_reducible refine xC_intro (d179 _ _) ?_; simp -implicitDefEqProofs [hP, hN])
    | (with_reducible refine yC_intro (d179 _ _) ?_; simp -implicitDefEqProofs [hP, hN]; (try refine ⟨by kernel_rfl, ?_⟩))
    | (with_reducible refine xC_intro (d182 _ _ (by decide) (by decide)) ?_; simp -implicitDefEqProofs [hP, hN])
    | (with_reducible refine yC_intro (d182 _ _ (by decide) (by decide)) ?_; simp -implicitDefEqProofs [hP, hN]; (try refine ⟨by kernel_rfl, ?_⟩))
    | with_reducible refine xTwo_intro ?_ ?_
    | (with_reducible refine WP.cond' ?_; simp -implicitDefEqProofs [hP, hN])
    | (with_reducible refine xCond_split (fun hcd => ?_) (fun hcd => ?_) <;> (try (exfalso; clear hP hN; simp_all; done)) <;> (try (exfalso; simp at *; omega)))
    | with_reducible refine WP.block ?_
    | (with_reducible refine WP.skip ?_; simp)
    | (with_reducible refine WP.exit ?_; simp)
    | (with_reducible refine WP.ret ?_; simp))
  all_goals (first | (simp_all; done) | ((try simp_all) <;> (try omega) <;> grind))
theorem d150 (a b x : Int) : DetH Try.prog 150 [.pv (I a b), .pv (Z x)] [] [] (.pv (B (validB a b && decide (a ≤ x) && decide (x ≤ b)))) := by
  refine detP_of Try.func150 rfl (by kernel_rfl) (by simp [Try.f150]) rfl ?_
  intro C hP hN
  simp only [Try.f150] at hN ⊢
  repeat' (first
    | with_reducible refine WP.seq ?_
    | (with_reducible refine WP.region (hn := []) ?_; simp -implicitDefEqProofs [hP, hN])
    | (with_reducible refine WP.draw (hn := []) (by rw [hP]; kernel_rfl) (by kernel_rfl) ?_; simp -implicitDefEqProofs [hP, hN]; (try refine ⟨by kernel_rfl, ?_⟩))
    | (with_reducible refine xB_split (by simp) (fun hgd => ?_) (fun hgd => ?_) <;> first | (exfalso; simp at hgd; done) | (exfalso; simp at hgd; omega) | simp -implicitDefEqProofs [hP, hN])
    | (with_reducible refine yB_split (by simp) (fun hgd => ?_) (fun hgd => ?_) <;> first | (exfalso; simp at hgd; done) | (exfalso; simp at hgd; omega) | (simp -implicitDefEqProofs [hP, hN] <;> (try refine ⟨by kernel_rfl, ?_⟩)))
    | (with_reducible refine xC_intro (d179 _ _) ?_; simp -implicitDefEqProofs [hP, hN])
    | (with_reducible refine yC_intro (d179 _ _) ?_; simp -implicitDefEqProofs [hP, hN]; (try refine ⟨by kernel_rfl, ?_⟩))
    | with_reducible refine xTwo_intro ?_ ?_
    | (with_reducible refine WP.cond' ?_; simp -implicitDefEqProofs [hP, hN])
    | (with_reducible refine xCond_split (fun hcd => ?_) (fun hcd => ?_) <;> (try (exfalso; clear hP hN; simp_all; done)) <;> (try (exfalso; simp at *; omega)))
    | with_reducible refine WP.block ?_
    | (with_reducible refine WP.skip ?_; simp)
    | (with_reducible refine WP.exit ?_; simp)
    | (with_reducible refine WP.ret ?_; simp))
  all_goals (first | (simp_all; done) | ((try simp_all) <;> (try omega) <;> grind))
theorem d84 (a b x : Int) : DetH Try.prog 84 [.pv (I a b), .pv (Z x)] [] [] (.pv (B (validB a b && decide (a ≤ x) && decide (x ≤ b)))) := by
  refine detP_of Try.func84 rfl (by kernel_rfl) (by simp [Try.f84]) rfl ?_
  intro C hP hN
  simp only [Try.f84] at hN ⊢
  repeat' (first
    | with_reducible refine WP.seq ?_
    | (with_reducible refine WP.region (hn := []) ?_; simp -implicitDefEqProofs [hP, hN])
    | (with_reducible refine WP.draw (hn := []) (by rw [hP]; kernel_rfl) (by kernel_rfl) ?_; simp -implicitDefEqProofs [hP, hN]; (try refine ⟨by kernel_rfl, ?_⟩))
    | (with_reducible refine xB_split (by simp) (fun hgd => ?_) (fun hgd => ?_) <;> first | (exfalso; simp at hgd; done) | (exfalso; simp at hgd; omega) | simp -implicitDefEqProofs [hP, hN])
    | (with_reducible refine yB_split (by simp) (fun hgd => ?_) (fun hgd => ?_) <;> first | (exfalso; simp at hgd; done) | (exfalso; simp at hgd; omega) | (simp -implicitDefEqProofs [hP, hN] <;> (try refine ⟨by kernel_rfl, ?_⟩)))
    | (with_reducible refine xC_intro (d115 _ _) ?_; simp -implicitDefEqProofs [hP, hN])
    | (with_reducible refine yC_intro (d115 _ _) ?_; simp -implicitDefEqProofs [hP, hN]; (try refine ⟨by kernel_rfl, ?_⟩))
    | with_reducible refine xTwo_intro ?_ ?_
    | (with_reducible refine WP.cond' ?_; simp -implicitDefEqProofs [hP, hN])
    | (with_reducible refine xCond_split (fun hcd => ?_) (fun hcd => ?_) <;> (try (exfalso; clear hP hN; simp_all; done)) <;> (try (exfalso; simp at *; omega)))
    | with_reducible refine WP.block ?_
    | (with_reducible refine WP.skip ?_; simp)
    | (with_reducible refine WP.exit ?_; simp)
    | (with_reducible refine WP.ret ?_; simp))
  all_goals (first | (simp_all; done) | ((try simp_all) <;> (try omega) <;> grind))
theorem d159 (a b c d : Int) : DetH Try.prog 159 [.pv (I a b), .pv (I c d)] [] [] (.pv (.tup (if validB a b && validB c d && decide (max a c ≤ min b d) then [I (max a c) (min b d), B true] else [I 0 0, B false]))) := by
  refine detP_of Try.func159 rfl (by kernel_rfl) (by simp [Try.f159]) rfl ?_
  intro C hP hN
  simp only [Try.f159] at hN ⊢
  repeat' (first
    | with_reducible refine WP.seq ?_
    | (with_reducible refine WP.region (hn := []) ?_; simp -implicitDefEqProofs [hP, hN])
    | (with_reducible refine WP.draw (hn := []) (by rw [hP]; kernel_rfl) (by kernel_rfl) ?_; simp -implicitDefEqProofs [hP, hN]; (try refine ⟨by kernel_rfl, ?_⟩))
    | (with_reducible refine xB_split (by simp) (fun hgd => ?_) (fun hgd => ?_) <;> first | (exfalso; simp at hgd; done) | (exfalso; simp at hgd; omega) | simp -implicitDefEqProofs [hP, hN])
    | (with_reducible refine yB_split (by simp) (fun hgd => ?_) (fun hgd => ?_) <;> first | (exfalso; simp at hgd; done) | (exfalso; simp at hgd; omega) | (simp -implicitDefEqProofs [hP, hN] <;> (try refine ⟨by kernel_rfl, ?_⟩)))
    | (with_reducible refine xC_intro (d183 _ _ _ _) ?_; simp -implicitDefEqProofs [hP, hN])
    | (with_reducible refine yC_intro (d183 _ _ _ _) ?_; simp -implicitDefEqProofs [hP, hN]; (try refine ⟨by kernel_rfl, ?_⟩))
    | with_reducible refine xTwo_intro ?_ ?_
    | (with_reducible refine WP.cond' ?_; simp -implicitDefEqProofs [hP, hN])
    | (with_reducible refine xCond_split (fun hcd => ?_) (fun hcd => ?_) <;> (try (exfalso; clear hP hN; simp_all; done)) <;> (try (exfalso; simp at *; omega)))
    | with_reducible refine WP.block ?_
    | (with_reducible refine WP.skip ?_; simp)
    | (with_reducible refine WP.exit ?_; simp)
    | (with_reducible refine WP.ret ?_; simp))
  all_goals (first | (simp_all; done) | ((try simp_all) <;> (try omega) <;> grind))
theorem d127 (a b c d : Int) : DetH Try.prog 127 [.pv (I a b), .pv (I c d)] [] [] (.pv (.tup (if validB a b && validB c d && decide (max a c ≤ min b d) then [I (max a c) (min b d), B true] else [I 0 0, B false]))) := by
  refine detP_of Try.func127 rfl (by kernel_rfl) (by simp [Try.f127]) rfl ?_
  intro C hP hN
  simp only [Try.f127] at hN ⊢
  repeat' (first
    | with_reducible refine WP.seq ?_
    | (with_reducible refine WP.region (hn := []) ?_; simp -implicitDefEqProofs [hP, hN])
    | (with_reducible refine WP.draw (hn := []) (by rw [hP]; kernel_rfl) (by kernel_rfl) ?_; simp -implicitDefEqProofs [hP, hN]; (try refine ⟨by kernel_rfl, ?_⟩))
    | (with_reducible refine xB_split (by simp) (fun hgd => ?_) (fun hgd => ?_) <;> first | (exfalso; simp at hgd; done) | (exfalso; simp at hgd; omega) | simp -implicitDefEqProofs [hP, hN])
    | (with_reducible refine yB_split (by simp) (fun hgd => ?_) (fun hgd => ?_) <;> first | (exfalso; simp at hgd; done) | (exfalso; simp at hgd; omega) | (simp -implicitDefEqProofs [hP, hN] <;> (try refine ⟨by kernel_rfl, ?_⟩)))
    | (with_reducible refine xC_intro (d115 _ _) ?_; simp -implicitDefEqProofs [hP, hN])
    | (with_reducible refine yC_intro (d115 _ _) ?_; simp -implicitDefEqProofs [hP, hN]; (try refine ⟨by kernel_rfl, ?_⟩))
    | with_reducible refine xTwo_intro ?_ ?_
    | (with_reducible refine WP.cond' ?_; simp -implicitDefEqProofs [hP, hN])
    | (with_reducible refine xCond_split (fun hcd => ?_) (fun hcd => ?_) <;> (try (exfalso; clear hP hN; simp_all; done)) <;> (try (exfalso; simp at *; omega)))
    | with_reducible refine WP.block ?_
    | (with_reducible refine WP.skip ?_; simp)
    | (with_reducible refine WP.exit ?_; simp)
    | (with_reducible refine WP.ret ?_; simp))
  all_goals (first | (simp_all; done) | ((try simp_all) <;> (try omega) <;> grind))
end Go.Ab
