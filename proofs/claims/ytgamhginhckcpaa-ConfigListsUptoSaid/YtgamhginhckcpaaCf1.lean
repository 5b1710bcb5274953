/- Contracts: numbers and intervals. -/
import Derived.Test.YtgamhginhckcpaaTy
set_option linter.all false
namespace Go.Ab
open Go.Proofs
abbrev I (lo hi : Int) : PV := .val (.agg #[.int .i64 lo, .int .i64 hi])
abbrev encI (x : Int × Int) : PV := I x.1 x.2
abbrev B (b : Bool) : PV := .val (.bool b)
abbrev Z (n : Int) : PV := .val (.int .i64 n)
abbrev wr (n : Int) : Int := IntKind.i64.wrap n
def validB (lo hi : Int) : Bool := decide (-2147483648 ≤ lo) && decide (lo ≤ hi) && decide (hi ≤ 2147483648)

theorem eqI (a b c d : Int) : runPure Try.prog (Op.equal 37 (.agg #[.int .i64 a, .int .i64 b]) (.agg #[.int .i64 c, .int .i64 d])) = some (a == c && b == d) := by
  have hf : (Try.prog.fieldsOf 37).toList = [(Try.prog.fieldsOf 37)[0]!, (Try.prog.fieldsOf 37)[1]!] := by kernel_rfl
  show runPure Try.prog (Op.equalIn (9999 + 1) 37 _ _) = _
  rw [rp_struct 9999 37 _ _ (by kernel_rfl) (by kernel_rfl), hf]
  have h := rp_cons (P := Try.prog) (d := 9999) (xs := #[.int .i64 a, .int .i64 b]) (ys := #[.int .i64 c, .int .i64 d]) (f := (Try.prog.fieldsOf 37)[0]!) (fs := [(Try.prog.fieldsOf 37)[1]!]) (a := .int .i64 a) (b := .int .i64 c) (by decide +kernel) (by kernel_rfl) (by kernel_rfl) (rp_int 9998 _ .i64 .i64 a c (by kernel_rfl))
    (rp_cons (by decide +kernel) (a := .int .i64 b) (b := .int .i64 d) (by kernel_rfl) (by kernel_rfl) (rp_int 9998 _ .i64 .i64 b d (by kernel_rfl)) rp_nil)
  rw [h]; simp
def evPureX (P : Program) (o : Oper) (ρ : Operand → AV) : Option Eff := evPure P o ρ
def ints2 (x : AV) : Option (Int × Int) := match x with
  | .pv (.val (.agg vs)) => match vs.toList with
    | [.int .i64 a, .int .i64 b] => some (a, b)
    | _ => none
  | _ => none
theorem ints2_some {x : AV} {a b : Int} (h : ints2 x = some (a, b)) : x = .pv (I a b) := by
  unfold ints2 at h
  split at h
  · split at h
    · rename_i vs _ a' b' hv
      injection h with h; injection h with h1 h2; subst h1; subst h2
      rw [← Array.toArray_toList (xs := vs), hv]
    · cases h
  · cases h
def cmp2 (x y : AV) (fb : Option Eff) : Option Eff := match ints2 x, ints2 y with
  | some (a, b), some (c, d) => some (.pv (.val (.bool !(a == c && b == d))), [])
  | _, _ => fb
@[simp] theorem cmp2_some (a b c d : Int) (fb : Option Eff) : cmp2 (.pv (.val (.agg #[.int .i64 a, .int .i64 b]))) (.pv (.val (.agg #[.int .i64 c, .int .i64 d]))) fb = some (.pv (.val (.bool !(a == c && b == d))), []) := rfl
@[simp] theorem neqI {dst : Option Nat} {ty : TypeId} {pos : String} {aft : Array Edge} {g : Option (Nat × Bool)} {ρ : Operand → AV} (x y : Operand) :
    evPure Try.prog ⟨dst, .binOp .neq 37 x y 37, ty, pos, aft, g⟩ ρ = cmp2 (ρ x) (ρ y) (evPureX Try.prog ⟨dst, .binOp .neq 37 x y 37, ty, pos, aft, g⟩ ρ) := by
  unfold cmp2
  split
  · rename_i a b c d hx hy
    exact evPure_neq rfl (ints2_some hx) (ints2_some hy) (by kernel_rfl) (eqI a b c d)
  · rfl
theorem d95 (lo hi : Int) : DetH Try.prog 95 [.pv (I lo hi)] [] [] (.pv (B (validB lo hi))) := by
  refine detP_of Try.func95 rfl (by kernel_rfl) (by simp [Try.f95]) rfl ?_
  intro C hP hN
  simp only [Try.f95] at hN ⊢
  repeat' (first
    | with_reducible refine WP.seq ?_
    | (with_reducible refine WP.region (hn := []) ?_; simp [hP, hN])
    | (with_reducible refine WP.draw (hn := []) (by rw [hP]; kernel_rfl) (by kernel_rfl) ?_; simp [hP, hN]; (try refine ⟨by kernel_rfl, ?_⟩))
    | (with_reducible refine xB_split (by simp) (fun hgd => ?_) (fun hgd => ?_) <;> first | (exfalso; simp at hgd; done) | (exfalso; simp at hgd; omega) | simp [hP, hN])
    | (with_reducible refine yB_split (by simp) (fun hgd => ?_) (fun hgd => ?_) <;> first | (exfalso; simp at hgd; done) | (exfalso; simp at hgd; omega) | (simp [hP, hN] <;> (try refine ⟨by kernel_rfl, ?_⟩)))
    | with_reducible refine xTwo_intro ?_ ?_
    | (with_reducible refine WP.cond' ?_; simp [hP, hN])
    | (with_reducible refine xCond_split (fun hcd => ?_) (fun hcd => ?_) <;> (try (exfalso; clear hP hN; simp_all; done)) <;> (try (exfalso; simp at *; omega)))
    | with_reducible refine WP.block ?_
    | (with_reducible refine WP.skip ?_; simp)
    | (with_reducible refine WP.exit ?_; simp)
    | (with_reducible refine WP.ret ?_; simp))
  all_goals (first | (simp_all [validB]; done) | ((try simp_all [validB]) <;> (try omega) <;> grind))
theorem d87 (lo hi : Int) : DetH Try.prog 87 [.pv (I lo hi)] [] [] (.pv (B (validB lo hi))) := by
  refine detP_of Try.func87 rfl (by kernel_rfl) (by simp [Try.f87]) rfl ?_
  intro C hP hN
  simp only [Try.f87] at hN ⊢
  repeat' (first
    | with_reducible refine WP.seq ?_
    | (with_reducible refine WP.region (hn := []) ?_; simp [hP, hN])
    | (with_reducible refine WP.draw (hn := []) (by rw [hP]; kernel_rfl) (by kernel_rfl) ?_; simp [hP, hN]; (try refine ⟨by kernel_rfl, ?_⟩))
    | (with_reducible refine xB_split (by simp) (fun hgd => ?_) (fun hgd => ?_) <;> first | (exfalso; simp at hgd; done) | (exfalso; simp at hgd; omega) | simp [hP, hN])
    | (with_reducible refine yB_split (by simp) (fun hgd => ?_) (fun hgd => ?_) <;> first | (exfalso; simp at hgd; done) | (exfalso; simp at hgd; omega) | (simp [hP, hN] <;> (try refine ⟨by kernel_rfl, ?_⟩)))
    | with_reducible refine xTwo_intro ?_ ?_
    | (with_reducible refine WP.cond' ?_; simp [hP, hN])
    | (with_reducible refine xCond_split (fun hcd => ?_) (fun hcd => ?_) <;> (try (exfalso; clear hP hN; simp_all; done)) <;> (try (exfalso; simp at *; omega)))
    | with_reducible refine WP.block ?_
    | (with_reducible refine WP.skip ?_; simp)
    | (with_reducible refine WP.exit ?_; simp)
    | (with_reducible refine WP.ret ?_; simp))
  all_goals (first | (simp_all [validB]; done) | ((try simp_all [validB]) <;> (try omega) <;> grind))
theorem d97 (a b c d : Int) : DetH Try.prog 97 [.pv (I a b), .pv (I c d)] [] [] (.pv (B (validB a b && validB c d))) := by
  refine detP_of Try.func97 rfl (by kernel_rfl) (by simp [Try.f97]) rfl ?_
  intro C hP hN
  simp only [Try.f97] at hN ⊢
  repeat' (first
    | with_reducible refine WP.seq ?_
    | (with_reducible refine WP.region (hn := []) ?_; simp [hP, hN])
    | (with_reducible refine WP.draw (hn := []) (by rw [hP]; kernel_rfl) (by kernel_rfl) ?_; simp [hP, hN]; (try refine ⟨by kernel_rfl, ?_⟩))
    | (with_reducible refine xB_split (by simp) (fun hgd => ?_) (fun hgd => ?_) <;> first | (exfalso; simp at hgd; done) | (exfalso; simp at hgd; omega) | simp [hP, hN])
    | (with_reducible refine yB_split (by simp) (fun hgd => ?_) (fun hgd => ?_) <;> first | (exfalso; simp at hgd; done) | (exfalso; simp at hgd; omega) | (simp [hP, hN] <;> (try refine ⟨by kernel_rfl, ?_⟩)))
    | (with_reducible refine xC_intro (d95 _ _) ?_; simp [hP, hN])
    | (with_reducible refine yC_intro (d95 _ _) ?_; simp [hP, hN]; (try refine ⟨by kernel_rfl, ?_⟩))
    | with_reducible refine xTwo_intro ?_ ?_
    | (with_reducible refine WP.cond' ?_; simp [hP, hN])
    | (with_reducible refine xCond_split (fun hcd => ?_) (fun hcd => ?_) <;> (try (exfalso; clear hP hN; simp_all; done)) <;> (try (exfalso; simp at *; omega)))
    | with_reducible refine WP.block ?_
    | (with_reducible refine WP.skip ?_; simp)
    | (with_reducible refine WP.exit ?_; simp)
    | (with_reducible refine WP.ret ?_; simp))
  all_goals (first | (simp_all; done) | ((try simp_all) <;> (try omega) <;> grind))
theorem d70 (a b c d : Int) : DetH Try.prog 70 [.pv (I a b), .pv (I c d)] [] [] (.pv (B (validB a b && validB c d && decide (c ≤ a) && decide (b ≤ d)))) := by
  refine detP_of Try.func70 rfl (by kernel_rfl) (by simp [Try.f70]) rfl ?_
  intro C hP hN
  simp only [Try.f70] at hN ⊢
  repeat' (first
    | with_reducible refine WP.seq ?_
    | (with_reducible refine WP.region (hn := []) ?_; simp [hP, hN])
    | (with_reducible refine WP.draw (hn := []) (by rw [hP]; kernel_rfl) (by kernel_rfl) ?_; simp [hP, hN]; (try refine ⟨by kernel_rfl, ?_⟩))
    | (with_reducible refine xB_split (by simp) (fun hgd => ?_) (fun hgd => ?_) <;> first | (exfalso; simp at hgd; done) | (exfalso; simp at hgd; omega) | simp [hP, hN])
    | (with_reducible refine yB_split (by simp) (fun hgd => ?_) (fun hgd => ?_) <;> first | (exfalso; simp at hgd; done) | (exfalso; simp at hgd; omega) | (simp [hP, hN] <;> (try refine ⟨by kernel_rfl, ?_⟩)))
    | (with_reducible refine xC_intro (d97 _ _ _ _) ?_; simp [hP, hN])
    | (with_reducible refine yC_intro (d97 _ _ _ _) ?_; simp [hP, hN]; (try refine ⟨by kernel_rfl, ?_⟩))
    | with_reducible refine xTwo_intro ?_ ?_
    | (with_reducible refine WP.cond' ?_; simp [hP, hN])
    | (with_reducible refine xCond_split (fun hcd => ?_) (fun hcd => ?_) <;> (try (exfalso; clear hP hN; simp_all; done)) <;> (try (exfalso; simp at *; omega)))
    | with_reducible refine WP.block ?_
    | (with_reducible refine WP.skip ?_; simp)
    | (with_reducible refine WP.exit ?_; simp)
    | (with_reducible refine WP.ret ?_; simp))
  all_goals (first | (simp_all; done) | ((try simp_all) <;> (try omega) <;> grind))
theorem d45 (a b c d : Int) : DetH Try.prog 45 [.pv (I a b), .pv (I c d)] [] [] (.pv (B (validB a b && validB c d && decide (c ≤ a) && decide (b ≤ d)))) := by
  refine detP_of Try.func45 rfl (by kernel_rfl) (by simp [Try.f45]) rfl ?_
  intro C hP hN
  simp only [Try.f45] at hN ⊢
  repeat' (first
    | with_reducible refine WP.seq ?_
    | (with_reducible refine WP.region (hn := []) ?_; simp [hP, hN])
    | (with_reducible refine WP.draw (hn := []) (by rw [hP]; kernel_rfl) (by kernel_rfl) ?_; simp [hP, hN]; (try refine ⟨by kernel_rfl, ?_⟩))
    | (with_reducible refine xB_split (by simp) (fun hgd => ?_) (fun hgd => ?_) <;> first | (exfalso; simp at hgd; done) | (exfalso; simp at hgd; omega) | simp [hP, hN])
    | (with_reducible refine yB_split (by simp) (fun hgd => ?_) (fun hgd => ?_) <;> first | (exfalso; simp at hgd; done) | (exfalso; simp at hgd; omega) | (simp [hP, hN] <;> (try refine ⟨by kernel_rfl, ?_⟩)))
    | (with_reducible refine xC_intro (d87 _ _) ?_; simp [hP, hN])
    | (with_reducible refine yC_intro (d87 _ _) ?_; simp [hP, hN]; (try refine ⟨by kernel_rfl, ?_⟩))
    | with_reducible refine xTwo_intro ?_ ?_
    | (with_reducible refine WP.cond' ?_; simp [hP, hN])
    | (with_reducible refine xCond_split (fun hcd => ?_) (fun hcd => ?_) <;> (try (exfalso; clear hP hN; simp_all; done)) <;> (try (exfalso; simp at *; omega)))
    | with_reducible refine WP.block ?_
    | (with_reducible refine WP.skip ?_; simp)
    | (with_reducible refine WP.exit ?_; simp)
    | (with_reducible refine WP.ret ?_; simp))
  all_goals (first | (simp_all; done) | ((try simp_all) <;> (try omega) <;> grind))
def roundI (n k : Int) : Int := if n.tmod k < 0 then wr (n.tmod k + k) else n.tmod k
theorem d15 (n k : Int) (hk : k ≠ 0) : DetH Try.prog 15 [.pv (Z n), .pv (Z k)] [] [] (.pv (Z (roundI n k))) := by
  refine detP_of Try.func15 rfl (by kernel_rfl) (by simp [Try.f15]) rfl ?_
  intro C hP hN
  simp only [Try.f15] at hN ⊢
  repeat' (first
    | with_reducible refine WP.seq ?_
    | (with_reducible refine WP.region (hn := []) ?_; simp [hP, hN, hk])
    | (with_reducible refine WP.draw (hn := []) (by rw [hP]; kernel_rfl) (by kernel_rfl) ?_; simp [hP, hN, hk]; (try refine ⟨by kernel_rfl, ?_⟩))
    | (with_reducible refine xB_split (by simp [hk]) (fun hgd => ?_) (fun hgd => ?_) <;> first | (exfalso; simp at hgd; done) | (exfalso; simp at hgd; omega) | simp [hP, hN, hk])
    | (with_reducible refine yB_split (by simp [hk]) (fun hgd => ?_) (fun hgd => ?_) <;> first | (exfalso; simp at hgd; done) | (exfalso; simp at hgd; omega) | (simp [hP, hN, hk] <;> (try refine ⟨by kernel_rfl, ?_⟩)))
    | with_reducible refine xTwo_intro ?_ ?_
    | (with_reducible refine WP.cond' ?_; simp [hP, hN, hk])
    | (with_reducible refine xCond_split (fun hcd => ?_) (fun hcd => ?_) <;> (try (exfalso; clear hP hN; simp_all; done)) <;> (try (exfalso; simp at *; omega)))
    | with_reducible refine WP.block ?_
    | (with_reducible refine WP.skip ?_; simp [hk])
    | (with_reducible refine WP.exit ?_; simp [hk])
    | (with_reducible refine WP.ret ?_; simp [hk]))
  all_goals (first | (simp_all [roundI]; done) | ((try simp_all [roundI]) <;> (try omega) <;> grind))

@[simp] theorem ite_min (a b : Int) : (if b < a then b else a) = min a b := by split <;> omega
@[simp] theorem ite_max (a b : Int) : (if a < b then b else a) = max a b := by split <;> omega
theorem wr_id {n : Int} (h1 : -9223372036854775808 ≤ n) (h2 : n < 9223372036854775808) : wr n = n := by
  rw [wr, IntKind.wrap_i64]; omega

theorem min64 {k : Int} (hk : k < 64) : min k.toNat 64 = k.toNat := by omega
theorem bits64 : IntKind.i64.bits = 64 := rfl
theorem d132 (a : Int) : DetH Try.prog 132 [.pv (Z a)] [] [] (.pv (Z (min (max a (-2147483648)) 2147483648))) := by
  refine detP_of Try.func132 rfl (by kernel_rfl) (by simp [Try.f132]) rfl ?_
  intro C hP hN
  simp only [Try.f132] at hN ⊢
  repeat' (first
    | with_reducible refine WP.seq ?_
    | (with_reducible refine WP.region (hn := []) ?_; simp [hP, hN])
    | (with_reducible refine WP.draw (hn := []) (by rw [hP]; kernel_rfl) (by kernel_rfl) ?_; simp [hP, hN]; (try refine ⟨by kernel_rfl, ?_⟩))
    | (with_reducible refine xB_split (by simp) (fun hgd => ?_) (fun hgd => ?_) <;> first | (exfalso; simp at hgd; done) | (exfalso; simp at hgd; omega) | simp [hP, hN])
    | (with_reducible refine yB_split (by simp) (fun hgd => ?_) (fun hgd => ?_) <;> first | (exfalso; simp at hgd; done) | (exfalso; simp at hgd; omega) | (simp [hP, hN] <;> (try refine ⟨by kernel_rfl, ?_⟩)))
    | with_reducible refine xTwo_intro ?_ ?_
    | (with_reducible refine WP.cond' ?_; simp [hP, hN])
    | (with_reducible refine xCond_split (fun hcd => ?_) (fun hcd => ?_) <;> (try (exfalso; clear hP hN; simp_all; done)) <;> (try (exfalso; simp at *; omega)))
    | with_reducible refine WP.block ?_
    | (with_reducible refine WP.skip ?_; simp)
    | (with_reducible refine WP.exit ?_; simp)
    | (with_reducible refine WP.ret ?_; simp))
  all_goals (first | (simp_all; done) | ((try simp_all) <;> (try omega) <;> grind))
theorem d129 (a b : Int) : DetH Try.prog 129 [.pv (Z a), .pv (Z b)] [] [] (.pv (I (min (max a (-2147483648)) 2147483648) (min (max b (-2147483648)) 2147483648))) := by
  refine detP_of Try.func129 rfl (by kernel_rfl) (by simp [Try.f129]) rfl ?_
  intro C hP hN
  simp only [Try.f129] at hN ⊢
  repeat' (first
    | with_reducible refine WP.seq ?_
    | (with_reducible refine WP.region (hn := []) ?_; simp [hP, hN])
    | (with_reducible refine WP.draw (hn := []) (by rw [hP]; kernel_rfl) (by kernel_rfl) ?_; simp [hP, hN]; (try refine ⟨by kernel_rfl, ?_⟩))
    | (with_reducible refine xB_split (by simp) (fun hgd => ?_) (fun hgd => ?_) <;> first | (exfalso; simp at hgd; done) | (exfalso; simp at hgd; omega) | simp [hP, hN])
    | (with_reducible refine yB_split (by simp) (fun hgd => ?_) (fun hgd => ?_) <;> first | (exfalso; simp at hgd; done) | (exfalso; simp at hgd; omega) | (simp [hP, hN] <;> (try refine ⟨by kernel_rfl, ?_⟩)))
    | (with_reducible refine xC_intro (d132 _) ?_; simp [hP, hN])
    | (with_reducible refine yC_intro (d132 _) ?_; simp [hP, hN]; (try refine ⟨by kernel_rfl, ?_⟩))
    | with_reducible refine xTwo_intro ?_ ?_
    | (with_reducible refine WP.cond' ?_; simp [hP, hN])
    | (with_reducible refine xCond_split (fun hcd => ?_) (fun hcd => ?_) <;> (try (exfalso; clear hP hN; simp_all; done)) <;> (try (exfalso; simp at *; omega)))
    | with_reducible refine WP.block ?_
    | (with_reducible refine WP.skip ?_; simp)
    | (with_reducible refine WP.exit ?_; simp)
    | (with_reducible refine WP.ret ?_; simp))
  all_goals (first | (simp_all; done) | ((try simp_all) <;> (try omega) <;> grind))
theorem d117 (a : Int) : DetH Try.prog 117 [.pv (Z a)] [] [] (.pv (I (min (max a (-2147483648)) 2147483648) (min (max a (-2147483648)) 2147483648))) := by
  refine detP_of Try.func117 rfl (by kernel_rfl) (by simp [Try.f117]) rfl ?_
  intro C hP hN
  simp only [Try.f117] at hN ⊢
  repeat' (first
    | with_reducible refine WP.seq ?_
    | (with_reducible refine WP.region (hn := []) ?_; simp [hP, hN])
    | (with_reducible refine WP.draw (hn := []) (by rw [hP]; kernel_rfl) (by kernel_rfl) ?_; simp [hP, hN]; (try refine ⟨by kernel_rfl, ?_⟩))
    | (with_reducible refine xB_split (by simp) (fun hgd => ?_) (fun hgd => ?_) <;> first | (exfalso; simp at hgd; done) | (exfalso; simp at hgd; omega) | simp [hP, hN])
    | (with_reducible refine yB_split (by simp) (fun hgd => ?_) (fun hgd => ?_) <;> first | (exfalso; simp at hgd; done) | (exfalso; simp at hgd; omega) | (simp [hP, hN] <;> (try refine ⟨by kernel_rfl, ?_⟩)))
    | (with_reducible refine xC_intro (d129 _ _) ?_; simp [hP, hN])
    | (with_reducible refine yC_intro (d129 _ _) ?_; simp [hP, hN]; (try refine ⟨by kernel_rfl, ?_⟩))
    | with_reducible refine xTwo_intro ?_ ?_
    | (with_reducible refine WP.cond' ?_; simp [hP, hN])
    | (with_reducible refine xCond_split (fun hcd => ?_) (fun hcd => ?_) <;> (try (exfalso; clear hP hN; simp_all; done)) <;> (try (exfalso; simp at *; omega)))
    | with_reducible refine WP.block ?_
    | (with_reducible refine WP.skip ?_; simp)
    | (with_reducible refine WP.exit ?_; simp)
    | (with_reducible refine WP.ret ?_; simp))
  all_goals (first | (simp_all; done) | ((try simp_all) <;> (try omega) <;> grind))
theorem d96 (a k : Int) (h : 0 ≤ k) (hk : k < 64) : DetH Try.prog 96 [.pv (Z a), .pv (Z k)] [] [] (.pv (Z (a.fdiv (2 ^ k.toNat)))) := by
  refine detP_of Try.func96 rfl (by kernel_rfl) (by simp [Try.f96]) rfl ?_
  intro C hP hN
  simp only [Try.f96] at hN ⊢
  repeat' (first
    | with_reducible refine WP.seq ?_
    | (with_reducible refine WP.region (hn := []) ?_; simp [hP, hN, h, bits64, min64 hk])
    | (with_reducible refine WP.draw (hn := []) (by rw [hP]; kernel_rfl) (by kernel_rfl) ?_; simp [hP, hN, h, bits64, min64 hk]; (try refine ⟨by kernel_rfl, ?_⟩))
    | (with_reducible refine xB_split (by simp [h, bits64, min64 hk]) (fun hgd => ?_) (fun hgd => ?_) <;> first | (exfalso; simp at hgd; done) | (exfalso; simp at hgd; omega) | simp [hP, hN, h, bits64, min64 hk])
    | (with_reducible refine yB_split (by simp [h, bits64, min64 hk]) (fun hgd => ?_) (fun hgd => ?_) <;> first | (exfalso; simp at hgd; done) | (exfalso; simp at hgd; omega) | (simp [hP, hN, h, bits64, min64 hk] <;> (try refine ⟨by kernel_rfl, ?_⟩)))
    | with_reducible refine xTwo_intro ?_ ?_
    | (with_reducible refine WP.cond' ?_; simp [hP, hN, h, bits64, min64 hk])
    | (with_reducible refine xCond_split (fun hcd => ?_) (fun hcd => ?_) <;> (try (exfalso; clear hP hN; simp_all; done)) <;> (try (exfalso; simp at *; omega)))
    | with_reducible refine WP.block ?_
    | (with_reducible refine WP.skip ?_; simp [h, bits64, min64 hk])
    | (with_reducible refine WP.exit ?_; simp [h, bits64, min64 hk])
    | (with_reducible refine WP.ret ?_; simp [h, bits64, min64 hk]))
  all_goals (first | (simp_all; done) | ((try simp_all) <;> (try omega) <;> grind))
theorem d43 (a k : Int) (h : 0 ≤ k) (hk : k < 64) : DetH Try.prog 43 [.pv (Z a), .pv (Z k)] [] [] (.pv (Z (a.fdiv (2 ^ k.toNat)))) := by
  refine detP_of Try.func43 rfl (by kernel_rfl) (by simp [Try.f43]) rfl ?_
  intro C hP hN
  simp only [Try.f43] at hN ⊢
  repeat' (first
    | with_reducible refine WP.seq ?_
    | (with_reducible refine WP.region (hn := []) ?_; simp [hP, hN, h, bits64, min64 hk])
    | (with_reducible refine WP.draw (hn := []) (by rw [hP]; kernel_rfl) (by kernel_rfl) ?_; simp [hP, hN, h, bits64, min64 hk]; (try refine ⟨by kernel_rfl, ?_⟩))
    | (with_reducible refine xB_split (by simp [h, bits64, min64 hk]) (fun hgd => ?_) (fun hgd => ?_) <;> first | (exfalso; simp at hgd; done) | (exfalso; simp at hgd; omega) | simp [hP, hN, h, bits64, min64 hk])
    | (with_reducible refine yB_split (by simp [h, bits64, min64 hk]) (fun hgd => ?_) (fun hgd => ?_) <;> first | (exfalso; simp at hgd; done) | (exfalso; simp at hgd; omega) | (simp [hP, hN, h, bits64, min64 hk] <;> (try refine ⟨by kernel_rfl, ?_⟩)))
    | with_reducible refine xTwo_intro ?_ ?_
    | (with_reducible refine WP.cond' ?_; simp [hP, hN, h, bits64, min64 hk])
    | (with_reducible refine xCond_split (fun hcd => ?_) (fun hcd => ?_) <;> (try (exfalso; clear hP hN; simp_all; done)) <;> (try (exfalso; simp at *; omega)))
    | with_reducible refine WP.block ?_
    | (with_reducible refine WP.skip ?_; simp [h, bits64, min64 hk])
    | (with_reducible refine WP.exit ?_; simp [h, bits64, min64 hk])
    | (with_reducible refine WP.ret ?_; simp [h, bits64, min64 hk]))
  all_goals (first | (simp_all; done) | ((try simp_all) <;> (try omega) <;> grind))
def hullI (x y : Int × Int) : Int × Int := if validB x.1 x.2 && validB y.1 y.2 then (min x.1 y.1, max x.2 y.2) else (0, 0)
theorem d69 (a b c d : Int) : DetH Try.prog 69 [.pv (I a b), .pv (I c d)] [] [] (.pv (encI (hullI (a, b) (c, d)))) := by
  refine detP_of Try.func69 rfl (by kernel_rfl) (by simp [Try.f69]) rfl ?_
  intro C hP hN
  simp only [Try.f69] at hN ⊢
  repeat' (first
    | with_reducible refine WP.seq ?_
    | (with_reducible refine WP.region (hn := []) ?_; simp [hP, hN])
    | (with_reducible refine WP.draw (hn := []) (by rw [hP]; kernel_rfl) (by kernel_rfl) ?_; simp [hP, hN]; (try refine ⟨by kernel_rfl, ?_⟩))
    | (with_reducible refine xB_split (by simp) (fun hgd => ?_) (fun hgd => ?_) <;> first | (exfalso; simp at hgd; done) | (exfalso; simp at hgd; omega) | simp [hP, hN])
    | (with_reducible refine yB_split (by simp) (fun hgd => ?_) (fun hgd => ?_) <;> first | (exfalso; simp at hgd; done) | (exfalso; simp at hgd; omega) | (simp [hP, hN] <;> (try refine ⟨by kernel_rfl, ?_⟩)))
    | (with_reducible refine xC_intro (d97 _ _ _ _) ?_; simp [hP, hN])
    | (with_reducible refine yC_intro (d97 _ _ _ _) ?_; simp [hP, hN]; (try refine ⟨by kernel_rfl, ?_⟩))
    | with_reducible refine xTwo_intro ?_ ?_
    | (with_reducible refine WP.cond' ?_; simp [hP, hN])
    | (with_reducible refine xCond_split (fun hcd => ?_) (fun hcd => ?_) <;> (try (exfalso; clear hP hN; simp_all; done)) <;> (try (exfalso; simp at *; omega)))
    | with_reducible refine WP.block ?_
    | (with_reducible refine WP.skip ?_; simp)
    | (with_reducible refine WP.exit ?_; simp)
    | (with_reducible refine WP.ret ?_; simp))
  all_goals (first | (simp_all [hullI]; done) | ((try simp_all [hullI]) <;> (try omega) <;> grind))
theorem d46 (a b c d : Int) : DetH Try.prog 46 [.pv (I a b), .pv (I c d)] [] [] (.pv (encI (hullI (a, b) (c, d)))) := by
  refine detP_of Try.func46 rfl (by kernel_rfl) (by simp [Try.f46]) rfl ?_
  intro C hP hN
  simp only [Try.f46] at hN ⊢
  repeat' (first
    | with_reducible refine WP.seq ?_
    | (with_reducible refine WP.region (hn := []) ?_; simp [hP, hN])
    | (with_reducible refine WP.draw (hn := []) (by rw [hP]; kernel_rfl) (by kernel_rfl) ?_; simp [hP, hN]; (try refine ⟨by kernel_rfl, ?_⟩))
    | (with_reducible refine xB_split (by simp) (fun hgd => ?_) (fun hgd => ?_) <;> first | (exfalso; simp at hgd; done) | (exfalso; simp at hgd; omega) | simp [hP, hN])
    | (with_reducible refine yB_split (by simp) (fun hgd => ?_) (fun hgd => ?_) <;> first | (exfalso; simp at hgd; done) | (exfalso; simp at hgd; omega) | (simp [hP, hN] <;> (try refine ⟨by kernel_rfl, ?_⟩)))
    | (with_reducible refine xC_intro (d87 _ _) ?_; simp [hP, hN])
    | (with_reducible refine yC_intro (d87 _ _) ?_; simp [hP, hN]; (try refine ⟨by kernel_rfl, ?_⟩))
    | with_reducible refine xTwo_intro ?_ ?_
    | (with_reducible refine WP.cond' ?_; simp [hP, hN])
    | (with_reducible refine xCond_split (fun hcd => ?_) (fun hcd => ?_) <;> (try (exfalso; clear hP hN; simp_all; done)) <;> (try (exfalso; simp at *; omega)))
    | with_reducible refine WP.block ?_
    | (with_reducible refine WP.skip ?_; simp)
    | (with_reducible refine WP.exit ?_; simp)
    | (with_reducible refine WP.ret ?_; simp))
  all_goals (first | (simp_all [hullI]; done) | ((try simp_all [hullI]) <;> (try omega) <;> grind))
theorem d66 (a b : Int) : DetH Try.prog 66 [.pv (I a b)] [] [] (.pv (Z (if validB a b then wr (b - a) else 0))) := by
  refine detP_of Try.func66 rfl (by kernel_rfl) (by simp [Try.f66]) rfl ?_
  intro C hP hN
  simp only [Try.f66] at hN ⊢
  repeat' (first
    | with_reducible refine WP.seq ?_
    | (with_reducible refine WP.region (hn := []) ?_; simp [hP, hN])
    | (with_reducible refine WP.draw (hn := []) (by rw [hP]; kernel_rfl) (by kernel_rfl) ?_; simp [hP, hN]; (try refine ⟨by kernel_rfl, ?_⟩))
    | (with_reducible refine xB_split (by simp) (fun hgd => ?_) (fun hgd => ?_) <;> first | (exfalso; simp at hgd; done) | (exfalso; simp at hgd; omega) | simp [hP, hN])
    | (with_reducible refine yB_split (by simp) (fun hgd => ?_) (fun hgd => ?_) <;> first | (exfalso; simp at hgd; done) | (exfalso; simp at hgd; omega) | (simp [hP, hN] <;> (try refine ⟨by kernel_rfl, ?_⟩)))
    | (with_reducible refine xC_intro (d95 _ _) ?_; simp [hP, hN])
    | (with_reducible refine yC_intro (d95 _ _) ?_; simp [hP, hN]; (try refine ⟨by kernel_rfl, ?_⟩))
    | with_reducible refine xTwo_intro ?_ ?_
    | (with_reducible refine WP.cond' ?_; simp [hP, hN])
    | (with_reducible refine xCond_split (fun hcd => ?_) (fun hcd => ?_) <;> (try (exfalso; clear hP hN; simp_all; done)) <;> (try (exfalso; simp at *; omega)))
    | with_reducible refine WP.block ?_
    | (with_reducible refine WP.skip ?_; simp)
    | (with_reducible refine WP.exit ?_; simp)
    | (with_reducible refine WP.ret ?_; simp))
  all_goals (first | (simp_all; done) | ((try simp_all) <;> (try omega) <;> grind))
theorem d60 (a b : Int) : DetH Try.prog 60 [.pv (I a b)] [] [] (.pv (Z (if validB a b then (wr (a + b)).fdiv 2 else 0))) := by
  refine detP_of Try.func60 rfl (by kernel_rfl) (by simp [Try.f60]) rfl ?_
  intro C hP hN
  simp only [Try.f60] at hN ⊢
  repeat' (first
    | with_reducible refine WP.seq ?_
    | (with_reducible refine WP.region (hn := []) ?_; simp [hP, hN])
    | (with_reducible refine WP.draw (hn := []) (by rw [hP]; kernel_rfl) (by kernel_rfl) ?_; simp [hP, hN]; (try refine ⟨by kernel_rfl, ?_⟩))
    | (with_reducible refine xB_split (by simp) (fun hgd => ?_) (fun hgd => ?_) <;> first | (exfalso; simp at hgd; done) | (exfalso; simp at hgd; omega) | simp [hP, hN])
    | (with_reducible refine yB_split (by simp) (fun hgd => ?_) (fun hgd => ?_) <;> first | (exfalso; simp at hgd; done) | (exfalso; simp at hgd; omega) | (simp [hP, hN] <;> (try refine ⟨by kernel_rfl, ?_⟩)))
    | (with_reducible refine xC_intro (d95 _ _) ?_; simp [hP, hN])
    | (with_reducible refine yC_intro (d95 _ _) ?_; simp [hP, hN]; (try refine ⟨by kernel_rfl, ?_⟩))
    | (with_reducible refine xC_intro (d96 _ _ (by decide) (by decide)) ?_; simp [hP, hN])
    | (with_reducible refine yC_intro (d96 _ _ (by decide) (by decide)) ?_; simp [hP, hN]; (try refine ⟨by kernel_rfl, ?_⟩))
    | with_reducible refine xTwo_intro ?_ ?_
    | (with_reducible refine WP.cond' ?_; simp [hP, hN])
    | (with_reducible refine xCond_split (fun hcd => ?_) (fun hcd => ?_) <;> (try (exfalso; clear hP hN; simp_all; done)) <;> (try (exfalso; simp at *; omega)))
    | with_reducible refine WP.block ?_
    | (with_reducible refine WP.skip ?_; simp)
    | (with_reducible refine WP.exit ?_; simp)
    | (with_reducible refine WP.ret ?_; simp))
  all_goals (first | (simp_all; done) | ((try simp_all) <;> (try omega) <;> grind))
theorem d62 (a b x : Int) : DetH Try.prog 62 [.pv (I a b), .pv (Z x)] [] [] (.pv (B (validB a b && decide (a ≤ x) && decide (x ≤ b)))) := by
  refine detP_of Try.func62 rfl (by kernel_rfl) (by simp [Try.f62]) rfl ?_
  intro C hP hN
  simp only [Try.f62] at hN ⊢
  repeat' (first
    | with_reducible refine WP.seq ?_
    | (with_reducible refine WP.region (hn := []) ?_; simp [hP, hN])
    | (with_reducible refine WP.draw (hn := []) (by rw [hP]; kernel_rfl) (by kernel_rfl) ?_; simp [hP, hN]; (try refine ⟨by kernel_rfl, ?_⟩))
    | (with_reducible refine xB_split (by simp) (fun hgd => ?_) (fun hgd => ?_) <;> first | (exfalso; simp at hgd; done) | (exfalso; simp at hgd; omega) | simp [hP, hN])
    | (with_reducible refine yB_split (by simp) (fun hgd => ?_) (fun hgd => ?_) <;> first | (exfalso; simp at hgd; done) | (exfalso; simp at hgd; omega) | (simp [hP, hN] <;> (try refine ⟨by kernel_rfl, ?_⟩)))
    | (with_reducible refine xC_intro (d95 _ _) ?_; simp [hP, hN])
    | (with_reducible refine yC_intro (d95 _ _) ?_; simp [hP, hN]; (try refine ⟨by kernel_rfl, ?_⟩))
    | with_reducible refine xTwo_intro ?_ ?_
    | (with_reducible refine WP.cond' ?_; simp [hP, hN])
    | (with_reducible refine xCond_split (fun hcd => ?_) (fun hcd => ?_) <;> (try (exfalso; clear hP hN; simp_all; done)) <;> (try (exfalso; simp at *; omega)))
    | with_reducible refine WP.block ?_
    | (with_reducible refine WP.skip ?_; simp)
    | (with_reducible refine WP.exit ?_; simp)
    | (with_reducible refine WP.ret ?_; simp))
  all_goals (first | (simp_all; done) | ((try simp_all) <;> (try omega) <;> grind))
theorem d55 (a b x : Int) : DetH Try.prog 55 [.pv (I a b), .pv (Z x)] [] [] (.pv (B (validB a b && decide (a ≤ x) && decide (x ≤ b)))) := by
  refine detP_of Try.func55 rfl (by kernel_rfl) (by simp [Try.f55]) rfl ?_
  intro C hP hN
  simp only [Try.f55] at hN ⊢
  repeat' (first
    | with_reducible refine WP.seq ?_
    | (with_reducible refine WP.region (hn := []) ?_; simp [hP, hN])
    | (with_reducible refine WP.draw (hn := []) (by rw [hP]; kernel_rfl) (by kernel_rfl) ?_; simp [hP, hN]; (try refine ⟨by kernel_rfl, ?_⟩))
    | (with_reducible refine xB_split (by simp) (fun hgd => ?_) (fun hgd => ?_) <;> first | (exfalso; simp at hgd; done) | (exfalso; simp at hgd; omega) | simp [hP, hN])
    | (with_reducible refine yB_split (by simp) (fun hgd => ?_) (fun hgd => ?_) <;> first | (exfalso; simp at hgd; done) | (exfalso; simp at hgd; omega) | (simp [hP, hN] <;> (try refine ⟨by kernel_rfl, ?_⟩)))
    | (with_reducible refine xC_intro (d87 _ _) ?_; simp [hP, hN])
    | (with_reducible refine yC_intro (d87 _ _) ?_; simp [hP, hN]; (try refine ⟨by kernel_rfl, ?_⟩))
    | with_reducible refine xTwo_intro ?_ ?_
    | (with_reducible refine WP.cond' ?_; simp [hP, hN])
    | (with_reducible refine xCond_split (fun hcd => ?_) (fun hcd => ?_) <;> (try (exfalso; clear hP hN; simp_all; done)) <;> (try (exfalso; simp at *; omega)))
    | with_reducible refine WP.block ?_
    | (with_reducible refine WP.skip ?_; simp)
    | (with_reducible refine WP.exit ?_; simp)
    | (with_reducible refine WP.ret ?_; simp))
  all_goals (first | (simp_all; done) | ((try simp_all) <;> (try omega) <;> grind))
theorem d65 (a b c d : Int) : DetH Try.prog 65 [.pv (I a b), .pv (I c d)] [] [] (.pv (.tup (if validB a b && validB c d && decide (max a c ≤ min b d) then [I (max a c) (min b d), B true] else [I 0 0, B false]))) := by
  refine detP_of Try.func65 rfl (by kernel_rfl) (by simp [Try.f65]) rfl ?_
  intro C hP hN
  simp only [Try.f65] at hN ⊢
  repeat' (first
    | with_reducible refine WP.seq ?_
    | (with_reducible refine WP.region (hn := []) ?_; simp [hP, hN])
    | (with_reducible refine WP.draw (hn := []) (by rw [hP]; kernel_rfl) (by kernel_rfl) ?_; simp [hP, hN]; (try refine ⟨by kernel_rfl, ?_⟩))
    | (with_reducible refine xB_split (by simp) (fun hgd => ?_) (fun hgd => ?_) <;> first | (exfalso; simp at hgd; done) | (exfalso; simp at hgd; omega) | simp [hP, hN])
    | (with_reducible refine yB_split (by simp) (fun hgd => ?_) (fun hgd => ?_) <;> first | (exfalso; simp at hgd; done) | (exfalso; simp at hgd; omega) | (simp [hP, hN] <;> (try refine ⟨by kernel_rfl, ?_⟩)))
    | (with_reducible refine xC_intro (d97 _ _ _ _) ?_; simp [hP, hN])
    | (with_reducible refine yC_intro (d97 _ _ _ _) ?_; simp [hP, hN]; (try refine ⟨by kernel_rfl, ?_⟩))
    | with_reducible refine xTwo_intro ?_ ?_
    | (with_reducible refine WP.cond' ?_; simp [hP, hN])
    | (with_reducible refine xCond_split (fun hcd => ?_) (fun hcd => ?_) <;> (try (exfalso; clear hP hN; simp_all; done)) <;> (try (exfalso; simp at *; omega)))
    | with_reducible refine WP.block ?_
    | (with_reducible refine WP.skip ?_; simp)
    | (with_reducible refine WP.exit ?_; simp)
    | (with_reducible refine WP.ret ?_; simp))
  all_goals (first | (simp_all; done) | ((try simp_all) <;> (try omega) <;> grind))
theorem d108 (a b c d : Int) : DetH Try.prog 108 [.pv (I a b), .pv (I c d)] [] [] (.pv (.tup (if validB a b && validB c d && decide (max a c ≤ min b d) then [I (max a c) (min b d), B true] else [I 0 0, B false]))) := by
  refine detP_of Try.func108 rfl (by kernel_rfl) (by simp [Try.f108]) rfl ?_
  intro C hP hN
  simp only [Try.f108] at hN ⊢
  repeat' (first
    | with_reducible refine WP.seq ?_
    | (with_reducible refine WP.region (hn := []) ?_; simp [hP, hN])
    | (with_reducible refine WP.draw (hn := []) (by rw [hP]; kernel_rfl) (by kernel_rfl) ?_; simp [hP, hN]; (try refine ⟨by kernel_rfl, ?_⟩))
    | (with_reducible refine xB_split (by simp) (fun hgd => ?_) (fun hgd => ?_) <;> first | (exfalso; simp at hgd; done) | (exfalso; simp at hgd; omega) | simp [hP, hN])
    | (with_reducible refine yB_split (by simp) (fun hgd => ?_) (fun hgd => ?_) <;> first | (exfalso; simp at hgd; done) | (exfalso; simp at hgd; omega) | (simp [hP, hN] <;> (try refine ⟨by kernel_rfl, ?_⟩)))
    | (with_reducible refine xC_intro (d87 _ _) ?_; simp [hP, hN])
    | (with_reducible refine yC_intro (d87 _ _) ?_; simp [hP, hN]; (try refine ⟨by kernel_rfl, ?_⟩))
    | with_reducible refine xTwo_intro ?_ ?_
    | (with_reducible refine WP.cond' ?_; simp [hP, hN])
    | (with_reducible refine xCond_split (fun hcd => ?_) (fun hcd => ?_) <;> (try (exfalso; clear hP hN; simp_all; done)) <;> (try (exfalso; simp at *; omega)))
    | with_reducible refine WP.block ?_
    | (with_reducible refine WP.skip ?_; simp)
    | (with_reducible refine WP.exit ?_; simp)
    | (with_reducible refine WP.ret ?_; simp))
  all_goals (first | (simp_all; done) | ((try simp_all) <;> (try omega) <;> grind))
end Go.Ab
