/- The example of law31, CutFloods, CutReached: the walks. -/
import Derived.Test.YtagmnknighofeaaCu12
import Derived.Test.YtagmnknighofeaaTrE
set_option linter.all false
namespace Go.Ab
open Go.Proofs
def cmpNB (x y : AV) (fb : Option Eff) : Option Eff := match bool2 x y with
  | some (a, b) => some (.pv (.val (.bool (!(a == b)))), [])
  | none => fb
@[simp] theorem cmpNB_some (a b : Bool) (fb : Option Eff) : cmpNB (.pv (.val (.bool a))) (.pv (.val (.bool b))) fb = some (.pv (.val (.bool (!(a == b)))), []) := rfl
@[simp] theorem neqBool {dst : Option Nat} {ty : TypeId} {pos : String} {aft : Array Edge} {g : Option (Nat × Bool)} {ρ : Operand → AV} (x y : Operand) :
    evPure Try.prog ⟨dst, .binOp .neq 4 x y 4, ty, pos, aft, g⟩ ρ = cmpNB (ρ x) (ρ y) (evPureX Try.prog ⟨dst, .binOp .neq 4 x y 4, ty, pos, aft, g⟩ ρ) := by
  unfold cmpNB
  split
  · rename_i a b h
    unfold bool2 at h
    split at h
    · rename_i a' b' hx hy
      injection h with h; injection h with h1 h2; subst h1; subst h2
      refine evPure_of (by simp [Op.operands, hx, hy, valOf]) ?_
      unfold execOp
      simp only [(valOf_some hx).2, (valOf_some hy).2]
      have h1 : runPure Try.prog (eqGuard .neq 4 x y (.bool a') (.bool b')) = some () := by kernel_rfl
      have h2 : runPure Try.prog (binOp .neq 4 (.bool a') (.bool b')) = some (.bool (!(a' == b'))) := by
        simp only [binOp, runPure_bind]
        rw [show runPure Try.prog (Op.equal 4 (.bool a') (.bool b')) = some (a' == b') from rp_bool 9999 4 a' b' Try.underlying4]
        rfl
      simp only [runPure_bind, h1, h2, Option.bind_some]; rfl
    · cases h
  · rfl
theorem eqMt (a b c d a' b' c' d' : Int) : runPure Try.prog (Op.equal 88 (.agg #[.int .i64 a, .int .i64 b, .int .i64 c, .int .i64 d]) (.agg #[.int .i64 a', .int .i64 b', .int .i64 c', .int .i64 d'])) = some (a == a' && b == b' && c == c' && d == d') := by
  have hf : (Try.prog.fieldsOf 88).toList = [(Try.prog.fieldsOf 88)[0]!, (Try.prog.fieldsOf 88)[1]!, (Try.prog.fieldsOf 88)[2]!, (Try.prog.fieldsOf 88)[3]!] := by kernel_rfl
  show runPure Try.prog (Op.equalIn (9999 + 1) 88 _ _) = _
  rw [rp_struct 9999 88 _ _ (by kernel_rfl) (by kernel_rfl), hf]
  have h := rp_cons (P := Try.prog) (d := 9999) (xs := #[.int .i64 a, .int .i64 b, .int .i64 c, .int .i64 d]) (ys := #[.int .i64 a', .int .i64 b', .int .i64 c', .int .i64 d']) (f := (Try.prog.fieldsOf 88)[0]!) (fs := [(Try.prog.fieldsOf 88)[1]!, (Try.prog.fieldsOf 88)[2]!, (Try.prog.fieldsOf 88)[3]!]) (a := .int .i64 a) (b := .int .i64 a') (by decide +kernel) (by kernel_rfl) (by kernel_rfl) (rp_int 9998 _ .i64 .i64 a a' (by kernel_rfl))
    (rp_cons (by decide +kernel) (a := .int .i64 b) (b := .int .i64 b') (by kernel_rfl) (by kernel_rfl) (rp_int 9998 _ .i64 .i64 b b' (by kernel_rfl))
    (rp_cons (by decide +kernel) (a := .int .i64 c) (b := .int .i64 c') (by kernel_rfl) (by kernel_rfl) (rp_int 9998 _ .i64 .i64 c c' (by kernel_rfl))
    (rp_cons (by decide +kernel) (a := .int .i64 d) (b := .int .i64 d') (by kernel_rfl) (by kernel_rfl) (rp_int 9998 _ .i64 .i64 d d' (by kernel_rfl)) rp_nil)))
  rw [h]; simp [Bool.and_assoc]
def ints4 (x : AV) : Option (Int × Int × Int × Int) := match x with
  | .pv (.val (.agg vs)) => match vs.toList with
    | [.int .i64 a, .int .i64 b, .int .i64 c, .int .i64 d] => some (a, b, c, d)
    | _ => none
  | _ => none
theorem ints4_some {x : AV} {a b c d : Int} (h : ints4 x = some (a, b, c, d)) : x = .pv (.val (.agg #[.int .i64 a, .int .i64 b, .int .i64 c, .int .i64 d])) := by
  unfold ints4 at h
  split at h
  · split at h
    · rename_i vs _ a' b' c' d' hv
      injection h with h; injection h with h1 h2; injection h2 with h2 h3; injection h3 with h3 h4; subst h1; subst h2; subst h3; subst h4
      rw [← Array.toArray_toList (xs := vs), hv]
    · cases h
  · cases h
def cmp4 (x y : AV) (fb : Option Eff) : Option Eff := match ints4 x, ints4 y with
  | some (a, b, c, d), some (a', b', c', d') => some (.pv (.val (.bool (a == a' && b == b' && c == c' && d == d'))), [])
  | _, _ => fb
@[simp] theorem cmp4_some (a b c d a' b' c' d' : Int) (fb : Option Eff) : cmp4 (.pv (.val (.agg #[.int .i64 a, .int .i64 b, .int .i64 c, .int .i64 d]))) (.pv (.val (.agg #[.int .i64 a', .int .i64 b', .int .i64 c', .int .i64 d']))) fb = some (.pv (.val (.bool (a == a' && b == b' && c == c' && d == d'))), []) := rfl
@[simp] theorem eqlMt {dst : Option Nat} {ty : TypeId} {pos : String} {aft : Array Edge} {g : Option (Nat × Bool)} {ρ : Operand → AV} (x y : Operand) :
    evPure Try.prog ⟨dst, .binOp .eql 88 x y 88, ty, pos, aft, g⟩ ρ = cmp4 (ρ x) (ρ y) (evPureX Try.prog ⟨dst, .binOp .eql 88 x y 88, ty, pos, aft, g⟩ ρ) := by
  unfold cmp4
  split
  · rename_i a b c d a' b' c' d' hx hy
    exact evPure_eql rfl (ints4_some hx) (ints4_some hy) (by kernel_rfl) (eqMt a b c d a' b' c' d')
  · rfl
/-! the example -/
def wA : Tr := ⟨[(0, 8)], [leafC zeroV]⟩
def wB : Tr := ⟨[(0, 8)], [⟨0, 1, 2, zeroV⟩, leafC zeroV, leafC zeroV]⟩
def wC : Tr := ⟨[(0, 8)], [⟨0, 1, 2, zeroV⟩, leafC zeroV, ⟨0, 3, 4, zeroV⟩, leafC zeroV, leafC zeroV]⟩
def wD : Tr := ⟨[(0, 8)], [⟨0, 1, 2, zeroV⟩, leafC zeroV, ⟨0, 3, 4, zeroV⟩, leafC (labelV 1), leafC zeroV]⟩
theorem w_new : newT [(0, 8)] = wA ∧ rootOk [(0, 8)] = true := ⟨by kernel_rfl, by decide +kernel⟩
theorem w_B : splitT wA 0 0 = wB ∧ splitOk wA 0 0 = true := ⟨by kernel_rfl, by kernel_rfl⟩
theorem w_C : splitT wB 2 0 = wC ∧ splitOk wB 2 0 = true := ⟨by kernel_rfl, by kernel_rfl⟩
theorem w_D : settleT wC 3 (labelV 1) = wD ∧ settleOk wC 3 (labelV 1) = true := ⟨by kernel_rfl, by kernel_rfl⟩
def wU : List Bool := [false, true, false, false, false]
theorem wU_mk {i : Nat} (h : mk1 wU i) : i = 1 := by
  unfold mk1 wU at h
  match i, h with
  | 0, h => simp at h
  | 1, _ => rfl
  | 2, h => simp at h
  | 3, h => simp at h
  | 4, h => simp at h
  | n + 5, h => simp at h
theorem w_F : IsF wD [1] wU := by
  have hb : ∀ i, i < 5 → (opnT wD i && hasT wD [1] i) = true → i = 1 := by decide +kernel
  have hc : ∀ i, i < 5 → opnT wD i = true → tchT wD 1 i = true → i = 1 := by decide +kernel
  have h1 : mk1 wU 1 := rfl
  have hI : FI 5 (opnT wD) (tchT wD) (strT wD [1]) wU [] := by
    refine ⟨rfl, fun i hi => ?_, fun i hi => ?_, fun i hi => by simp at hi, fun i hi => .inr fun k hk ho ht => ?_⟩
    · rw [hb i hi.1 hi.2]; exact h1
    · rw [wU_mk hi]; exact .base ⟨by decide, by kernel_rfl⟩
    · rw [wU_mk hi] at ht
      rw [hc k hk ho ht]; exact h1
  exact hI.fin
theorem w_look : sepOk wD [1] [7] wU = true ∧ sepOk wD [1] [3] wU = false ∧ sizeC wD.cells = 1 ∧ meetC wD [[1], [7]] = some (0, (1, 2), 3) := ⟨by kernel_rfl, by kernel_rfl, by kernel_rfl, by kernel_rfl⟩
set_option maxHeartbeats 4000000 in
theorem d128 : DetH Try.prog 128 [] [] [] (.pv (encT wD)) := by
  have c1 : DetH Try.prog 72 [.pv (.sl [I 0 8])] [] [] (.pv (.tup [encT wA, B true])) := by
    have := d72 [(0, 8)]
    rw [w_new.1, w_new.2] at this; exact this
  have c2 := d89 wA 0 0 (by decide)
  rw [w_B.1, w_B.2] at c2
  have c3 := d89 wB 2 0 (by decide)
  rw [w_C.1, w_C.2] at c3
  have c4 := d37 1
  have c5 := d90 wC 3 (labelV 1) (by decide)
  rw [w_D.1, w_D.2] at c5
  generalize wD = T4 at *
  generalize wC = T3 at *
  generalize wB = T2 at *
  generalize wA = T1 at *
  generalize labelV 1 = lv at *
  refine detP_of Try.func128 rfl (by kernel_rfl) (by simp [Try.f128]) rfl ?_
  intro C hP hN
  simp only [Try.f128] at hN ⊢
  repeat' (first
    | with_reducible refine WP.seq ?_
    | (with_reducible ((first | refine WP.region (hn := []) ?_ | refine xC_intro (c1) ?_ | refine xC_intro (c2) ?_ | refine xC_intro (c3) ?_ | refine xC_intro (c4) ?_ | refine xC_intro (c5) ?_ | refine WP.cond' ?_); simp -implicitDefEqProofs (maxSteps := 2000000) [hP, hN]))
    | (with_reducible ((first | refine WP.draw (hn := []) (by rw [hP]; kernel_rfl) (by kernel_rfl) ?_ | refine yC_intro (c1) ?_ | refine yC_intro (c2) ?_ | refine yC_intro (c3) ?_ | refine yC_intro (c4) ?_ | refine yC_intro (c5) ?_); simp -implicitDefEqProofs (maxSteps := 2000000) [hP, hN]; (try refine ⟨by kernel_rfl, ?_⟩)))
    | (with_reducible refine xB_split (by simp) (fun hgd => ?_) (fun hgd => ?_) <;> first | (exfalso; simp at hgd; done) | (exfalso; simp at hgd; omega) | simp -implicitDefEqProofs (maxSteps := 2000000) [hP, hN])
    | (with_reducible refine yB_split (by simp) (fun hgd => ?_) (fun hgd => ?_) <;> first | (exfalso; simp at hgd; done) | (exfalso; simp at hgd; omega) | (simp -implicitDefEqProofs (maxSteps := 2000000) [hP, hN] <;> (try refine ⟨by kernel_rfl, ?_⟩)))
    | with_reducible refine xTwo_intro ?_ ?_
    | (with_reducible refine xCond_split (fun hcd => ?_) (fun hcd => ?_) <;> (try (exfalso; clear hP hN; simp_all; done)) <;> (try (exfalso; simp at *; omega)))
    | with_reducible refine WP.block ?_
    | (with_reducible ((first | refine WP.skip ?_ | refine WP.exit ?_ | refine WP.ret ?_); simp)))
set_option maxHeartbeats 4000000 in
theorem d56 : DetH Try.prog 56 [] [] [] (.pv (B true)) := by
  have c0 := d128
  obtain ⟨e1, e2, e3, e4⟩ := w_look
  have c1 : DetH Try.prog 60 [.pv (encT wD), .pv (.sl [.sl [Z 1], .sl [Z 7]])] [] [] (.pv (.tup [.val (.agg #[.int .i64 0, .int .i64 1, .int .i64 2, .int .i64 3]), B true])) := by
    have := d60 wD [[1], [7]] (by decide) (by decide) (by decide)
    rw [e4] at this; exact this
  have c2 : DetH Try.prog 59 [.pv (encT wD), .pv (.sl [Z 1]), .pv (.sl [Z 7])] [] [] (.pv (B true)) := by
    have := d59 wD [1] [7] wU (by decide) (by decide) w_F
    rw [e1] at this; exact this
  have c3 : DetH Try.prog 59 [.pv (encT wD), .pv (.sl [Z 1]), .pv (.sl [Z 3])] [] [] (.pv (B false)) := by
    have := d59 wD [1] [3] wU (by decide) (by decide) w_F
    rw [e2] at this; exact this
  have c4 : DetH Try.prog 69 [.pv (encT wD)] [] [] (.pv (Z 1)) := by
    have := d69 wD (by decide)
    rw [e3] at this; exact this
  generalize wD = T4 at *
  refine detP_of Try.func56 rfl (by kernel_rfl) (by simp [Try.f56]) rfl ?_
  intro C hP hN
  simp only [Try.f56] at hN ⊢
  repeat' (first
    | with_reducible refine WP.seq ?_
    | (with_reducible ((first | refine WP.region (hn := []) ?_ | refine xC_intro (c0) ?_ | refine xC_intro (c1) ?_ | refine xC_intro (c2) ?_ | refine xC_intro (c3) ?_ | refine xC_intro (c4) ?_ | refine WP.cond' ?_); simp -implicitDefEqProofs (maxSteps := 2000000) [hP, hN]))
    | (with_reducible ((first | refine WP.draw (hn := []) (by rw [hP]; kernel_rfl) (by kernel_rfl) ?_ | refine yC_intro (c0) ?_ | refine yC_intro (c1) ?_ | refine yC_intro (c2) ?_ | refine yC_intro (c3) ?_ | refine yC_intro (c4) ?_); simp -implicitDefEqProofs (maxSteps := 2000000) [hP, hN]; (try refine ⟨by kernel_rfl, ?_⟩)))
    | (with_reducible refine xB_split (by simp) (fun hgd => ?_) (fun hgd => ?_) <;> first | (exfalso; simp at hgd; done) | (exfalso; simp at hgd; omega) | simp -implicitDefEqProofs (maxSteps := 2000000) [hP, hN])
    | (with_reducible refine yB_split (by simp) (fun hgd => ?_) (fun hgd => ?_) <;> first | (exfalso; simp at hgd; done) | (exfalso; simp at hgd; omega) | (simp -implicitDefEqProofs (maxSteps := 2000000) [hP, hN] <;> (try refine ⟨by kernel_rfl, ?_⟩)))
    | with_reducible refine xTwo_intro ?_ ?_
    | (with_reducible refine xCond_split (fun hcd => ?_) (fun hcd => ?_) <;> (try (exfalso; clear hP hN; simp_all; done)) <;> (try (exfalso; simp at *; omega)))
    | with_reducible refine WP.block ?_
    | (with_reducible ((first | refine WP.skip ?_ | refine WP.exit ?_ | refine WP.ret ?_); simp)))
end Go.Ab
