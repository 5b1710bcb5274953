/- The example of law31, CutFloods, CutReached: the walks. -/
import Derived.Test.YtagmnknighofeaaCu12
import Derived.Test.YtagmnknighofeaaTrE
set_option linter.all false
namespace Go.Ab
open Go.Proofs
def cmpNB (x y : AV) (fb : Option Eff) : Option Eff := match bool2 x y with
  | some (a, b) => some (.pv (.val (.bool (!(a == b)))), [])
  | none => fb
@[simp] theorem cmpNB_some (a b : Bool) (fb : Option Eff) : cmpNB (.pv (.val (.bool a))) (.pv (.val (.bool b))) fb = some (.pv (.val (.bool (!(a == b)))), []) := rfl
@[simp] theorem neqBool {dst : Option Nat} {ty : TypeId} {pos : String} {aft : Array Edge} {g : Option (Nat × Bool)} {ρ : Operand → AV} (x y : Operand) :
    evPure Try.prog ⟨dst, .binOp .neq 4 x y 4, ty, pos, aft, g⟩ ρ = cmpNB (ρ x) (ρ y) (evPureX Try.prog ⟨dst, .binOp .neq 4 x y 4, ty, pos, aft, g⟩ ρ) := by
  unfold cmpNB
  split
  · rename_i a b h
    unfold bool2 at h
    split at h
    · rename_i a' b' hx hy
      injection h with h; injection h with h1 h2; subst h1; subst h2
      refine evPure_of (by simp [Op.operands, hx, hy, valOf]) ?_
      unfold execOp
      simp only [(valOf_some hx).2, (valOf_some hy).2]
      have h1 : runPure Try.prog (eqGuard .neq 4 x y (.bool a') (.bool b')) = some () := by kernel_rfl
      have h2 : runPure Try.prog (binOp .neq 4 (.bool a') (.bool b')) = some (.bool (!(a' == b'))) := by
        simp only [binOp, runPure_bind]
        rw [show runPure Try.prog (Op.equal 4 (.bool a') (.bool b')) = some (a' == b') from rp_bool 9999 4 a' b' Try.underlying4]
        rfl
      simp only [runPure_bind, h1, h2, Option.bind_some]; rfl
    · cases h
  · rfl
theorem eqMt (a b c d a' b' c' d' : Int) : runPure Try.prog (Op.equal 88 (.agg #[.int .i64 a, .int .i64 b, .int .i64 c, .int .i64 d]) (.agg #[.int .i64 a', .int .i64 b', .int .i64 c', .int .i64 d'])) = some (a == a' && b == b' && c == c' && d == d') := by
  have hf : (Try.prog.fieldsOf 88).toList = [(Try.prog.fieldsOf 88)[0]!, (Try.prog.fieldsOf 88)[1]!, (Try.prog.fieldsOf 88)[2]!, (Try.prog.fieldsOf 88)[3]!] := by kernel_rfl
  show runPure Try.prog (Op.equalIn (9999 + 1) 88 _ _) = _
  rw [rp_struct 9999 88 _ _ (by kernel_rfl) (by kernel_rfl), hf]
  have h := rp_cons (P := Try.prog) (d := 9999) (xs := #[.int .i64 a, .int .i64 b, .int .i64 c, .int .i64 d]) (ys := #[.int .i64 a', .int .i64 b', .int .i64 c', .int .i64 d']) (f := (Try.prog.fieldsOf 88)[0]!) (fs := [(Try.prog.fieldsOf 88)[1]!, (Try.prog.fieldsOf 88)[2]!, (Try.prog.fieldsOf 88)[3]!]) (a := .int .i64 a) (b := .int .i64 a') (by decide +kernel) (by kernel_rfl) (by kernel_rfl) (rp_int 9998 _ .i64 .i64 a a' (by kernel_rfl))
    (rp_cons (by decide +kernel) (a := .int .i64 b) (b := .int .i64 b') (by kernel_rfl) (by kernel_rfl) (rp_int 9998 _ .i64 .i64 b b' (by kernel_rfl))
    (rp_cons (by decide +kernel) (a := .int .i64 c) (b := .int .i64 c') (by kernel_rfl) (by kernel_rfl) (rp_int 9998 _ .i64 .i64 c c' (by kernel_rfl))
    (rp_cons (by decide +kernel) (a := .int .i64 d) (b := .int .i64 d') (by kernel_rfl) (by kernel_rfl) (rp_int 9998 _ .i64 .i64 d d' (by kernel_rfl)) rp_nil)))
  rw [h]; simp [Bool.and_assoc]
def ints4 (x : AV) : Option (Int × Int × Int × Int) := match x with
  | .pv (.val (.agg vs)) => match vs.toList with
    | [.int .i64 a, .int .i64 b, .int .i64 c, .int .i64 d] => some (a, b, c, d)
    | _ => none
  | _ => none
theorem ints4_some {x : AV} {a b c d : Int} (h : ints4 x = some (a, b, c, d)) : x = .pv (.val (.agg #[.int .i64 a, .int .i64 b, .int .i64 c, .int .i64 d])) := by
  unfold ints4 at h
  split at h
  · split at h
    · rename_i vs _ a' b' c' d' hv
      injection h with h; injection h with h1 h2; injection h2 with h2 h3; injection h3 with h3 h4; subst h1; subst h2; subst h3; subst h4
      rw [← Array.toArray_toList (xs := vs), hv]
    · cases h
  · cases h
def cmp4 (x y : AV) (fb : Option Eff) : Option Eff := match ints4 x, ints4 y with
  | some (a, b, c, d), some (a', b', c', d') => some (.pv (.val (.bool (a == a' && b == b' && c == c' && d == d'))), [])
  | _, _ => fb
@[simp] theorem cmp4_some (a b c d a' b' c' d' : Int) (fb : Option Eff) : cmp4 (.pv (.val (.agg #[.int .i64 a, .int .i64 b, .int .i64 c, .int .i64 d]))) (.pv (.val (.agg #[.int .i64 a', .int .i64 b', .int .i64 c', .int .i64 d']))) fb = some (.pv (.val (.bool (a == a' && b == b' && c == c' && d == d'))), []) := rfl
@[simp] theorem eqlMt {dst : Option Nat} {ty : TypeId} {pos : String} {aft : Array Edge} {g : Option (Nat × Bool)} {ρ : Operand → AV} (x y : Operand) :
    evPure Try.prog ⟨dst, .binOp .eql 88 x y 88, ty, pos, aft, g⟩ ρ = cmp4 (ρ x) (ρ y) (evPureX Try.prog ⟨dst, .binOp .eql 88 x y 88, ty, pos, aft, g⟩ ρ) := by
  unfold cmp4
  split
  · rename_i a b c d a' b' c' d' hx hy
    exact evPure_eql rfl (ints4_some hx) (ints4_some hy) (by kernel_rfl) (eqMt a b c d a' b' c' d')
  · rfl
/-! the example -/
def wA : Tr := ⟨[(0, 8)], [leafC zeroV]⟩
def wB : Tr := ⟨[(0, 8)], [⟨0, 1, 2, zeroV⟩, leafC zeroV, leafC zeroV]⟩
def wC : Tr := ⟨[(0, 8)], [⟨0, 1, 2, zeroV⟩, leafC zeroV, ⟨0, 3, 4, zeroV⟩, leafC zeroV, leafC zeroV]⟩
def wD : Tr := ⟨[(0, 8)], [⟨0, 1, 2, zeroV⟩, leafC zeroV, ⟨0, 3, 4, zeroV⟩, leafC (labelV 1), leafC zeroV]⟩
theorem w_new : newT [(0, 8)] = wA ∧ rootOk [(0, 8)] = true := ⟨by kernel_rfl, by decide +kernel⟩
theorem w_B : splitT wA 0 0 = wB ∧ splitOk wA 0 0 = true := ⟨by kernel_rfl, by kernel_rfl⟩
theorem w_C : splitT wB 2 0 = wC ∧ splitOk wB 2 0 = true := ⟨by kernel_rfl, by kernel_rfl⟩
theorem w_D : settleT wC 3 (labelV 1) = wD ∧ settleOk wC 3 (labelV 1) = true := ⟨by kernel_rfl, by kernel_rfl⟩
def wU : List Bool := [false, true, false, false, false]
theorem wU_mk {i : Nat} (h : mk1 wU i) : i = 1 := by
  unfold mk1 wU at h
  match i, h with
  | 0, h => simp at h
  | 1, _ => rfl
  | 2, h => simp at h
  | 3, h => simp at h
  | 4, h => simp at h
  | n + 5, h => simp at h
theorem w_F : IsF wD [1] wU := by
  have hb : ∀ i, i < 5 → (opnT wD i && hasT wD [1] i) = true → i = 1 := by decide +kernel
  have hc : ∀ i, i < 5 → opnT wD i = true → tchT wD 1 i = true → i = 1 := by decide +kernel
  have h1 : mk1 wU 1 := rfl
  have hI : FI 5 (opnT wD) (tchT wD) (strT wD [1]) wU [] := by
    refine ⟨rfl, fun i hi => ?_, fun i hi => ?_, fun i hi => by simp at hi, fun i hi => .inr fun k hk ho ht => ?_⟩
    · rw [hb i hi.1 hi.2]; exact h1
    · rw [wU_mk hi]; exact .base ⟨by decide, by kernel_rfl⟩
    · rw [wU_mk hi] at ht
      rw [hc k hk ho ht]; exact h1
  exact hI.fin
theorem w_look : sepOk wD [1] [7] wU = true ∧ sepOk wD [1] [3] wU = false ∧ sizeC wD.cells = 1 ∧ meetC wD [[1], [7]] = some (0, (1, 2), 3) := ⟨by kernel_rfl, by kernel_rfl, by kernel_rfl, by kernel_rfl⟩
set_option maxHeartbeats 4000000 in
theorem d128 : DetH Try.prog 128 [] [] [] (.pv (encT wD)) := by
  have c1 : DetH Try.prog 72 [.pv (.sl [I 0 8])] [] [] (.pv (.tup [encT wA, B true])) := by
    have := d72 [(0, 8)]
    rw [w_new.1, w_new.2] at this; exact this
  have c2 := d89 wA 0 0 (by decide)
  rw [w_B.1, w_B.2] at c2
  have c3 := d89 wB 2 0 (by decide)
  rw [w_C.1, w_C.2] at c3
  have c4 := d37 1
  have c5 := d90 wC 3 (labelV 1) (by decide)
  rw [w_D.1, w_D.2] at c5
  generalize wD = T4 at *
  generalize wC = T3 at *
  generalize wB = T2 at *
  generalize wA = T1 at *
  generalize labelV 1 = lv at *
  refine detP_of Try.func128 rfl (by kernel_rfl) (by simp [Try.f128]) rfl ?_
  intro C hP hN
  simp only [Try.f128] at hN ⊢
  repeat' (first
    | with_reducible refine WP.seq ?_
    | (with_reducible ((first | refine WP.region (hn := []) ?_ | refine xC_intro (c1) ?_ | refine xC_intro (c2) ?_ | refine xC_intro (c3) ?_ | refine xC_intro (c4) ?_ | refine xC_intro (c5) ?_ | refine WP.cond' ?_); simp -implicitDefEqProofs (maxSteps := 2000000) [hP, hN]))
    | (with_reducible ((first | refine WP.draw (hn := []) (by rw [hP]; kernel_rfl) (by kernel_rfl) ?_ | refine yC_intro (c1) ?_ | refine yC_intro (c2) ?_ | refine yC_intro (c3) ?_ | refine yC_intro (c4) ?_ | refine yC_intro (c5) ?_); simp -implicitDefEqProofs (maxSteps := 2000000) [hP, hN]; (try refine ⟨by kernel_rfl, ?_⟩)))
    | (with_reducible refine xB_split (by simp) (fun hgd => ?_) (fun hgd => ?_) <;> first | (exfalso; simp at hgd; done) | (exfalso; simp at hgd; omega) | simp -implicitDefEqProofs (maxSteps := 2000000) [hP, hN])
    | (with_reducible refine yB_split (by simp) (fun hgd => ?_) (fun hgd => ?_) <;> first | (exfalso; simp at hgd; done) | (exfalso; simp at hgd; omega) | (simp -implicitDefEqProofs (maxSteps := 2000000) [hP, hN] <;> (try refine ⟨by kernel_rfl, ?_⟩)))
    | with_reducible refine xTwo_intro ?_ ?_
    | (with_reducible refine xCond_split (fun hcd => ?_) (fun hcd => ?_) <;> (try (exfalso; clear hP hN; simp_all; done)) <;> (try (exfalso; simp at *; omega)))
    | with_reducible refine WP.block ?_
    | (with_reducible ((first | refine WP.skip ?_ | refine WP.exit ?_ | refine WP.ret ?_); simp)))
set_option maxHeartbeats 4000000 in
theorem d56 : DetH Try.prog 56 [] [] [] (.pv (B true)) := by
  have c0 := d128
  obtain ⟨e1, e2, e3, e4⟩ := w_look
  have c1 : DetH Try.prog 60 [.pv (encT wD), .pv (.sl [.sl [Z 1], .sl [Z 7]])] [] [] (.pv (.tup [.val (.agg #[.int .i64 0, .int .i64 1, .int .i64 2, .int .i64 3]), B true])) := by
    have := d60 wD [[1], [7]] (by decide) (by decide) (by decide)
    rw [e4] at this; exact this
  have c2 : DetH Try.prog 59 [.pv (encT wD), .pv (.sl [Z 1]), .pv (.sl [Z 7])] [] [] (.pv (B true)) := by
    have := d59 wD [1] [7] wU (by decide) (by decide) w_F
    rw [e1] at this; exact this
  have c3 : DetH Try.prog 59 [.pv (encT wD), .pv (.sl [Z 1]), .pv (.sl [Z 3])] [] [] (.pv (B false)) := by
    have := d59 wD [1] [3] wU (by decide) (by decide) w_F
    rw [e2] at this; exact this
  have c4 : DetH Try.prog 69 [.pv (encT wD)] [] [] (.pv (Z 1)) := by
    have := d69 wD (by decide)
    rw [e3] at this; exact this
  generalize wD = T4 at *
  refine detP_of Try.func56 rfl (by kernel_rfl) (by simp [Try.f56]) rfl ?_
  intro C hP hN
  simp only [Try.f56] at hN ⊢
  repeat' (first
    | with_reducible refine WP.seq ?_
    | (with_reducible ((first | refine WP.region (hn := []) ?_ | refine xC_intro (c0) ?_ | refine xC_intro (c1) ?_ | refine xC_intro (c2) ?_ | refine xC_intro (c3) ?_ | refine xC_intro (c4) ?_ | refine WP.cond' ?_); simp -implicitDefEqProofs (maxSteps := 2000000) [hP, hN]))
    | (with_reducible ((first | refine WP.draw (hn := []) (by rw [hP]; kernel_rfl) (by kernel_rfl) ?_ | refine yC_intro (c0) ?_ | refine yC_intro (c1) ?_ | refine yC_intro (c2) ?_ | refine yC_intro (c3) ?_ | refine yC_intro (c4) ?_); simp -implicitDefEqProofs (maxSteps := 2000000) [hP, hN]; (try refine ⟨by kernel_rfl, ?_⟩)))
    | (with_reducible refine xB_split (by simp) (fun hgd => ?_) (fun hgd => ?_) <;> first | (exfalso; simp at hgd; done) | (exfalso; simp at hgd; omega) | simp -implicitDefEqProofs (maxSteps := 2000000) [hP, hN])
    | (with_reducible refine yB_split (by simp) (fun hgd => ?_) (fun hgd => ?_) <;> first | (exfalso; simp at hgd; done) | (exfalso; simp at hgd; omega) | (simp -implicitDefEqProofs (maxSteps := 2000000) [hP, hN] <;> (try refine ⟨by kernel_rfl, ?_⟩)))
    | with_reducible refine xTwo_intro ?_ ?_
    | (with_reducible refine xCond_split (fun hcd => ?_) (fun hcd => ?_) <;> (try (exfalso; clear hP hN; simp_all; done)) <;> (try (exfalso; simp at *; omega)))
    | with_reducible refine WP.block ?_
    | (with_reducible ((first | refine WP.skip ?_ | refine WP.exit ?_ | refine WP.ret ?_); simp)))
set_option maxHeartbeats 2000000 in
theorem sameBools (xs : List Bool) (hl : xs.length ≤ 9223372036854775807) : DetH Try.prog 138 [.pv (.sl (xs.map B)), .pv (.sl (xs.map B))] [] [] (.pv (B true)) := by
  refine detP_of Try.func138 rfl (by kernel_rfl) (by simp [Try.f138]) rfl ?_
  intro C hP hN
  simp only [Try.f138] at hN ⊢
  repeat' (first
    | with_reducible refine WP.seq ?_
    | (with_reducible ((first | refine WP.region (hn := []) ?_ | refine WP.cond' ?_); simp -implicitDefEqProofs (maxSteps := 2000000) [hP, hN]))
    | (with_reducible ((first | refine WP.draw (hn := []) (by rw [hP]; kernel_rfl) (by kernel_rfl) ?_); simp -implicitDefEqProofs (maxSteps := 2000000) [hP, hN]; (try refine ⟨by kernel_rfl, ?_⟩)))
    | (with_reducible refine xB_split (by simp) (fun hgd => ?_) (fun hgd => ?_) <;> first | (exfalso; simp at hgd; done) | (exfalso; simp at hgd; omega) | simp -implicitDefEqProofs (maxSteps := 2000000) [hP, hN])
    | (with_reducible refine yB_split (by simp) (fun hgd => ?_) (fun hgd => ?_) <;> first | (exfalso; simp at hgd; done) | (exfalso; simp at hgd; omega) | (simp -implicitDefEqProofs (maxSteps := 2000000) [hP, hN] <;> (try refine ⟨by kernel_rfl, ?_⟩)))
    | with_reducible refine xTwo_intro ?_ ?_
    | (with_reducible refine xCond_split (fun hcd => ?_) (fun hcd => ?_) <;> (try (exfalso; clear hP hN; simp_all; done)) <;> (try (exfalso; simp at *; omega)))
    | with_reducible refine WP.block ?_
    | (with_reducible ((first | refine WP.skip ?_ | refine WP.exit ?_ | refine WP.ret ?_); simp)))
  refine WP.loopN [] xs.length (fun i st => st.t 0 = .pv (.sl (xs.map B)) ∧ st.t 1 = .pv (.sl (xs.map B)) ∧ st.t 5 = .pv (Z i)) (by simp) ?_
  rintro i st hi ⟨h0, h1, h2⟩
  by_cases hlt : i < xs.length
  · have hw := wr_succ hlt hl
    repeat' (first
      | with_reducible refine WP.seq ?_
      | (with_reducible ((first | refine WP.region (hn := []) ?_ | refine WP.cond' ?_); simp -implicitDefEqProofs (maxSteps := 2000000) [hP, hN, h0, h1, h2, hlt, hw]))
      | (with_reducible ((first | refine WP.draw (hn := []) (by rw [hP]; kernel_rfl) (by kernel_rfl) ?_); simp -implicitDefEqProofs (maxSteps := 2000000) [hP, hN, h0, h1, h2, hlt, hw]; (try refine ⟨by kernel_rfl, ?_⟩)))
      | (with_reducible refine xB_split (by simp [h0, h1, h2, hlt, hw]) (fun hgd => ?_) (fun hgd => ?_) <;> first | (exfalso; simp at hgd; done) | (exfalso; simp at hgd; omega) | simp -implicitDefEqProofs (maxSteps := 2000000) [hP, hN, h0, h1, h2, hlt, hw])
      | (with_reducible refine yB_split (by simp [h0, h1, h2, hlt, hw]) (fun hgd => ?_) (fun hgd => ?_) <;> first | (exfalso; simp at hgd; done) | (exfalso; simp at hgd; omega) | (simp -implicitDefEqProofs (maxSteps := 2000000) [hP, hN, h0, h1, h2, hlt, hw] <;> (try refine ⟨by kernel_rfl, ?_⟩)))
      | with_reducible refine xTwo_intro ?_ ?_
      | (with_reducible refine xCond_split (fun hcd => ?_) (fun hcd => ?_) <;> (try (exfalso; clear hP hN; simp_all; done)) <;> (try (exfalso; simp at *; omega)))
      | with_reducible refine WP.block ?_
      | (with_reducible ((first | refine WP.skip ?_ | refine WP.exit ?_ | refine WP.ret ?_); simp [h0, h1, h2, hlt, hw])))
  · skip
    repeat' (first
      | with_reducible refine WP.seq ?_
      | (with_reducible ((first | refine WP.region (hn := []) ?_ | refine WP.cond' ?_); simp -implicitDefEqProofs (maxSteps := 2000000) [hP, hN, h0, h1, h2, hlt]))
      | (with_reducible ((first | refine WP.draw (hn := []) (by rw [hP]; kernel_rfl) (by kernel_rfl) ?_); simp -implicitDefEqProofs (maxSteps := 2000000) [hP, hN, h0, h1, h2, hlt]; (try refine ⟨by kernel_rfl, ?_⟩)))
      | (with_reducible refine xB_split (by simp [h0, h1, h2, hlt]) (fun hgd => ?_) (fun hgd => ?_) <;> first | (exfalso; simp at hgd; done) | (exfalso; simp at hgd; omega) | simp -implicitDefEqProofs (maxSteps := 2000000) [hP, hN, h0, h1, h2, hlt])
      | (with_reducible refine yB_split (by simp [h0, h1, h2, hlt]) (fun hgd => ?_) (fun hgd => ?_) <;> first | (exfalso; simp at hgd; done) | (exfalso; simp at hgd; omega) | (simp -implicitDefEqProofs (maxSteps := 2000000) [hP, hN, h0, h1, h2, hlt] <;> (try refine ⟨by kernel_rfl, ?_⟩)))
      | with_reducible refine xTwo_intro ?_ ?_
      | (with_reducible refine xCond_split (fun hcd => ?_) (fun hcd => ?_) <;> (try (exfalso; clear hP hN; simp_all; done)) <;> (try (exfalso; simp at *; omega)))
      | with_reducible refine WP.block ?_
      | (with_reducible ((first | refine WP.skip ?_ | refine WP.exit ?_ | refine WP.ret ?_); simp [h0, h1, h2, hlt])))
set_option maxHeartbeats 2000000 in
theorem d63 (t : Tr) (p q : List Int) (hl : t.cells.length ≤ 9223372036854775807) (hr : t.root.length ≤ 9223372036854775807) (hp : p.length ≤ 9223372036854775807) (hq : q.length ≤ 9223372036854775807) : DetH Try.prog 63 [.pv (encT t), .pv (zs p), .pv (zs q)] [] [] (.pv (B true)) := by
  obtain ⟨V, hV⟩ := isF_ex t p
  have c1 := d64 t p V hl hr hV
  have c2 := d139 t p V hl hr hp hV
  have hfl : (fldL t p V).length ≤ 9223372036854775807 := by
    unfold fldL; split
    · rw [hV.len]; exact hl
    · simp
  have c3 := sameBools (fldL t p V) hfl
  have c4 := d59 t p q V hl hr hV
  have c5 := d67 t p q V hl hr hp hq hV
  generalize fldL t p V = W at *
  generalize sepOk t p q V = sp at *
  refine detP_of Try.func63 rfl (by kernel_rfl) (by simp [Try.f63]) rfl ?_
  intro C hP hN
  simp only [Try.f63] at hN ⊢
  repeat' (first
    | with_reducible refine WP.seq ?_
    | (with_reducible ((first | refine WP.region (hn := []) ?_ | refine xC_intro (c1) ?_ | refine xC_intro (c2) ?_ | refine xC_intro (c3) ?_ | refine xC_intro (c4) ?_ | refine xC_intro (c5) ?_ | refine WP.cond' ?_); simp -implicitDefEqProofs (maxSteps := 2000000) [hP, hN]))
    | (with_reducible ((first | refine WP.draw (hn := []) (by rw [hP]; kernel_rfl) (by kernel_rfl) ?_ | refine yC_intro (c1) ?_ | refine yC_intro (c2) ?_ | refine yC_intro (c3) ?_ | refine yC_intro (c4) ?_ | refine yC_intro (c5) ?_); simp -implicitDefEqProofs (maxSteps := 2000000) [hP, hN]; (try refine ⟨by kernel_rfl, ?_⟩)))
    | (with_reducible refine xB_split (by simp) (fun hgd => ?_) (fun hgd => ?_) <;> first | (exfalso; simp at hgd; done) | (exfalso; simp at hgd; omega) | simp -implicitDefEqProofs (maxSteps := 2000000) [hP, hN])
    | (with_reducible refine yB_split (by simp) (fun hgd => ?_) (fun hgd => ?_) <;> first | (exfalso; simp at hgd; done) | (exfalso; simp at hgd; omega) | (simp -implicitDefEqProofs (maxSteps := 2000000) [hP, hN] <;> (try refine ⟨by kernel_rfl, ?_⟩)))
    | with_reducible refine xTwo_intro ?_ ?_
    | (with_reducible refine xCond_split (fun hcd => ?_) (fun hcd => ?_) <;> (try (exfalso; clear hP hN; simp_all; done)) <;> (try (exfalso; simp at *; omega)))
    | with_reducible refine WP.block ?_
    | (with_reducible ((first | refine WP.skip ?_ | refine WP.exit ?_ | refine WP.ret ?_); simp)))
theorem d19 (t : Tr) : DetH Try.prog 19 [.pv (encT t)] [] [] (.pv (B (decide (t.root.length ≤ 12) && decide (t.cells.length ≤ 60)))) := by
  have e1 : decide ((t.root.length : Int) ≤ 12) = decide (t.root.length ≤ 12) := by simp; omega
  have e2 : decide ((t.cells.length : Int) ≤ 60) = decide (t.cells.length ≤ 60) := by simp; omega
  rw [← e1, ← e2]
  by_cases h1 : (t.root.length : Int) ≤ 12
  · skip
    refine detP_of Try.func19 rfl (by kernel_rfl) (by simp [Try.f19]) rfl ?_
    intro C hP hN
    simp only [Try.f19] at hN ⊢
    repeat' (first
      | with_reducible refine WP.seq ?_
      | (with_reducible ((first | refine WP.region (hn := []) ?_ | refine WP.cond' ?_); simp -implicitDefEqProofs (maxSteps := 2000000) [hP, hN, h1]))
      | (with_reducible ((first | refine WP.draw (hn := []) (by rw [hP]; kernel_rfl) (by kernel_rfl) ?_); simp -implicitDefEqProofs (maxSteps := 2000000) [hP, hN, h1]; (try refine ⟨by kernel_rfl, ?_⟩)))
      | (with_reducible refine xB_split (by simp [h1]) (fun hgd => ?_) (fun hgd => ?_) <;> first | (exfalso; simp at hgd; done) | (exfalso; simp at hgd; omega) | simp -implicitDefEqProofs (maxSteps := 2000000) [hP, hN, h1])
      | (with_reducible refine yB_split (by simp [h1]) (fun hgd => ?_) (fun hgd => ?_) <;> first | (exfalso; simp at hgd; done) | (exfalso; simp at hgd; omega) | (simp -implicitDefEqProofs (maxSteps := 2000000) [hP, hN, h1] <;> (try refine ⟨by kernel_rfl, ?_⟩)))
      | with_reducible refine xTwo_intro ?_ ?_
      | (with_reducible refine xCond_split (fun hcd => ?_) (fun hcd => ?_) <;> (try (exfalso; clear hP hN; simp_all; done)) <;> (try (exfalso; simp at *; omega)))
      | with_reducible refine WP.block ?_
      | (with_reducible ((first | refine WP.skip ?_ | refine WP.exit ?_ | refine WP.ret ?_); simp [h1])))
  · skip
    refine detP_of Try.func19 rfl (by kernel_rfl) (by simp [Try.f19]) rfl ?_
    intro C hP hN
    simp only [Try.f19] at hN ⊢
    repeat' (first
      | with_reducible refine WP.seq ?_
      | (with_reducible ((first | refine WP.region (hn := []) ?_ | refine WP.cond' ?_); simp -implicitDefEqProofs (maxSteps := 2000000) [hP, hN, h1]))
      | (with_reducible ((first | refine WP.draw (hn := []) (by rw [hP]; kernel_rfl) (by kernel_rfl) ?_); simp -implicitDefEqProofs (maxSteps := 2000000) [hP, hN, h1]; (try refine ⟨by kernel_rfl, ?_⟩)))
      | (with_reducible refine xB_split (by simp [h1]) (fun hgd => ?_) (fun hgd => ?_) <;> first | (exfalso; simp at hgd; done) | (exfalso; simp at hgd; omega) | simp -implicitDefEqProofs (maxSteps := 2000000) [hP, hN, h1])
      | (with_reducible refine yB_split (by simp [h1]) (fun hgd => ?_) (fun hgd => ?_) <;> first | (exfalso; simp at hgd; done) | (exfalso; simp at hgd; omega) | (simp -implicitDefEqProofs (maxSteps := 2000000) [hP, hN, h1] <;> (try refine ⟨by kernel_rfl, ?_⟩)))
      | with_reducible refine xTwo_intro ?_ ?_
      | (with_reducible refine xCond_split (fun hcd => ?_) (fun hcd => ?_) <;> (try (exfalso; clear hP hN; simp_all; done)) <;> (try (exfalso; simp at *; omega)))
      | with_reducible refine WP.block ?_
      | (with_reducible ((first | refine WP.skip ?_ | refine WP.exit ?_ | refine WP.ret ?_); simp [h1])))
set_option maxRecDepth 10000 in
set_option maxHeartbeats 4000000 in
theorem d16 (u : Tr) (p q l m o : List Int) (hp : p.length ≤ 9223372036854775807) (hq : q.length ≤ 9223372036854775807) : DetH Try.prog 16 [.pv (encT u), .pv (zs p), .pv (zs q), .pv (zs l), .pv (zs m), .pv (zs o)] [] [] (.pv (B true)) := by
  have cs := d19 u
  have ca := d56
  cases hs : (decide (u.root.length ≤ 12) && decide (u.cells.length ≤ 60)) with
  | false =>
    rw [hs] at cs
    refine detP_of Try.func16 rfl (by kernel_rfl) (by simp [Try.f16]) rfl ?_
    intro C hP hN
    simp only [Try.f16] at hN ⊢
    repeat' (first
      | with_reducible refine WP.seq ?_
      | (with_reducible ((first | refine WP.region (hn := []) ?_ | refine xC_intro (cs) ?_ | refine xC_intro (ca) ?_ | refine WP.cond' ?_); simp -implicitDefEqProofs (maxSteps := 2000000) [hP, hN]))
      | (with_reducible ((first | refine WP.draw (hn := []) (by rw [hP]; kernel_rfl) (by kernel_rfl) ?_ | refine yC_intro (cs) ?_ | refine yC_intro (ca) ?_); simp -implicitDefEqProofs (maxSteps := 2000000) [hP, hN]; (try refine ⟨by kernel_rfl, ?_⟩)))
      | (with_reducible refine xB_split (by simp) (fun hgd => ?_) (fun hgd => ?_) <;> first | (exfalso; simp at hgd; done) | (exfalso; simp at hgd; omega) | simp -implicitDefEqProofs (maxSteps := 2000000) [hP, hN])
      | (with_reducible refine yB_split (by simp) (fun hgd => ?_) (fun hgd => ?_) <;> first | (exfalso; simp at hgd; done) | (exfalso; simp at hgd; omega) | (simp -implicitDefEqProofs (maxSteps := 2000000) [hP, hN] <;> (try refine ⟨by kernel_rfl, ?_⟩)))
      | with_reducible refine xTwo_intro ?_ ?_
      | (with_reducible refine xCond_split (fun hcd => ?_) (fun hcd => ?_) <;> (try (exfalso; clear hP hN; simp_all; done)) <;> (try (exfalso; simp at *; omega)))
      | with_reducible refine WP.block ?_
      | (with_reducible ((first | refine WP.skip ?_ | refine WP.exit ?_ | refine WP.ret ?_); simp)))
  | true =>
  rw [hs] at cs
  simp only [Bool.and_eq_true, decide_eq_true_eq] at hs
  by_cases h1 : 20 < p.length
  · have h1' : (20 : Int) < p.length := by omega
    refine detP_of Try.func16 rfl (by kernel_rfl) (by simp [Try.f16]) rfl ?_
    intro C hP hN
    simp only [Try.f16] at hN ⊢
    repeat' (first
      | with_reducible refine WP.seq ?_
      | (with_reducible ((first | refine WP.region (hn := []) ?_ | refine xC_intro (cs) ?_ | refine xC_intro (ca) ?_ | refine WP.cond' ?_); simp -implicitDefEqProofs (maxSteps := 2000000) [hP, hN, h1, h1']))
      | (with_reducible ((first | refine WP.draw (hn := []) (by rw [hP]; kernel_rfl) (by kernel_rfl) ?_ | refine yC_intro (cs) ?_ | refine yC_intro (ca) ?_); simp -implicitDefEqProofs (maxSteps := 2000000) [hP, hN, h1, h1']; (try refine ⟨by kernel_rfl, ?_⟩)))
      | (with_reducible refine xB_split (by simp [h1, h1']) (fun hgd => ?_) (fun hgd => ?_) <;> first | (exfalso; simp at hgd; done) | (exfalso; simp at hgd; omega) | simp -implicitDefEqProofs (maxSteps := 2000000) [hP, hN, h1, h1'])
      | (with_reducible refine yB_split (by simp [h1, h1']) (fun hgd => ?_) (fun hgd => ?_) <;> first | (exfalso; simp at hgd; done) | (exfalso; simp at hgd; omega) | (simp -implicitDefEqProofs (maxSteps := 2000000) [hP, hN, h1, h1'] <;> (try refine ⟨by kernel_rfl, ?_⟩)))
      | with_reducible refine xTwo_intro ?_ ?_
      | (with_reducible refine xCond_split (fun hcd => ?_) (fun hcd => ?_) <;> (try (exfalso; clear hP hN; simp_all; done)) <;> (try (exfalso; simp at *; omega)))
      | with_reducible refine WP.block ?_
      | (with_reducible ((first | refine WP.skip ?_ | refine WP.exit ?_ | refine WP.ret ?_); simp [h1, h1'])))
  have h1' : ¬ (20 : Int) < p.length := by omega
  by_cases h2 : 20 < q.length
  · have h2' : (20 : Int) < q.length := by omega
    refine detP_of Try.func16 rfl (by kernel_rfl) (by simp [Try.f16]) rfl ?_
    intro C hP hN
    simp only [Try.f16] at hN ⊢
    repeat' (first
      | with_reducible refine WP.seq ?_
      | (with_reducible ((first | refine WP.region (hn := []) ?_ | refine xC_intro (cs) ?_ | refine xC_intro (ca) ?_ | refine WP.cond' ?_); simp -implicitDefEqProofs (maxSteps := 2000000) [hP, hN, h1, h1', h2, h2']))
      | (with_reducible ((first | refine WP.draw (hn := []) (by rw [hP]; kernel_rfl) (by kernel_rfl) ?_ | refine yC_intro (cs) ?_ | refine yC_intro (ca) ?_); simp -implicitDefEqProofs (maxSteps := 2000000) [hP, hN, h1, h1', h2, h2']; (try refine ⟨by kernel_rfl, ?_⟩)))
      | (with_reducible refine xB_split (by simp [h1, h1', h2, h2']) (fun hgd => ?_) (fun hgd => ?_) <;> first | (exfalso; simp at hgd; done) | (exfalso; simp at hgd; omega) | simp -implicitDefEqProofs (maxSteps := 2000000) [hP, hN, h1, h1', h2, h2'])
      | (with_reducible refine yB_split (by simp [h1, h1', h2, h2']) (fun hgd => ?_) (fun hgd => ?_) <;> first | (exfalso; simp at hgd; done) | (exfalso; simp at hgd; omega) | (simp -implicitDefEqProofs (maxSteps := 2000000) [hP, hN, h1, h1', h2, h2'] <;> (try refine ⟨by kernel_rfl, ?_⟩)))
      | with_reducible refine xTwo_intro ?_ ?_
      | (with_reducible refine xCond_split (fun hcd => ?_) (fun hcd => ?_) <;> (try (exfalso; clear hP hN; simp_all; done)) <;> (try (exfalso; simp at *; omega)))
      | with_reducible refine WP.block ?_
      | (with_reducible ((first | refine WP.skip ?_ | refine WP.exit ?_ | refine WP.ret ?_); simp [h1, h1', h2, h2'])))
  have h2' : ¬ (20 : Int) < q.length := by omega
  have hT := mkTree_ok l
  have ct := d21 l
  generalize mkTree l = t at *
  have hz := sizeOk_iff.1 (valid_size hT.valid)
  have h27 := hT.cells
  have c1 := d26 t.root m (by omega) hz.2.2.2.2
  have c2 := d26 t.root o (by omega) hz.2.2.2.2
  have l1 := inL_len t.root m
  have l2 := inL_len t.root o
  have f1 := d63 u p q (by omega) (by omega) (by omega) (by omega)
  have f2 := d63 t (inL t.root m) (inL t.root o) (by omega) (by omega) (by omega) (by omega)
  have f3 := d63 t (inL t.root m) q (by omega) (by omega) (by omega) (by omega)
  generalize inL t.root m = P at *
  generalize inL t.root o = Q at *
  refine detP_of Try.func16 rfl (by kernel_rfl) (by simp [Try.f16]) rfl ?_
  intro C hP hN
  simp only [Try.f16] at hN ⊢
  repeat' (first
    | with_reducible refine WP.seq ?_
    | (with_reducible ((first | refine WP.region (hn := []) ?_ | refine xC_intro (cs) ?_ | refine xC_intro (ca) ?_ | refine xC_intro (ct) ?_ | refine xC_intro (c1) ?_ | refine xC_intro (c2) ?_ | refine xC_intro (f1) ?_ | refine xC_intro (f2) ?_ | refine xC_intro (f3) ?_ | refine WP.cond' ?_); simp -implicitDefEqProofs (maxSteps := 2000000) [hP, hN, h1, h1', h2, h2']))
    | (with_reducible ((first | refine WP.draw (hn := []) (by rw [hP]; kernel_rfl) (by kernel_rfl) ?_ | refine yC_intro (cs) ?_ | refine yC_intro (ca) ?_ | refine yC_intro (ct) ?_ | refine yC_intro (c1) ?_ | refine yC_intro (c2) ?_ | refine yC_intro (f1) ?_ | refine yC_intro (f2) ?_ | refine yC_intro (f3) ?_); simp -implicitDefEqProofs (maxSteps := 2000000) [hP, hN, h1, h1', h2, h2']; (try refine ⟨by kernel_rfl, ?_⟩)))
    | (with_reducible refine xB_split (by simp [h1, h1', h2, h2']) (fun hgd => ?_) (fun hgd => ?_) <;> first | (exfalso; simp at hgd; done) | (exfalso; simp at hgd; omega) | simp -implicitDefEqProofs (maxSteps := 2000000) [hP, hN, h1, h1', h2, h2'])
    | (with_reducible refine yB_split (by simp [h1, h1', h2, h2']) (fun hgd => ?_) (fun hgd => ?_) <;> first | (exfalso; simp at hgd; done) | (exfalso; simp at hgd; omega) | (simp -implicitDefEqProofs (maxSteps := 2000000) [hP, hN, h1, h1', h2, h2'] <;> (try refine ⟨by kernel_rfl, ?_⟩)))
    | with_reducible refine xTwo_intro ?_ ?_
    | (with_reducible refine xCond_split (fun hcd => ?_) (fun hcd => ?_) <;> (try (exfalso; clear hP hN; simp_all; done)) <;> (try (exfalso; simp at *; omega)))
    | with_reducible refine WP.block ?_
    | (with_reducible ((first | refine WP.skip ?_ | refine WP.exit ?_ | refine WP.ret ?_); simp [h1, h1', h2, h2'])))
end Go.Ab
