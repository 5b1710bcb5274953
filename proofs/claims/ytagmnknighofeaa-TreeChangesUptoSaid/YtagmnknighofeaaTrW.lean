/- Contracts: comparison of trees, New compared, trees with a change. -/
import Derived.Test.YtagmnknighofeaaL28a
set_option linter.all false
namespace Go.Ab
open Go.Proofs
theorem rp_arr3 {P : Program} (D : Nat) {t e : TypeId} (ht : P.underlying t = some (.array 3 e)) (hs : runPure P (sizeOf e) = some 1) (e0 : ∀ x y : Int, runPure P (Op.equalIn D e (.int .i64 x) (.int .i64 y)) = some (x == y)) {xs ys : Array Value} {a b c a' b' c' : Int}
    (p0 : runPure P (part e xs (0 * 1)) = some (.int .i64 a)) (p1 : runPure P (part e xs (1 * 1)) = some (.int .i64 b)) (p2 : runPure P (part e xs (2 * 1)) = some (.int .i64 c))
    (q0 : runPure P (part e ys (0 * 1)) = some (.int .i64 a')) (q1 : runPure P (part e ys (1 * 1)) = some (.int .i64 b')) (q2 : runPure P (part e ys (2 * 1)) = some (.int .i64 c')) :
    runPure P (Op.equalIn (D + 1) t (.agg xs) (.agg ys)) = some (a == a' && b == b' && c == c') := by
  simp only [Op.equalIn, runPure_bind, runPure_underlying ht, Option.bind_some]
  simp only [hs, Option.bind_some, Std.Legacy.Range.forIn_eq_forIn_range', Std.Legacy.Range.size]
  have hr : List.range' 0 ((3 - 0 + 1 - 1) / 1) 1 = [0, 1, 2] := by decide
  rw [hr]
  simp only [List.forIn_cons, List.forIn_nil, runPure_bind, p0, q0, e0, Option.bind_some]
  cases h1 : (a == a')
  · simp [runPure_pure]
  simp only [Bool.not_true, Bool.false_eq_true, if_false, runPure_pure, Option.bind_some, runPure_bind, p1, q1, e0]
  cases h2 : (b == b')
  · simp [runPure_pure]
  simp only [Bool.not_true, Bool.false_eq_true, if_false, runPure_pure, Option.bind_some, runPure_bind, p2, q2, e0]
  cases h3 : (c == c')
  · simp [runPure_pure]
  · simp [runPure_pure]
theorem eqVec (a b e c d f : Int) : runPure Try.prog (Op.equal 118 (.agg #[.int .i64 a, .int .i64 b, .int .i64 e]) (.agg #[.int .i64 c, .int .i64 d, .int .i64 f])) = some (a == c && b == d && e == f) :=
  rp_arr3 9999 Try.underlying118 (by kernel_rfl) (fun x y => rp_int (P := Try.prog) 9998 2 .i64 .i64 x y Try.underlying2) (by kernel_rfl) (by kernel_rfl) (by kernel_rfl) (by kernel_rfl) (by kernel_rfl) (by kernel_rfl)
def ints3 (x : AV) : Option (Int × Int × Int) := match x with
  | .pv (.val (.agg vs)) => match vs.toList with
    | [.int .i64 a, .int .i64 b, .int .i64 c] => some (a, b, c)
    | _ => none
  | _ => none
theorem ints3_some {x : AV} {a b c : Int} (h : ints3 x = some (a, b, c)) : x = .pv (encVec (a, b, c)) := by
  unfold ints3 at h
  split at h
  · split at h
    · rename_i vs _ a' b' c' hv
      injection h with h; injection h with h1 h2; injection h2 with h2 h3; subst h1; subst h2; subst h3
      rw [← Array.toArray_toList (xs := vs), hv]
    · cases h
  · cases h
def cmp3 (x y : AV) (fb : Option Eff) : Option Eff := match ints3 x, ints3 y with
  | some (a, b, e), some (c, d, f) => some (.pv (.val (.bool !(a == c && b == d && e == f))), [])
  | _, _ => fb
@[simp] theorem cmp3_some (a b e c d f : Int) (fb : Option Eff) : cmp3 (.pv (.val (.agg #[.int .i64 a, .int .i64 b, .int .i64 e]))) (.pv (.val (.agg #[.int .i64 c, .int .i64 d, .int .i64 f]))) fb = some (.pv (.val (.bool !(a == c && b == d && e == f))), []) := rfl
@[simp] theorem neqVec {dst : Option Nat} {ty : TypeId} {pos : String} {aft : Array Edge} {g : Option (Nat × Bool)} {ρ : Operand → AV} (x y : Operand) :
    evPure Try.prog ⟨dst, .binOp .neq 118 x y 118, ty, pos, aft, g⟩ ρ = cmp3 (ρ x) (ρ y) (evPureX Try.prog ⟨dst, .binOp .neq 118 x y 118, ty, pos, aft, g⟩ ρ) := by
  unfold cmp3
  split
  · rename_i a b e c d f hx hy
    exact evPure_neq rfl (ints3_some hx) (ints3_some hy) (by kernel_rfl) (eqVec a b e c d f)
  · rfl
/-! equal things are the same -/
theorem sameVecs (xs : List (Int × Int × Int)) (hl : xs.length ≤ 9223372036854775807) : DetH Try.prog 177 [.pv (vecs xs), .pv (vecs xs)] [] [] (.pv (B true)) := by
  refine detP_of Try.func177 rfl (by kernel_rfl) (by simp [Try.f177]) rfl ?_
  intro C hP hN
  simp only [Try.f177] at hN ⊢
  repeat' (first
    | with_reducible refine WP.seq ?_
    | (with_reducible ((first | refine WP.region (hn := []) ?_ | refine WP.cond' ?_); simp -implicitDefEqProofs (maxSteps := 2000000) [hP, hN]))
    | (with_reducible ((first | refine WP.draw (hn := []) (by rw [hP]; kernel_rfl) (by kernel_rfl) ?_); simp -implicitDefEqProofs (maxSteps := 2000000) [hP, hN]; (try refine ⟨by kernel_rfl, ?_⟩)))
    | (with_reducible refine xB_split (by simp) (fun hgd => ?_) (fun hgd => ?_) <;> first | (exfalso; simp at hgd; done) | (exfalso; simp at hgd; omega) | simp -implicitDefEqProofs (maxSteps := 2000000) [hP, hN])
    | (with_reducible refine yB_split (by simp) (fun hgd => ?_) (fun hgd => ?_) <;> first | (exfalso; simp at hgd; done) | (exfalso; simp at hgd; omega) | (simp -implicitDefEqProofs (maxSteps := 2000000) [hP, hN] <;> (try refine ⟨by kernel_rfl, ?_⟩)))
    | with_reducible refine xTwo_intro ?_ ?_
    | (with_reducible refine xCond_split (fun hcd => ?_) (fun hcd => ?_) <;> (try (exfalso; clear hP hN; simp_all; done)) <;> (try (exfalso; simp at *; omega)))
    | with_reducible refine WP.block ?_
    | (with_reducible ((first | refine WP.skip ?_ | refine WP.exit ?_ | refine WP.ret ?_); simp)))
  refine WP.loopN [] xs.length (fun i st => st.t 0 = .pv (vecs xs) ∧ st.t 1 = .pv (vecs xs) ∧ st.t 5 = .pv (Z i)) (by simp) ?_
  rintro i st hi ⟨h0, h1, h2⟩
  by_cases hlt : i < xs.length
  · have hw := wr_succ hlt hl
    repeat' (first
      | with_reducible refine WP.seq ?_
      | (with_reducible ((first | refine WP.region (hn := []) ?_ | refine WP.cond' ?_); simp -implicitDefEqProofs (maxSteps := 2000000) [hP, hN, h0, h1, h2, hlt, hw]))
      | (with_reducible ((first | refine WP.draw (hn := []) (by rw [hP]; kernel_rfl) (by kernel_rfl) ?_); simp -implicitDefEqProofs (maxSteps := 2000000) [hP, hN, h0, h1, h2, hlt, hw]; (try refine ⟨by kernel_rfl, ?_⟩)))
      | (with_reducible refine xB_split (by simp [h0, h1, h2, hlt, hw]) (fun hgd => ?_) (fun hgd => ?_) <;> first | (exfalso; simp at hgd; done) | (exfalso; simp at hgd; omega) | simp -implicitDefEqProofs (maxSteps := 2000000) [hP, hN, h0, h1, h2, hlt, hw])
      | (with_reducible refine yB_split (by simp [h0, h1, h2, hlt, hw]) (fun hgd => ?_) (fun hgd => ?_) <;> first | (exfalso; simp at hgd; done) | (exfalso; simp at hgd; omega) | (simp -implicitDefEqProofs (maxSteps := 2000000) [hP, hN, h0, h1, h2, hlt, hw] <;> (try refine ⟨by kernel_rfl, ?_⟩)))
      | with_reducible refine xTwo_intro ?_ ?_
      | (with_reducible refine xCond_split (fun hcd => ?_) (fun hcd => ?_) <;> (try (exfalso; clear hP hN; simp_all; done)) <;> (try (exfalso; simp at *; omega)))
      | with_reducible refine WP.block ?_
      | (with_reducible ((first | refine WP.skip ?_ | refine WP.exit ?_ | refine WP.ret ?_); simp [h0, h1, h2, hlt, hw])))
  · skip
    repeat' (first
      | with_reducible refine WP.seq ?_
      | (with_reducible ((first | refine WP.region (hn := []) ?_ | refine WP.cond' ?_); simp -implicitDefEqProofs (maxSteps := 2000000) [hP, hN, h0, h1, h2, hlt]))
      | (with_reducible ((first | refine WP.draw (hn := []) (by rw [hP]; kernel_rfl) (by kernel_rfl) ?_); simp -implicitDefEqProofs (maxSteps := 2000000) [hP, hN, h0, h1, h2, hlt]; (try refine ⟨by kernel_rfl, ?_⟩)))
      | (with_reducible refine xB_split (by simp [h0, h1, h2, hlt]) (fun hgd => ?_) (fun hgd => ?_) <;> first | (exfalso; simp at hgd; done) | (exfalso; simp at hgd; omega) | simp -implicitDefEqProofs (maxSteps := 2000000) [hP, hN, h0, h1, h2, hlt])
      | (with_reducible refine yB_split (by simp [h0, h1, h2, hlt]) (fun hgd => ?_) (fun hgd => ?_) <;> first | (exfalso; simp at hgd; done) | (exfalso; simp at hgd; omega) | (simp -implicitDefEqProofs (maxSteps := 2000000) [hP, hN, h0, h1, h2, hlt] <;> (try refine ⟨by kernel_rfl, ?_⟩)))
      | with_reducible refine xTwo_intro ?_ ?_
      | (with_reducible refine xCond_split (fun hcd => ?_) (fun hcd => ?_) <;> (try (exfalso; clear hP hN; simp_all; done)) <;> (try (exfalso; simp at *; omega)))
      | with_reducible refine WP.block ?_
      | (with_reducible ((first | refine WP.skip ?_ | refine WP.exit ?_ | refine WP.ret ?_); simp [h0, h1, h2, hlt])))
theorem sameWit (p : Int) (l r : List Int) (hl : l.length ≤ 9223372036854775807) (hr : r.length ≤ 9223372036854775807) : DetH Try.prog 178 [.pv (encW p l r), .pv (encW p l r)] [] [] (.pv (B true)) := by
  have c1 := d47 l l hl hl
  have c2 := d47 r r hr hr
  rw [sameX_dec, decide_eq_true rfl] at c1 c2
  refine detP_of Try.func178 rfl (by kernel_rfl) (by simp [Try.f178]) rfl ?_
  intro C hP hN
  simp only [Try.f178] at hN ⊢
  repeat' (first
    | with_reducible refine WP.seq ?_
    | (with_reducible ((first | refine WP.region (hn := []) ?_ | refine xC_intro (c1) ?_ | refine xC_intro (c2) ?_ | refine WP.cond' ?_); simp -implicitDefEqProofs (maxSteps := 2000000) [hP, hN]))
    | (with_reducible ((first | refine WP.draw (hn := []) (by rw [hP]; kernel_rfl) (by kernel_rfl) ?_ | refine yC_intro (c1) ?_ | refine yC_intro (c2) ?_); simp -implicitDefEqProofs (maxSteps := 2000000) [hP, hN]; (try refine ⟨by kernel_rfl, ?_⟩)))
    | (with_reducible refine xB_split (by simp) (fun hgd => ?_) (fun hgd => ?_) <;> first | (exfalso; simp at hgd; done) | (exfalso; simp at hgd; omega) | simp -implicitDefEqProofs (maxSteps := 2000000) [hP, hN])
    | (with_reducible refine yB_split (by simp) (fun hgd => ?_) (fun hgd => ?_) <;> first | (exfalso; simp at hgd; done) | (exfalso; simp at hgd; omega) | (simp -implicitDefEqProofs (maxSteps := 2000000) [hP, hN] <;> (try refine ⟨by kernel_rfl, ?_⟩)))
    | with_reducible refine xTwo_intro ?_ ?_
    | (with_reducible refine xCond_split (fun hcd => ?_) (fun hcd => ?_) <;> (try (exfalso; clear hP hN; simp_all; done)) <;> (try (exfalso; simp at *; omega)))
    | with_reducible refine WP.block ?_
    | (with_reducible ((first | refine WP.skip ?_ | refine WP.exit ?_ | refine WP.ret ?_); simp)))
theorem sameVerd (v : Verd) (h1 : v.nor.length ≤ 9223372036854775807) (h2 : v.left.length ≤ 9223372036854775807) (h3 : v.right.length ≤ 9223372036854775807) : DetH Try.prog 143 [.pv (encVd v), .pv (encVd v)] [] [] (.pv (B true)) := by
  have c1 := sameVecs v.nor h1
  have c2 := sameWit v.pair v.left v.right h2 h3
  refine detP_of Try.func143 rfl (by kernel_rfl) (by simp [Try.f143]) rfl ?_
  intro C hP hN
  simp only [Try.f143] at hN ⊢
  repeat' (first
    | with_reducible refine WP.seq ?_
    | (with_reducible ((first | refine WP.region (hn := []) ?_ | refine xC_intro (c1) ?_ | refine xC_intro (c2) ?_ | refine WP.cond' ?_); simp -implicitDefEqProofs (maxSteps := 2000000) [hP, hN]))
    | (with_reducible ((first | refine WP.draw (hn := []) (by rw [hP]; kernel_rfl) (by kernel_rfl) ?_ | refine yC_intro (c1) ?_ | refine yC_intro (c2) ?_); simp -implicitDefEqProofs (maxSteps := 2000000) [hP, hN]; (try refine ⟨by kernel_rfl, ?_⟩)))
    | (with_reducible refine xB_split (by simp) (fun hgd => ?_) (fun hgd => ?_) <;> first | (exfalso; simp at hgd; done) | (exfalso; simp at hgd; omega) | simp -implicitDefEqProofs (maxSteps := 2000000) [hP, hN])
    | (with_reducible refine yB_split (by simp) (fun hgd => ?_) (fun hgd => ?_) <;> first | (exfalso; simp at hgd; done) | (exfalso; simp at hgd; omega) | (simp -implicitDefEqProofs (maxSteps := 2000000) [hP, hN] <;> (try refine ⟨by kernel_rfl, ?_⟩)))
    | with_reducible refine xTwo_intro ?_ ?_
    | (with_reducible refine xCond_split (fun hcd => ?_) (fun hcd => ?_) <;> (try (exfalso; clear hP hN; simp_all; done)) <;> (try (exfalso; simp at *; omega)))
    | with_reducible refine WP.block ?_
    | (with_reducible ((first | refine WP.skip ?_ | refine WP.exit ?_ | refine WP.ret ?_); simp)))
def vBig (v : Verd) : Prop := v.nor.length ≤ 9223372036854775807 ∧ v.left.length ≤ 9223372036854775807 ∧ v.right.length ≤ 9223372036854775807
set_option maxHeartbeats 4000000 in
theorem sameTree (t : Tr) (hr : t.root.length ≤ 9223372036854775807) (hl : t.cells.length ≤ 9223372036854775807) (hv : ∀ c ∈ t.cells, vBig c.v) : DetH Try.prog 68 [.pv (encT t), .pv (encT t)] [] [] (.pv (B true)) := by
  have c1 := d40 t.root t.root hr hr
  rw [sameX_dec, decide_eq_true rfl] at c1
  refine detP_of Try.func68 rfl (by kernel_rfl) (by simp [Try.f68]) rfl ?_
  intro C hP hN
  simp only [Try.f68] at hN ⊢
  repeat' (first
    | with_reducible refine WP.seq ?_
    | (with_reducible ((first | refine WP.region (hn := []) ?_ | refine xC_intro (c1) ?_ | refine WP.cond' ?_); simp -implicitDefEqProofs (maxSteps := 2000000) [hP, hN]))
    | (with_reducible ((first | refine WP.draw (hn := []) (by rw [hP]; kernel_rfl) (by kernel_rfl) ?_ | refine yC_intro (c1) ?_); simp -implicitDefEqProofs (maxSteps := 2000000) [hP, hN]; (try refine ⟨by kernel_rfl, ?_⟩)))
    | (with_reducible refine xB_split (by simp) (fun hgd => ?_) (fun hgd => ?_) <;> first | (exfalso; simp at hgd; done) | (exfalso; simp at hgd; omega) | simp -implicitDefEqProofs (maxSteps := 2000000) [hP, hN])
    | (with_reducible refine yB_split (by simp) (fun hgd => ?_) (fun hgd => ?_) <;> first | (exfalso; simp at hgd; done) | (exfalso; simp at hgd; omega) | (simp -implicitDefEqProofs (maxSteps := 2000000) [hP, hN] <;> (try refine ⟨by kernel_rfl, ?_⟩)))
    | with_reducible refine xTwo_intro ?_ ?_
    | (with_reducible refine xCond_split (fun hcd => ?_) (fun hcd => ?_) <;> (try (exfalso; clear hP hN; simp_all; done)) <;> (try (exfalso; simp at *; omega)))
    | with_reducible refine WP.block ?_
    | (with_reducible ((first | refine WP.skip ?_ | refine WP.exit ?_ | refine WP.ret ?_); simp)))
  refine WP.loopN [6, 7] t.cells.length (fun i st => st.t 2 = .ptr 2 0 ∧ st.t 3 = .ptr 3 0 ∧ st.t 5 = .pv (Z i) ∧ st.h 2 = some (.box [.pv (iv t.root), .pv (.sl (t.cells.map encC))] true false) ∧ st.h 3 = some (.box [.pv (iv t.root), .pv (.sl (t.cells.map encC))] true false) ∧ st.h 6 = none ∧ st.h 7 = none) (by simp) ?_
  rintro i st hi ⟨g2, g3, g5, hb2, hb3, hb6, hb7⟩
  by_cases hlt : i < t.cells.length
  · have hw := wr_succ hlt hl
    generalize hc : t.cells[i] = c at *
    have hci : t.cells[i]? = some c := by rw [List.getElem?_eq_getElem hlt, hc]
    obtain ⟨v1, v2, v3⟩ := hv c (List.mem_of_getElem? hci)
    have cv := sameVerd c.v v1 v2 v3
    repeat' (first
      | with_reducible refine WP.seq ?_
      | (with_reducible ((first | refine WP.region (hn := []) ?_ | refine xC_intro (cv) ?_ | refine WP.cond' ?_); simp -implicitDefEqProofs (maxSteps := 2000000) [hP, hN, g2, g3, g5, hb2, hb3, hb6, hb7, hlt, hw, hci, hc]))
      | (with_reducible ((first | refine WP.draw (hn := []) (by rw [hP]; kernel_rfl) (by kernel_rfl) ?_ | refine yC_intro (cv) ?_); simp -implicitDefEqProofs (maxSteps := 2000000) [hP, hN, g2, g3, g5, hb2, hb3, hb6, hb7, hlt, hw, hci, hc]; (try refine ⟨by kernel_rfl, ?_⟩)))
      | (with_reducible refine xB_split (by simp [g2, g3, g5, hb2, hb3, hb6, hb7, hlt, hw, hci, hc]) (fun hgd => ?_) (fun hgd => ?_) <;> first | (exfalso; simp at hgd; done) | (exfalso; simp at hgd; omega) | simp -implicitDefEqProofs (maxSteps := 2000000) [hP, hN, g2, g3, g5, hb2, hb3, hb6, hb7, hlt, hw, hci, hc])
      | (with_reducible refine yB_split (by simp [g2, g3, g5, hb2, hb3, hb6, hb7, hlt, hw, hci, hc]) (fun hgd => ?_) (fun hgd => ?_) <;> first | (exfalso; simp at hgd; done) | (exfalso; simp at hgd; omega) | (simp -implicitDefEqProofs (maxSteps := 2000000) [hP, hN, g2, g3, g5, hb2, hb3, hb6, hb7, hlt, hw, hci, hc] <;> (try refine ⟨by kernel_rfl, ?_⟩)))
      | with_reducible refine xTwo_intro ?_ ?_
      | (with_reducible refine xCond_split (fun hcd => ?_) (fun hcd => ?_) <;> (try (exfalso; clear hP hN; simp_all; done)) <;> (try (exfalso; simp at *; omega)))
      | with_reducible refine WP.block ?_
      | (with_reducible ((first | refine WP.skip ?_ | refine WP.exit ?_ | refine WP.ret ?_); simp [g2, g3, g5, hb2, hb3, hb6, hb7, hlt, hw, hci, hc])))
  · skip
    repeat' (first
      | with_reducible refine WP.seq ?_
      | (with_reducible ((first | refine WP.region (hn := []) ?_ | refine WP.cond' ?_); simp -implicitDefEqProofs (maxSteps := 2000000) [hP, hN, g2, g3, g5, hb2, hb3, hb6, hb7, hlt]))
      | (with_reducible ((first | refine WP.draw (hn := []) (by rw [hP]; kernel_rfl) (by kernel_rfl) ?_); simp -implicitDefEqProofs (maxSteps := 2000000) [hP, hN, g2, g3, g5, hb2, hb3, hb6, hb7, hlt]; (try refine ⟨by kernel_rfl, ?_⟩)))
      | (with_reducible refine xB_split (by simp [g2, g3, g5, hb2, hb3, hb6, hb7, hlt]) (fun hgd => ?_) (fun hgd => ?_) <;> first | (exfalso; simp at hgd; done) | (exfalso; simp at hgd; omega) | simp -implicitDefEqProofs (maxSteps := 2000000) [hP, hN, g2, g3, g5, hb2, hb3, hb6, hb7, hlt])
      | (with_reducible refine yB_split (by simp [g2, g3, g5, hb2, hb3, hb6, hb7, hlt]) (fun hgd => ?_) (fun hgd => ?_) <;> first | (exfalso; simp at hgd; done) | (exfalso; simp at hgd; omega) | (simp -implicitDefEqProofs (maxSteps := 2000000) [hP, hN, g2, g3, g5, hb2, hb3, hb6, hb7, hlt] <;> (try refine ⟨by kernel_rfl, ?_⟩)))
      | with_reducible refine xTwo_intro ?_ ?_
      | (with_reducible refine xCond_split (fun hcd => ?_) (fun hcd => ?_) <;> (try (exfalso; clear hP hN; simp_all; done)) <;> (try (exfalso; simp at *; omega)))
      | with_reducible refine WP.block ?_
      | (with_reducible ((first | refine WP.skip ?_ | refine WP.exit ?_ | refine WP.ret ?_); simp [g2, g3, g5, hb2, hb3, hb6, hb7, hlt])))
theorem d19 (t : Tr) : DetH Try.prog 19 [.pv (encT t)] [] [] (.pv (B (decide (t.root.length ≤ 12) && decide (t.cells.length ≤ 60)))) := by
  have h1 : decide ((t.root.length : Int) ≤ 12) = decide (t.root.length ≤ 12) := by rw [decide_eq_decide]; omega
  have h2 : decide ((t.cells.length : Int) ≤ 60) = decide (t.cells.length ≤ 60) := by rw [decide_eq_decide]; omega
  rw [← h1, ← h2]
  generalize hx : decide ((t.root.length : Int) ≤ 12) = x at *
  generalize hy : decide ((t.cells.length : Int) ≤ 60) = y at *
  cases x
  · skip
    refine detP_of Try.func19 rfl (by kernel_rfl) (by simp [Try.f19]) rfl ?_
    intro C hP hN
    simp only [Try.f19] at hN ⊢
    repeat' (first
      | with_reducible refine WP.seq ?_
      | (with_reducible ((first | refine WP.region (hn := []) ?_ | refine WP.cond' ?_); simp -implicitDefEqProofs (maxSteps := 2000000) [hP, hN, hx, hy]))
      | (with_reducible ((first | refine WP.draw (hn := []) (by rw [hP]; kernel_rfl) (by kernel_rfl) ?_); simp -implicitDefEqProofs (maxSteps := 2000000) [hP, hN, hx, hy]; (try refine ⟨by kernel_rfl, ?_⟩)))
      | (with_reducible refine xB_split (by simp [hx, hy]) (fun hgd => ?_) (fun hgd => ?_) <;> first | (exfalso; simp at hgd; done) | (exfalso; simp at hgd; omega) | simp -implicitDefEqProofs (maxSteps := 2000000) [hP, hN, hx, hy])
      | (with_reducible refine yB_split (by simp [hx, hy]) (fun hgd => ?_) (fun hgd => ?_) <;> first | (exfalso; simp at hgd; done) | (exfalso; simp at hgd; omega) | (simp -implicitDefEqProofs (maxSteps := 2000000) [hP, hN, hx, hy] <;> (try refine ⟨by kernel_rfl, ?_⟩)))
      | with_reducible refine xTwo_intro ?_ ?_
      | (with_reducible refine xCond_split (fun hcd => ?_) (fun hcd => ?_) <;> (try (exfalso; clear hP hN; simp_all; done)) <;> (try (exfalso; simp at *; omega)))
      | with_reducible refine WP.block ?_
      | (with_reducible ((first | refine WP.skip ?_ | refine WP.exit ?_ | refine WP.ret ?_); simp [hx, hy])))
  · skip
    refine detP_of Try.func19 rfl (by kernel_rfl) (by simp [Try.f19]) rfl ?_
    intro C hP hN
    simp only [Try.f19] at hN ⊢
    repeat' (first
      | with_reducible refine WP.seq ?_
      | (with_reducible ((first | refine WP.region (hn := []) ?_ | refine WP.cond' ?_); simp -implicitDefEqProofs (maxSteps := 2000000) [hP, hN, hx, hy]))
      | (with_reducible ((first | refine WP.draw (hn := []) (by rw [hP]; kernel_rfl) (by kernel_rfl) ?_); simp -implicitDefEqProofs (maxSteps := 2000000) [hP, hN, hx, hy]; (try refine ⟨by kernel_rfl, ?_⟩)))
      | (with_reducible refine xB_split (by simp [hx, hy]) (fun hgd => ?_) (fun hgd => ?_) <;> first | (exfalso; simp at hgd; done) | (exfalso; simp at hgd; omega) | simp -implicitDefEqProofs (maxSteps := 2000000) [hP, hN, hx, hy])
      | (with_reducible refine yB_split (by simp [hx, hy]) (fun hgd => ?_) (fun hgd => ?_) <;> first | (exfalso; simp at hgd; done) | (exfalso; simp at hgd; omega) | (simp -implicitDefEqProofs (maxSteps := 2000000) [hP, hN, hx, hy] <;> (try refine ⟨by kernel_rfl, ?_⟩)))
      | with_reducible refine xTwo_intro ?_ ?_
      | (with_reducible refine xCond_split (fun hcd => ?_) (fun hcd => ?_) <;> (try (exfalso; clear hP hN; simp_all; done)) <;> (try (exfalso; simp at *; omega)))
      | with_reducible refine WP.block ?_
      | (with_reducible ((first | refine WP.skip ?_ | refine WP.exit ?_ | refine WP.ret ?_); simp [hx, hy])))
theorem d23 (r : List (Int × Int)) (hr : r.length ≤ 16777216) : DetH Try.prog 23 [.pv (iv r)] [] [] (.pv (B true)) := by
  have c1 := d70 r hr
  have c2 := d72 r
  have hn : (newT r).root.length ≤ 9223372036854775807 ∧ (newT r).cells.length ≤ 9223372036854775807 ∧ ∀ c ∈ (newT r).cells, vBig c.v := by
    unfold newT
    split
    · refine ⟨by simp only; omega, by simp, fun c hc => ?_⟩
      simp at hc; subst hc
      exact ⟨by decide, by decide, by decide⟩
    · exact ⟨by simp, by simp, by simp⟩
  have c3 := sameTree (newT r) hn.1 hn.2.1 hn.2.2
  generalize newT r = t at *
  generalize rootOk r = k at *
  refine detP_of Try.func23 rfl (by kernel_rfl) (by simp [Try.f23]) rfl ?_
  intro C hP hN
  simp only [Try.f23] at hN ⊢
  repeat' (first
    | with_reducible refine WP.seq ?_
    | (with_reducible ((first | refine WP.region (hn := []) ?_ | refine xC_intro (c1) ?_ | refine xC_intro (c2) ?_ | refine xC_intro (c3) ?_ | refine WP.cond' ?_); simp -implicitDefEqProofs (maxSteps := 2000000) [hP, hN]))
    | (with_reducible ((first | refine WP.draw (hn := []) (by rw [hP]; kernel_rfl) (by kernel_rfl) ?_ | refine yC_intro (c1) ?_ | refine yC_intro (c2) ?_ | refine yC_intro (c3) ?_); simp -implicitDefEqProofs (maxSteps := 2000000) [hP, hN]; (try refine ⟨by kernel_rfl, ?_⟩)))
    | (with_reducible refine xB_split (by simp) (fun hgd => ?_) (fun hgd => ?_) <;> first | (exfalso; simp at hgd; done) | (exfalso; simp at hgd; omega) | simp -implicitDefEqProofs (maxSteps := 2000000) [hP, hN])
    | (with_reducible refine yB_split (by simp) (fun hgd => ?_) (fun hgd => ?_) <;> first | (exfalso; simp at hgd; done) | (exfalso; simp at hgd; omega) | (simp -implicitDefEqProofs (maxSteps := 2000000) [hP, hN] <;> (try refine ⟨by kernel_rfl, ?_⟩)))
    | with_reducible refine xTwo_intro ?_ ?_
    | (with_reducible refine xCond_split (fun hcd => ?_) (fun hcd => ?_) <;> (try (exfalso; clear hP hN; simp_all; done)) <;> (try (exfalso; simp at *; omega)))
    | with_reducible refine WP.block ?_
    | (with_reducible ((first | refine WP.skip ?_ | refine WP.exit ?_ | refine WP.ret ?_); simp)))
/-! a change in one place -/
structure AltOk (t u : Tr) : Prop where
  root : u.root.length = t.root.length
  cells : u.cells.length ≤ t.cells.length + 1
  vs : (∀ c ∈ t.cells, vLe 16 c.v) → ∀ c ∈ u.cells, vLe 16 c.v
theorem AltOk.set {t : Tr} {k : Nat} {d : Cel} (h : (∀ c ∈ t.cells, vLe 16 c.v) → vLe 16 d.v) : AltOk t ⟨t.root, t.cells.set k d⟩ := by
  refine ⟨rfl, by simp, fun hv c hc => ?_⟩
  rcases List.mem_or_eq_of_mem_set hc with h' | rfl
  · exact hv c h'
  · exact h hv
theorem label_le (k : Int) : vLe 16 (labelV k) := by
  unfold labelV vLe zeroV
  repeat' split
  all_goals simp
end Go.Ab
