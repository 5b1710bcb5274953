/- CutTopology, CutFirst: the walks. -/
import Derived.Test.YtagmnknighofeaaCu17
import Derived.Test.YtagmnknighofeaaCu15
set_option linter.all false
namespace Go.Ab
open Go.Proofs
def inB (x : Int × Int) (u v n d : Int) : Bool := !(decide (u * d + (v - u) * n < x.1 * d) || decide (x.2 * d < u * d + (v - u) * n))
def atB : Bx → List Int → List Int → Int → Int → Bool
  | x :: b, p :: ps, q :: qs, n, d => inB x p q n d && atB b ps qs n d
  | _, _, _, _, _ => true
theorem inB_iff {x : Int × Int} {u v n d : Int} : inB x u v n d = true ↔ inAt x u v n d := by
  simp only [inB, inAt, Bool.not_eq_true', Bool.or_eq_false_iff, decide_eq_false_iff_not, Int.not_lt]
theorem atB_iff : ∀ {b : Bx} {p q : List Int} {n d : Int}, atB b p q n d = true ↔ ptP b p q n d
  | [], p, q, n, d => by simp [atB, ptP]
  | _ :: _, [], q, n, d => by simp [atB, ptP]
  | _ :: _, _ :: _, [], n, d => by simp [atB, ptP]
  | x :: b, p :: ps, q :: qs, n, d => by simp only [atB, ptP, Bool.and_eq_true, inB_iff, atB_iff (b := b)]
theorem atB_step {b : Bx} {p q : List Int} {n d : Int} {i : Nat} {x : Int × Int} {u v : Int} (h1 : b[i]? = some x) (h2 : p[i]? = some u) (h3 : q[i]? = some v) : atB (b.drop i) (p.drop i) (q.drop i) n d = (inB x u v n d && atB (b.drop (i + 1)) (p.drop (i + 1)) (q.drop (i + 1)) n d) := by
  obtain ⟨l1, e1⟩ := List.getElem?_eq_some_iff.1 h1
  obtain ⟨l2, e2⟩ := List.getElem?_eq_some_iff.1 h2
  obtain ⟨l3, e3⟩ := List.getElem?_eq_some_iff.1 h3
  rw [List.drop_eq_getElem_cons l1, List.drop_eq_getElem_cons l2, List.drop_eq_getElem_cons l3, e1, e2, e3]
  rfl
theorem prodB {u d A : Int} (h1 : -A ≤ u) (h2 : u ≤ A) (h3 : 0 ≤ d) (h4 : d ≤ 8589934592) (hA : 0 ≤ A) : -(A * 8589934592) ≤ u * d ∧ u * d ≤ A * 8589934592 := by
  have k1 := Int.mul_le_mul_of_nonneg_right h1 h3
  have k2 := Int.mul_le_mul_of_nonneg_right h2 h3
  have k3 := Int.mul_le_mul_of_nonneg_left h4 hA
  rw [Int.neg_mul] at k1
  omega
structure AtS (b : Bx) (p q : List Int) (n d : Int) : Prop where
  lb : b.length ≤ 100
  lp : p.length = b.length
  lq : q.length = b.length
  sb : ∀ x ∈ b, -1048576 ≤ x.1 ∧ x.1 ≤ 1048576 ∧ -1048576 ≤ x.2 ∧ x.2 ≤ 1048576
  sp : ∀ y ∈ p, -1048576 ≤ y ∧ y ≤ 1048576
  sq : ∀ y ∈ q, -1048576 ≤ y ∧ y ≤ 1048576
  n0 : 0 ≤ n
  n1 : n ≤ 8589934592
  d0 : 0 ≤ d
  d1 : d ≤ 8589934592
set_option maxRecDepth 10000 in
set_option maxHeartbeats 4000000 in
theorem d62 (b : Bx) (p q : List Int) (n d : Int) (hS : AtS b p q n d) : DetH Try.prog 62 [.pv (iv b), .pv (zs p), .pv (zs q), .pv (Z n), .pv (Z d)] [] [] (.pv (B (atB b p q n d))) := by
  have hbl := hS.lb
  refine detP_of Try.func62 rfl (by kernel_rfl) (by simp [Try.f62]) rfl ?_
  intro C hP hN
  simp only [Try.f62] at hN ⊢
  repeat' (first
    | with_reducible refine WP.seq ?_
    | (with_reducible ((first | refine WP.region (hn := []) ?_ | refine WP.cond' ?_); simp -implicitDefEqProofs (maxSteps := 2000000) [hP, hN]))
    | (with_reducible ((first | refine WP.draw (hn := []) (by rw [hP]; kernel_rfl) (by kernel_rfl) ?_); simp -implicitDefEqProofs (maxSteps := 2000000) [hP, hN]; (try refine ⟨by kernel_rfl, ?_⟩)))
    | (with_reducible refine xB_split (by simp) (fun hgd => ?_) (fun hgd => ?_) <;> first | (exfalso; simp at hgd; done) | (exfalso; simp at hgd; omega) | simp -implicitDefEqProofs (maxSteps := 2000000) [hP, hN])
    | (with_reducible refine yB_split (by simp) (fun hgd => ?_) (fun hgd => ?_) <;> first | (exfalso; simp at hgd; done) | (exfalso; simp at hgd; omega) | (simp -implicitDefEqProofs (maxSteps := 2000000) [hP, hN] <;> (try refine ⟨by kernel_rfl, ?_⟩)))
    | with_reducible refine xTwo_intro ?_ ?_
    | (with_reducible refine xCond_split (fun hcd => ?_) (fun hcd => ?_) <;> (try (exfalso; clear hP hN; simp_all; done)) <;> (try (exfalso; simp at *; omega)))
    | with_reducible refine WP.block ?_
    | (with_reducible ((first | refine WP.skip ?_ | refine WP.exit ?_ | refine WP.ret ?_); simp)))
  refine WP.loopN [] b.length (fun i st => atB (b.drop i) (p.drop i) (q.drop i) n d = atB b p q n d ∧ st.t 0 = .pv (iv b) ∧ st.t 1 = .pv (zs p) ∧ st.t 2 = .pv (zs q) ∧ st.t 3 = .pv (Z n) ∧ st.t 4 = .pv (Z d) ∧ st.t 11 = .pv (Z i)) (by simp) ?_
  rintro i st hi ⟨hI, g0, g1, g2, g3, g4, g11⟩
  by_cases hlt : i < b.length
  · have hw := wr_succ hlt (by omega)
    have hpl : i < p.length := by rw [hS.lp]; exact hlt
    have hql : i < q.length := by rw [hS.lq]; exact hlt
    have hbi : b[i]? = some b[i] := List.getElem?_eq_getElem hlt
    have hpi : p[i]? = some p[i] := List.getElem?_eq_getElem hpl
    have hqi : q[i]? = some q[i] := List.getElem?_eq_getElem hql
    have hvx := hS.sb _ (List.mem_of_getElem? hbi)
    have hpx := hS.sp _ (List.mem_of_getElem? hpi)
    have hqx := hS.sq _ (List.mem_of_getElem? hqi)
    have hst := atB_step (n := n) (d := d) hbi hpi hqi
    rw [hI] at hst
    generalize hbx : b[i] = x at *
    generalize hpu : p[i] = u at *
    generalize hqv : q[i] = v at *
    obtain ⟨xl, xh⟩ := x
    simp only at hvx
    have p1 := prodB (A := 1048576) hpx.1 hpx.2 hS.d0 hS.d1 (by decide)
    have p2 := prodB (A := 2097152) (u := v - u) (by omega) (by omega) hS.n0 hS.n1 (by decide)
    have p3 := prodB (A := 1048576) hvx.1 hvx.2.1 hS.d0 hS.d1 (by decide)
    have p4 := prodB (A := 1048576) hvx.2.2.1 hvx.2.2.2 hS.d0 hS.d1 (by decide)
    have n0 : IntKind.i64.wrap (v - u) = v - u := wr_id (by omega) (by omega)
    have n1 : IntKind.i64.wrap (u * d) = u * d := wr_id (by omega) (by omega)
    have n2 : IntKind.i64.wrap ((v - u) * n) = (v - u) * n := wr_id (by omega) (by omega)
    have n3 : IntKind.i64.wrap (u * d + (v - u) * n) = u * d + (v - u) * n := wr_id (by omega) (by omega)
    have n4 : IntKind.i64.wrap (xl * d) = xl * d := wr_id (by omega) (by omega)
    have n5 : IntKind.i64.wrap (xh * d) = xh * d := wr_id (by omega) (by omega)
    have hin : inB (xl, xh) u v n d = !(decide (u * d + (v - u) * n < xl * d) || decide (xh * d < u * d + (v - u) * n)) := rfl
    rw [hin] at hst
    by_cases r1 : u * d + (v - u) * n < xl * d
    · rw [decide_eq_true r1, Bool.true_or, Bool.not_true, Bool.false_and] at hst
      rw [hst]
      repeat' (first
        | with_reducible refine WP.seq ?_
        | (with_reducible ((first | refine WP.region (hn := []) ?_ | refine WP.cond' ?_); simp -implicitDefEqProofs (maxSteps := 2000000) [hP, hN, g0, g1, g2, g3, g4, g11, hlt, hpl, hql, hbi, hpi, hqi, hbx, hpu, hqv, n0, n1, n2, n3, n4, n5, r1]))
        | (with_reducible ((first | refine WP.draw (hn := []) (by rw [hP]; kernel_rfl) (by kernel_rfl) ?_); simp -implicitDefEqProofs (maxSteps := 2000000) [hP, hN, g0, g1, g2, g3, g4, g11, hlt, hpl, hql, hbi, hpi, hqi, hbx, hpu, hqv, n0, n1, n2, n3, n4, n5, r1]; (try refine ⟨by kernel_rfl, ?_⟩)))
        | (with_reducible refine xB_split (by simp [g0, g1, g2, g3, g4, g11, hlt, hpl, hql, hbi, hpi, hqi, hbx, hpu, hqv, n0, n1, n2, n3, n4, n5, r1]) (fun hgd => ?_) (fun hgd => ?_) <;> first | (exfalso; simp at hgd; done) | (exfalso; simp at hgd; omega) | simp -implicitDefEqProofs (maxSteps := 2000000) [hP, hN, g0, g1, g2, g3, g4, g11, hlt, hpl, hql, hbi, hpi, hqi, hbx, hpu, hqv, n0, n1, n2, n3, n4, n5, r1])
        | (with_reducible refine yB_split (by simp [g0, g1, g2, g3, g4, g11, hlt, hpl, hql, hbi, hpi, hqi, hbx, hpu, hqv, n0, n1, n2, n3, n4, n5, r1]) (fun hgd => ?_) (fun hgd => ?_) <;> first | (exfalso; simp at hgd; done) | (exfalso; simp at hgd; omega) | (simp -implicitDefEqProofs (maxSteps := 2000000) [hP, hN, g0, g1, g2, g3, g4, g11, hlt, hpl, hql, hbi, hpi, hqi, hbx, hpu, hqv, n0, n1, n2, n3, n4, n5, r1] <;> (try refine ⟨by kernel_rfl, ?_⟩)))
        | with_reducible refine xTwo_intro ?_ ?_
        | (with_reducible refine xCond_split (fun hcd => ?_) (fun hcd => ?_) <;> (try (exfalso; clear hP hN; simp_all; done)) <;> (try (exfalso; simp at *; omega)))
        | with_reducible refine WP.block ?_
        | (with_reducible ((first | refine WP.skip ?_ | refine WP.exit ?_ | refine WP.ret ?_); simp [g0, g1, g2, g3, g4, g11, hlt, hpl, hql, hbi, hpi, hqi, hbx, hpu, hqv, n0, n1, n2, n3, n4, n5, r1])))
    · rw [decide_eq_false r1, Bool.false_or] at hst
      by_cases r2 : xh * d < u * d + (v - u) * n
      · rw [decide_eq_true r2, Bool.not_true, Bool.false_and] at hst
        rw [hst]
        repeat' (first
          | with_reducible refine WP.seq ?_
          | (with_reducible ((first | refine WP.region (hn := []) ?_ | refine WP.cond' ?_); simp -implicitDefEqProofs (maxSteps := 2000000) [hP, hN, g0, g1, g2, g3, g4, g11, hlt, hpl, hql, hbi, hpi, hqi, hbx, hpu, hqv, n0, n1, n2, n3, n4, n5, r1, r2]))
          | (with_reducible ((first | refine WP.draw (hn := []) (by rw [hP]; kernel_rfl) (by kernel_rfl) ?_); simp -implicitDefEqProofs (maxSteps := 2000000) [hP, hN, g0, g1, g2, g3, g4, g11, hlt, hpl, hql, hbi, hpi, hqi, hbx, hpu, hqv, n0, n1, n2, n3, n4, n5, r1, r2]; (try refine ⟨by kernel_rfl, ?_⟩)))
          | (with_reducible refine xB_split (by simp [g0, g1, g2, g3, g4, g11, hlt, hpl, hql, hbi, hpi, hqi, hbx, hpu, hqv, n0, n1, n2, n3, n4, n5, r1, r2]) (fun hgd => ?_) (fun hgd => ?_) <;> first | (exfalso; simp at hgd; done) | (exfalso; simp at hgd; omega) | simp -implicitDefEqProofs (maxSteps := 2000000) [hP, hN, g0, g1, g2, g3, g4, g11, hlt, hpl, hql, hbi, hpi, hqi, hbx, hpu, hqv, n0, n1, n2, n3, n4, n5, r1, r2])
          | (with_reducible refine yB_split (by simp [g0, g1, g2, g3, g4, g11, hlt, hpl, hql, hbi, hpi, hqi, hbx, hpu, hqv, n0, n1, n2, n3, n4, n5, r1, r2]) (fun hgd => ?_) (fun hgd => ?_) <;> first | (exfalso; simp at hgd; done) | (exfalso; simp at hgd; omega) | (simp -implicitDefEqProofs (maxSteps := 2000000) [hP, hN, g0, g1, g2, g3, g4, g11, hlt, hpl, hql, hbi, hpi, hqi, hbx, hpu, hqv, n0, n1, n2, n3, n4, n5, r1, r2] <;> (try refine ⟨by kernel_rfl, ?_⟩)))
          | with_reducible refine xTwo_intro ?_ ?_
          | (with_reducible refine xCond_split (fun hcd => ?_) (fun hcd => ?_) <;> (try (exfalso; clear hP hN; simp_all; done)) <;> (try (exfalso; simp at *; omega)))
          | with_reducible refine WP.block ?_
          | (with_reducible ((first | refine WP.skip ?_ | refine WP.exit ?_ | refine WP.ret ?_); simp [g0, g1, g2, g3, g4, g11, hlt, hpl, hql, hbi, hpi, hqi, hbx, hpu, hqv, n0, n1, n2, n3, n4, n5, r1, r2])))
      · rw [decide_eq_false r2, Bool.not_false, Bool.true_and] at hst
        repeat' (first
          | with_reducible refine WP.seq ?_
          | (with_reducible ((first | refine WP.region (hn := []) ?_ | refine WP.cond' ?_); simp -implicitDefEqProofs (maxSteps := 2000000) [hP, hN, g0, g1, g2, g3, g4, g11, hlt, hpl, hql, hbi, hpi, hqi, hbx, hpu, hqv, n0, n1, n2, n3, n4, n5, r1, r2, hw]))
          | (with_reducible ((first | refine WP.draw (hn := []) (by rw [hP]; kernel_rfl) (by kernel_rfl) ?_); simp -implicitDefEqProofs (maxSteps := 2000000) [hP, hN, g0, g1, g2, g3, g4, g11, hlt, hpl, hql, hbi, hpi, hqi, hbx, hpu, hqv, n0, n1, n2, n3, n4, n5, r1, r2, hw]; (try refine ⟨by kernel_rfl, ?_⟩)))
          | (with_reducible refine xB_split (by simp [g0, g1, g2, g3, g4, g11, hlt, hpl, hql, hbi, hpi, hqi, hbx, hpu, hqv, n0, n1, n2, n3, n4, n5, r1, r2, hw]) (fun hgd => ?_) (fun hgd => ?_) <;> first | (exfalso; simp at hgd; done) | (exfalso; simp at hgd; omega) | simp -implicitDefEqProofs (maxSteps := 2000000) [hP, hN, g0, g1, g2, g3, g4, g11, hlt, hpl, hql, hbi, hpi, hqi, hbx, hpu, hqv, n0, n1, n2, n3, n4, n5, r1, r2, hw])
          | (with_reducible refine yB_split (by simp [g0, g1, g2, g3, g4, g11, hlt, hpl, hql, hbi, hpi, hqi, hbx, hpu, hqv, n0, n1, n2, n3, n4, n5, r1, r2, hw]) (fun hgd => ?_) (fun hgd => ?_) <;> first | (exfalso; simp at hgd; done) | (exfalso; simp at hgd; omega) | (simp -implicitDefEqProofs (maxSteps := 2000000) [hP, hN, g0, g1, g2, g3, g4, g11, hlt, hpl, hql, hbi, hpi, hqi, hbx, hpu, hqv, n0, n1, n2, n3, n4, n5, r1, r2, hw] <;> (try refine ⟨by kernel_rfl, ?_⟩)))
          | with_reducible refine xTwo_intro ?_ ?_
          | (with_reducible refine xCond_split (fun hcd => ?_) (fun hcd => ?_) <;> (try (exfalso; clear hP hN; simp_all; done)) <;> (try (exfalso; simp at *; omega)))
          | with_reducible refine WP.block ?_
          | (with_reducible ((first | refine WP.skip ?_ | refine WP.exit ?_ | refine WP.ret ?_); simp [g0, g1, g2, g3, g4, g11, hlt, hpl, hql, hbi, hpi, hqi, hbx, hpu, hqv, n0, n1, n2, n3, n4, n5, r1, r2, hw])))
        all_goals exact hst.symm
  · rw [List.drop_eq_nil_of_le (by omega)] at hI
    have : atB b p q n d = true := hI.symm
    rw [this]
    repeat' (first
      | with_reducible refine WP.seq ?_
      | (with_reducible ((first | refine WP.region (hn := []) ?_ | refine WP.cond' ?_); simp -implicitDefEqProofs (maxSteps := 2000000) [hP, hN, g0, g1, g2, g3, g4, g11, hlt]))
      | (with_reducible ((first | refine WP.draw (hn := []) (by rw [hP]; kernel_rfl) (by kernel_rfl) ?_); simp -implicitDefEqProofs (maxSteps := 2000000) [hP, hN, g0, g1, g2, g3, g4, g11, hlt]; (try refine ⟨by kernel_rfl, ?_⟩)))
      | (with_reducible refine xB_split (by simp [g0, g1, g2, g3, g4, g11, hlt]) (fun hgd => ?_) (fun hgd => ?_) <;> first | (exfalso; simp at hgd; done) | (exfalso; simp at hgd; omega) | simp -implicitDefEqProofs (maxSteps := 2000000) [hP, hN, g0, g1, g2, g3, g4, g11, hlt])
      | (with_reducible refine yB_split (by simp [g0, g1, g2, g3, g4, g11, hlt]) (fun hgd => ?_) (fun hgd => ?_) <;> first | (exfalso; simp at hgd; done) | (exfalso; simp at hgd; omega) | (simp -implicitDefEqProofs (maxSteps := 2000000) [hP, hN, g0, g1, g2, g3, g4, g11, hlt] <;> (try refine ⟨by kernel_rfl, ?_⟩)))
      | with_reducible refine xTwo_intro ?_ ?_
      | (with_reducible refine xCond_split (fun hcd => ?_) (fun hcd => ?_) <;> (try (exfalso; clear hP hN; simp_all; done)) <;> (try (exfalso; simp at *; omega)))
      | with_reducible refine WP.block ?_
      | (with_reducible ((first | refine WP.skip ?_ | refine WP.exit ?_ | refine WP.ret ?_); simp [g0, g1, g2, g3, g4, g11, hlt])))
theorem small_box {t : Tr} (hT : MTree t) {i : Nat} (hi : i < t.cells.length) : ∀ x ∈ boxAt t (i : Int), -40 ≤ x.1 ∧ x.1 ≤ 100 ∧ -40 ≤ x.2 ∧ x.2 ≤ 100 := by
  have key : ∀ (k : Nat) (L : OL), (∀ (j : Nat) b, L[j]? = some (some b) → ∀ x ∈ b, -40 ≤ x.1 ∧ x.1 ≤ 100 ∧ -40 ≤ x.2 ∧ x.2 ≤ 100) → ∀ c L', bStep t.cells.length k c L = some L' → L.length = t.cells.length → (∀ (j : Nat) b, L'[j]? = some (some b) → ∀ x ∈ b, -40 ≤ x.1 ∧ x.1 ≤ 100 ∧ -40 ≤ x.2 ∧ x.2 ≤ 100) := by
    intro k L hL c L' hs hl j b hb
    obtain ⟨b0, hb0, ⟨_, _, rfl⟩ | ⟨_, hin, hh, _, _, rfl⟩⟩ := bStep_some hs
    · exact hL j b hb
    · obtain ⟨y, hy, hv, h2, ea, ez⟩ := halve_eq hh
      have hyb := hL k b0 hb0 y (List.mem_of_getElem? hy)
      have hv' := validB_iff.1 hv
      rw [step_get hl hin] at hb
      split at hb
      · injection hb with hb; injection hb with hb; subst hb
        intro x hx
        rw [ez] at hx
        rcases List.mem_or_eq_of_mem_set hx with h | rfl
        · exact hL k b0 hb0 x h
        · simp only; omega
      · split at hb
        · injection hb with hb; injection hb with hb; subst hb
          intro x hx
          rw [ea] at hx
          rcases List.mem_or_eq_of_mem_set hx with h | rfl
          · exact hL k b0 hb0 x h
          · simp only; omega
        · exact hL j b hb
  obtain ⟨L, hL⟩ := Option.isSome_iff_exists.1 hT.valid
  have hP := boxes_ind (P := fun k M => BOk t k M ∧ ∀ (j : Nat) b, M[j]? = some (some b) → ∀ x ∈ b, -40 ≤ x.1 ∧ x.1 ≤ 100 ∧ -40 ≤ x.2 ∧ x.2 ≤ 100) hL ⟨bok_init (boxesO_size hL), fun j b hb => by
    cases j with
    | zero => simp [bInit] at hb; subst hb; intro x hx; have := hT.rng x hx; omega
    | succ j => simp [bInit, List.getElem?_replicate] at hb⟩ (fun k c M M' _ hp hm => ⟨bok_step hp.1 hm, key k M hp.2 c M' hm hp.1.len⟩)
  obtain ⟨b, hb⟩ := hP.1.pre i hi
  rw [boxAt_of hL hb]
  exact hP.2 i b hb
theorem small_pt {t : Tr} (hT : MTree t) {p : List Int} (hp : hasC t.root p = true) : ∀ y ∈ p, -40 ≤ y ∧ y ≤ 100 := by
  intro y hy
  obtain ⟨i, hi⟩ := List.mem_iff_getElem?.1 hy
  have hz := sizeOk_iff.1 (valid_size hT.valid)
  obtain ⟨l, m⟩ := (hasC_vi hz.2.2.2.2).1 hp
  have hil := (List.getElem?_eq_some_iff.1 hi).1
  have hx : t.root[i]? = some (t.root[i]'(by omega)) := List.getElem?_eq_getElem _
  have := m i _ y hx hi
  have := hT.rng _ (List.mem_of_getElem? hx)
  omega
theorem at_sm {t : Tr} (hT : MTree t) {i : Nat} (hi : i < t.cells.length) {p q : List Int} (hp : hasC t.root p = true) (hq : hasC t.root q = true) {n d : Int} (hf : Frac n d) (hd : d ≤ 8589934592) : AtS (boxAt t (i : Int)) p q n d := by
  obtain ⟨_, l, _⟩ := boxAt_ok hT.valid (c := (i : Int)) (by simpa using hi)
  have l1 := has_len hp
  have l2 := has_len hq
  have := hT.three
  have := hf.nn; have := hf.le
  exact ⟨by omega, by omega, by omega, fun x hx => by have := small_box hT hi x hx; omega, fun y hy => by have := small_pt hT hp y hy; omega, fun y hy => by have := small_pt hT hq y hy; omega, by omega, by omega, by omega, hd⟩
end Go.Ab
