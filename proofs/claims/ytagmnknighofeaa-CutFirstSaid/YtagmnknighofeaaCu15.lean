/- Made polylines, CutMeets: the walk. -/
import Derived.Test.YtagmnknighofeaaCu13
set_option linter.all false
namespace Go.Ab
open Go.Proofs
def nnI (l : List Int) : Nat → Nat
  | 0 => 0
  | k + 1 => nn l (nnI l k)
theorem nnI_le (l : List Int) (k : Nat) : nnI l k ≤ k := by
  induction k with
  | zero => exact Nat.le_refl _
  | succ k ih => have := nn_le l (nnI l k); simp only [nnI]; omega
def lnM (l : List Int) (w i : Nat) : List Int := (List.range w).map fun k => nx l (nnI l (i * w + k)) 1048576
def lineL (b : Bx) (n : Nat) (l : List Int) : List (List Int) := (List.range n).map fun i => inL b (lnM l (2 * b.length) i)
theorem lineL_len (b : Bx) (n : Nat) (l : List Int) : (lineL b n l).length = n := by simp [lineL]
theorem lineL_mem {b : Bx} {n : Nat} {l : List Int} (hv : allB vI b = true) : ∀ x ∈ lineL b n l, hasC b x = true := by
  intro x hx
  simp only [lineL, List.mem_map] at hx
  obtain ⟨i, _, rfl⟩ := hx
  exact in_has hv
theorem lineL_step {b : Bx} {n : Nat} {l : List Int} {i : Nat} (hi : i < n) : ((lineL b n l).map zs).take i ++ [zs (inL b (lnM l (2 * b.length) i))] = ((lineL b n l).map zs).take (i + 1) := by
  have h : i < ((lineL b n l).map zs).length := by simp [lineL, hi]
  rw [List.take_succ_eq_append_getElem h]
  simp [lineL]
set_option maxRecDepth 10000 in
set_option maxHeartbeats 8000000 in
theorem d58 (b : Bx) (n : Nat) (l : List Int) (hb : b.length ≤ 100) (hn : n ≤ 100) (hv : allB vI b = true) : DetH Try.prog 58 [.pv (iv b), .pv (Z n), .pv (zs l)] [] [] (.pv (.sl ((lineL b n l).map zs))) := by
  have cf := d71 l
  have hw2 : IntKind.i64.wrap (2 * (b.length : Int)) = ((2 * b.length : Nat) : Int) := by rw [show 2 * (b.length : Int) = ((2 * b.length : Nat) : Int) by omega]; exact wr_id (by omega) (by omega)
  refine detP_of Try.func58 rfl (by kernel_rfl) (by simp [Try.f58]) rfl ?_
  intro C hP hN
  simp only [Try.f58] at hN ⊢
  repeat' (first
    | with_reducible refine WP.seq ?_
    | (with_reducible ((first | refine WP.region (hn := [8]) ?_ | refine xC_intro (cf) ?_ | refine WP.cond' ?_); simp -implicitDefEqProofs (maxSteps := 2000000) [hP, hN, srcP]))
    | (with_reducible ((first | refine WP.draw (hn := [8]) (by rw [hP]; kernel_rfl) (by kernel_rfl) ?_ | refine yC_intro (cf) ?_); simp -implicitDefEqProofs (maxSteps := 2000000) [hP, hN, srcP]; (try refine ⟨by kernel_rfl, ?_⟩)))
    | (with_reducible refine xB_split (by simp [srcP]) (fun hgd => ?_) (fun hgd => ?_) <;> first | (exfalso; simp at hgd; done) | (exfalso; simp at hgd; omega) | simp -implicitDefEqProofs (maxSteps := 2000000) [hP, hN, srcP])
    | (with_reducible refine yB_split (by simp [srcP]) (fun hgd => ?_) (fun hgd => ?_) <;> first | (exfalso; simp at hgd; done) | (exfalso; simp at hgd; omega) | (simp -implicitDefEqProofs (maxSteps := 2000000) [hP, hN, srcP] <;> (try refine ⟨by kernel_rfl, ?_⟩)))
    | with_reducible refine xTwo_intro ?_ ?_
    | (with_reducible refine xCond_split (fun hcd => ?_) (fun hcd => ?_) <;> (try (exfalso; clear hP hN; simp_all; done)) <;> (try (exfalso; simp at *; omega)))
    | with_reducible refine WP.block ?_
    | (with_reducible ((first | refine WP.skip ?_ | refine WP.exit ?_ | refine WP.ret ?_); simp [srcP])))
  refine WP.loopN [10] n (fun i st => st.t 0 = .pv (iv b) ∧ st.t 1 = .pv (Z n) ∧ st.t 7 = .ptr 13 0 ∧ st.t 8 = .arr 8 i ∧ st.t 9 = .pv (Z i) ∧ st.h 13 = some (.box [.pv (zs l), .pv (Z (nnI l (i * (2 * b.length))))] true false) ∧ st.h 8 = some (.row 33 1 (((lineL b n l).map zs).take i) 0) ∧ st.h 10 = none) (by simp [nnI]) ?_
  rintro i st hi ⟨g0, g1, g7, g8, g9, hb13, hb8, hb10⟩
  have hzT : min i (lineL b n l).length = i := by rw [lineL_len]; omega
  by_cases hlt : i < n
  · have hw := wr_succ hlt (by omega)
    have hs := lineL_step (b := b) (l := l) hlt
    have hlm : (lnM l (2 * b.length) i).length = 2 * b.length := by simp [lnM]
    have ci := d26 b (lnM l (2 * b.length) i) (by omega) hv
    have hltZ : (i : Int) < n := by omega
    repeat' (first
      | with_reducible refine WP.seq ?_
      | (with_reducible ((first | refine WP.region (hn := [10]) ?_ | refine WP.cond' ?_); simp -implicitDefEqProofs (maxSteps := 2000000) [hP, hN, g0, g1, g7, g8, g9, hb13, hb8, hb10, hlt, hltZ]))
      | (with_reducible ((first | refine WP.draw (hn := [10]) (by rw [hP]; kernel_rfl) (by kernel_rfl) ?_); simp -implicitDefEqProofs (maxSteps := 2000000) [hP, hN, g0, g1, g7, g8, g9, hb13, hb8, hb10, hlt, hltZ]; (try refine ⟨by kernel_rfl, ?_⟩)))
      | (with_reducible refine xB_split (by simp [g0, g1, g7, g8, g9, hb13, hb8, hb10, hlt, hltZ]) (fun hgd => ?_) (fun hgd => ?_) <;> first | (exfalso; simp at hgd; done) | (exfalso; simp at hgd; omega) | simp -implicitDefEqProofs (maxSteps := 2000000) [hP, hN, g0, g1, g7, g8, g9, hb13, hb8, hb10, hlt, hltZ])
      | (with_reducible refine yB_split (by simp [g0, g1, g7, g8, g9, hb13, hb8, hb10, hlt, hltZ]) (fun hgd => ?_) (fun hgd => ?_) <;> first | (exfalso; simp at hgd; done) | (exfalso; simp at hgd; omega) | (simp -implicitDefEqProofs (maxSteps := 2000000) [hP, hN, g0, g1, g7, g8, g9, hb13, hb8, hb10, hlt, hltZ] <;> (try refine ⟨by kernel_rfl, ?_⟩)))
      | with_reducible refine xTwo_intro ?_ ?_
      | (with_reducible refine xCond_split (fun hcd => ?_) (fun hcd => ?_) <;> (try (exfalso; clear hP hN; simp_all; done)) <;> (try (exfalso; simp at *; omega)))
      | with_reducible refine WP.block ?_
      | (with_reducible ((first | refine WP.skip ?_ | refine WP.exit ?_ | refine WP.ret ?_); simp [g0, g1, g7, g8, g9, hb13, hb8, hb10, hlt, hltZ])))
    refine WP.loopN [] (2 * b.length) (fun k st => st.t 0 = .pv (iv b) ∧ st.t 1 = .pv (Z n) ∧ st.t 7 = .ptr 13 0 ∧ st.t 8 = .arr 8 i ∧ st.t 9 = .pv (Z i) ∧ st.t 10 = .arr 10 k ∧ st.t 11 = .pv (Z k) ∧ st.h 13 = some (.box [.pv (zs l), .pv (Z (nnI l (i * (2 * b.length) + k)))] true false) ∧ st.h 8 = some (.row 33 1 (((lineL b n l).map zs).take i) 0) ∧ st.h 10 = some (.row 3 1 (((lnM l (2 * b.length) i).map Z).take k) 0)) (by simp [g0, g1, g7, g8, g9, hb13, hb8]) ?_
    clear g0 g1 g7 g8 g9 hb13 hb8 hb10
    rintro k st' hk ⟨y0, y1, y7, y8, y9, y10, y11, yb13, yb8, yb10⟩
    have hzK : min k (lnM l (2 * b.length) i).length = k := by omega
    have hpos := nnI_le l (i * (2 * b.length) + k)
    have hprod : i * (2 * b.length) ≤ 100 * 200 := Nat.mul_le_mul (by omega) (by omega)
    by_cases hkl : k < 2 * b.length
    · have hwk := wr_succ hkl (by omega)
      have cn := d75 l (nnI l (i * (2 * b.length) + k)) 1048576 (by decide) (by omega)
      have hsn : nnI l (i * (2 * b.length) + (k + 1)) = nn l (nnI l (i * (2 * b.length) + k)) := rfl
      have hkm : k < (lnM l (2 * b.length) i).length := by omega
      have hsk : ((lnM l (2 * b.length) i).map Z).take k ++ [Z (nx l (nnI l (i * (2 * b.length) + k)) 1048576)] = ((lnM l (2 * b.length) i).map Z).take (k + 1) := by
        rw [List.take_succ_eq_append_getElem (by simpa using hkm)]; simp [lnM]
      have hkZ : (k : Int) < ((2 * b.length : Nat) : Int) := by omega
      generalize nnI l (i * (2 * b.length) + k) = pos at *
      generalize nnI l (i * (2 * b.length) + (k + 1)) = pos' at *
      repeat' (first
        | with_reducible refine WP.seq ?_
        | (with_reducible ((first | refine WP.region (hn := []) ?_ | refine xC_intro (cn) ?_ | refine WP.cond' ?_); simp -implicitDefEqProofs (maxSteps := 2000000) [hP, hN, srcP, y0, y1, y7, y8, y9, y10, y11, yb13, yb8, yb10, hw2, hkl, hkZ, hwk, hzK, show (k + 1) * 8 ≤ 140737488355328 by omega, show k + 1 ≤ 9223372036854775807 by omega]))
        | (with_reducible ((first | refine WP.draw (hn := []) (by rw [hP]; kernel_rfl) (by kernel_rfl) ?_ | refine yC_intro (cn) ?_); simp -implicitDefEqProofs (maxSteps := 2000000) [hP, hN, srcP, y0, y1, y7, y8, y9, y10, y11, yb13, yb8, yb10, hw2, hkl, hkZ, hwk, hzK, show (k + 1) * 8 ≤ 140737488355328 by omega, show k + 1 ≤ 9223372036854775807 by omega]; (try refine ⟨by kernel_rfl, ?_⟩)))
        | (with_reducible refine xB_split (by simp [srcP, y0, y1, y7, y8, y9, y10, y11, yb13, yb8, yb10, hw2, hkl, hkZ, hwk, hzK, show (k + 1) * 8 ≤ 140737488355328 by omega, show k + 1 ≤ 9223372036854775807 by omega]) (fun hgd => ?_) (fun hgd => ?_) <;> first | (exfalso; simp at hgd; done) | (exfalso; simp at hgd; omega) | simp -implicitDefEqProofs (maxSteps := 2000000) [hP, hN, srcP, y0, y1, y7, y8, y9, y10, y11, yb13, yb8, yb10, hw2, hkl, hkZ, hwk, hzK, show (k + 1) * 8 ≤ 140737488355328 by omega, show k + 1 ≤ 9223372036854775807 by omega])
        | (with_reducible refine yB_split (by simp [srcP, y0, y1, y7, y8, y9, y10, y11, yb13, yb8, yb10, hw2, hkl, hkZ, hwk, hzK, show (k + 1) * 8 ≤ 140737488355328 by omega, show k + 1 ≤ 9223372036854775807 by omega]) (fun hgd => ?_) (fun hgd => ?_) <;> first | (exfalso; simp at hgd; done) | (exfalso; simp at hgd; omega) | (simp -implicitDefEqProofs (maxSteps := 2000000) [hP, hN, srcP, y0, y1, y7, y8, y9, y10, y11, yb13, yb8, yb10, hw2, hkl, hkZ, hwk, hzK, show (k + 1) * 8 ≤ 140737488355328 by omega, show k + 1 ≤ 9223372036854775807 by omega] <;> (try refine ⟨by kernel_rfl, ?_⟩)))
        | with_reducible refine xTwo_intro ?_ ?_
        | (with_reducible refine xCond_split (fun hcd => ?_) (fun hcd => ?_) <;> (try (exfalso; clear hP hN; simp_all; done)) <;> (try (exfalso; simp at *; omega)))
        | with_reducible refine WP.block ?_
        | (with_reducible ((first | refine WP.skip ?_ | refine WP.exit ?_ | refine WP.ret ?_); simp [srcP, y0, y1, y7, y8, y9, y10, y11, yb13, yb8, yb10, hw2, hkl, hkZ, hwk, hzK, show (k + 1) * 8 ≤ 140737488355328 by omega, show k + 1 ≤ 9223372036854775807 by omega])))
      all_goals exact ⟨by rw [hsn], hsk⟩
    · have hk' : k = 2 * b.length := by omega
      subst hk'
      have htk : ((lnM l (2 * b.length) i).map Z).take (2 * b.length) = (lnM l (2 * b.length) i).map Z := List.take_of_length_le (by simp [hlm])
      rw [htk] at yb10
      have hkZ : ¬ ((2 * b.length : Nat) : Int) < ((2 * b.length : Nat) : Int) := by omega
      have hmul : (i + 1) * (2 * b.length) = i * (2 * b.length) + 2 * b.length := by rw [Nat.add_mul]; omega
      rw [← hmul] at yb13
      generalize inL b (lnM l (2 * b.length) i) = pt at *
      generalize lnM l (2 * b.length) i = M at *
      repeat' (first
        | with_reducible refine WP.seq ?_
        | (with_reducible ((first | refine WP.region (hn := []) ?_ | refine xC_intro (ci) ?_ | refine WP.cond' ?_); simp -implicitDefEqProofs (maxSteps := 2000000) [hP, hN, y0, y1, y7, y8, y9, y10, y11, yb13, yb8, yb10, hw2, hkl, hkZ, hlm, hw, hzT, show (i + 1) * 24 ≤ 140737488355328 by omega, show i + 1 ≤ 9223372036854775807 by omega]))
        | (with_reducible ((first | refine WP.draw (hn := []) (by rw [hP]; kernel_rfl) (by kernel_rfl) ?_ | refine yC_intro (ci) ?_); simp -implicitDefEqProofs (maxSteps := 2000000) [hP, hN, y0, y1, y7, y8, y9, y10, y11, yb13, yb8, yb10, hw2, hkl, hkZ, hlm, hw, hzT, show (i + 1) * 24 ≤ 140737488355328 by omega, show i + 1 ≤ 9223372036854775807 by omega]; (try refine ⟨by kernel_rfl, ?_⟩)))
        | (with_reducible refine xB_split (by simp [y0, y1, y7, y8, y9, y10, y11, yb13, yb8, yb10, hw2, hkl, hkZ, hlm, hw, hzT, show (i + 1) * 24 ≤ 140737488355328 by omega, show i + 1 ≤ 9223372036854775807 by omega]) (fun hgd => ?_) (fun hgd => ?_) <;> first | (exfalso; simp at hgd; done) | (exfalso; simp at hgd; omega) | simp -implicitDefEqProofs (maxSteps := 2000000) [hP, hN, y0, y1, y7, y8, y9, y10, y11, yb13, yb8, yb10, hw2, hkl, hkZ, hlm, hw, hzT, show (i + 1) * 24 ≤ 140737488355328 by omega, show i + 1 ≤ 9223372036854775807 by omega])
        | (with_reducible refine yB_split (by simp [y0, y1, y7, y8, y9, y10, y11, yb13, yb8, yb10, hw2, hkl, hkZ, hlm, hw, hzT, show (i + 1) * 24 ≤ 140737488355328 by omega, show i + 1 ≤ 9223372036854775807 by omega]) (fun hgd => ?_) (fun hgd => ?_) <;> first | (exfalso; simp at hgd; done) | (exfalso; simp at hgd; omega) | (simp -implicitDefEqProofs (maxSteps := 2000000) [hP, hN, y0, y1, y7, y8, y9, y10, y11, yb13, yb8, yb10, hw2, hkl, hkZ, hlm, hw, hzT, show (i + 1) * 24 ≤ 140737488355328 by omega, show i + 1 ≤ 9223372036854775807 by omega] <;> (try refine ⟨by kernel_rfl, ?_⟩)))
        | with_reducible refine xTwo_intro ?_ ?_
        | (with_reducible refine xCond_split (fun hcd => ?_) (fun hcd => ?_) <;> (try (exfalso; clear hP hN; simp_all; done)) <;> (try (exfalso; simp at *; omega)))
        | with_reducible refine WP.block ?_
        | (with_reducible ((first | refine WP.skip ?_ | refine WP.exit ?_ | refine WP.ret ?_); simp [y0, y1, y7, y8, y9, y10, y11, yb13, yb8, yb10, hw2, hkl, hkZ, hlm, hw, hzT, show (i + 1) * 24 ≤ 140737488355328 by omega, show i + 1 ≤ 9223372036854775807 by omega])))
      all_goals exact hs
  · have hi' : i = n := by omega
    subst hi'
    have htk : ((lineL b i l).map zs).take i = (lineL b i l).map zs := List.take_of_length_le (by simp [lineL_len])
    rw [htk] at hb8
    have hll := lineL_len b i l
    repeat' (first
      | with_reducible refine WP.seq ?_
      | (with_reducible ((first | refine WP.region (hn := []) ?_ | refine WP.cond' ?_); simp -implicitDefEqProofs (maxSteps := 2000000) [hP, hN, g0, g1, g7, g8, g9, hb13, hb8, hb10, hlt, hll]))
      | (with_reducible ((first | refine WP.draw (hn := []) (by rw [hP]; kernel_rfl) (by kernel_rfl) ?_); simp -implicitDefEqProofs (maxSteps := 2000000) [hP, hN, g0, g1, g7, g8, g9, hb13, hb8, hb10, hlt, hll]; (try refine ⟨by kernel_rfl, ?_⟩)))
      | (with_reducible refine xB_split (by simp [g0, g1, g7, g8, g9, hb13, hb8, hb10, hlt, hll]) (fun hgd => ?_) (fun hgd => ?_) <;> first | (exfalso; simp at hgd; done) | (exfalso; simp at hgd; omega) | simp -implicitDefEqProofs (maxSteps := 2000000) [hP, hN, g0, g1, g7, g8, g9, hb13, hb8, hb10, hlt, hll])
      | (with_reducible refine yB_split (by simp [g0, g1, g7, g8, g9, hb13, hb8, hb10, hlt, hll]) (fun hgd => ?_) (fun hgd => ?_) <;> first | (exfalso; simp at hgd; done) | (exfalso; simp at hgd; omega) | (simp -implicitDefEqProofs (maxSteps := 2000000) [hP, hN, g0, g1, g7, g8, g9, hb13, hb8, hb10, hlt, hll] <;> (try refine ⟨by kernel_rfl, ?_⟩)))
      | with_reducible refine xTwo_intro ?_ ?_
      | (with_reducible refine xCond_split (fun hcd => ?_) (fun hcd => ?_) <;> (try (exfalso; clear hP hN; simp_all; done)) <;> (try (exfalso; simp at *; omega)))
      | with_reducible refine WP.block ?_
      | (with_reducible ((first | refine WP.skip ?_ | refine WP.exit ?_ | refine WP.ret ?_); simp [g0, g1, g7, g8, g9, hb13, hb8, hb10, hlt, hll])))
end Go.Ab
