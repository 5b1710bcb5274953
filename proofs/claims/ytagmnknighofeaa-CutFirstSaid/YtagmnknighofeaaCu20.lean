/- CutFirst: the walk. -/
import Derived.Test.YtagmnknighofeaaCu19
set_option linter.all false
namespace Go.Ab
open Go.Proofs
set_option maxRecDepth 10000 in
set_option maxHeartbeats 16000000 in
theorem d15 (l m : List Int) (n k depth index : Int) : DetH Try.prog 15 [.pv (zs l), .pv (zs m), .pv (Z n), .pv (Z k), .pv (Z depth), .pv (Z index)] [] [] (.pv (B true)) := by
  have hT := mkTree_ok l
  have ct := d21 l
  generalize mkTree l = t at *
  have hv := hT.valid
  have hz := sizeOk_iff.1 (valid_size hv)
  have h27 := hT.cells
  have h3 := hT.three
  have ca := d56
  have hrg := round_range n (k := 5) (by decide) (by decide)
  have cr := d35 n 5 (by decide)
  obtain ⟨r, hr⟩ := Int.eq_ofNat_of_zero_le hrg.1
  rw [hr] at cr hrg
  obtain ⟨R, hR⟩ : ∃ R, 2 + r = R := ⟨_, rfl⟩
  have cl := d58 t.root R m (by omega) (by omega) hz.2.2.2.2
  have hll := lineL_len t.root R m
  have hlm := lineL_mem (n := R) (l := m) hz.2.2.2.2
  generalize lineL t.root R m = w at *
  have hok : meetOk t w = true := by
    simp only [meetOk, hv, Bool.true_and, Bool.and_eq_true, decide_eq_true_eq]
    exact ⟨⟨by omega, by omega⟩, allV_iff.2 hlm⟩
  have hw2 : IntKind.i64.wrap (2 + (r : Int)) = (R : Int) := by rw [show 2 + (r : Int) = (R : Int) by omega]; exact wr_id (by omega) (by omega)
  have cm := d60 t w (by omega) (by omega) (by omega)
  have hrk := round_range k (k := ((w.length : Int) - 1)) (by omega) (by omega)
  have ck := d35 k ((w.length : Int) - 1) (by omega)
  obtain ⟨i, hi⟩ := Int.eq_ofNat_of_zero_le hrk.1
  rw [hi] at ck hrk
  have hw1 : IntKind.i64.wrap ((w.length : Int) - 1) = (w.length : Int) - 1 := wr_id (by omega) (by omega)
  have hrd := round_range depth (k := 10) (by decide) (by decide)
  have cd := d35 depth 10 (by decide)
  obtain ⟨dd, hdd⟩ := Int.eq_ofNat_of_zero_le hrd.1
  rw [hdd] at cd hrd
  have hdd10 : dd < 10 := by omega
  obtain ⟨D, hD⟩ : ∃ D : Int, (2 : Int) ^ dd = D := ⟨_, rfl⟩
  have hD1 : 1 ≤ D ∧ D ≤ 512 := by
    rw [← hD]
    clear hD cd hdd hrd
    revert dd
    decide
  have hsh : IntKind.i64.wrap D = D := wr_id (by omega) (by omega)
  have hmin : min dd IntKind.i64.bits = dd := by simp only [IntKind.bits]; omega
  have hu : IntKind.u64.wrap (dd : Int) = dd := wu_id (by omega) (by omega)
  have hD2 : IntKind.i64.wrap (D + 1) = D + 1 := wr_id (by omega) (by omega)
  have hrx := round_range index (k := D + 1) (by omega) (by omega)
  have cx := d35 index (D + 1) (by omega)
  generalize roundI index (D + 1) = nu at *
  have hf : Frac nu D := ⟨by omega, by omega, by omega⟩
  have hwn : IntKind.i64.wrap nu = nu := wr_id (by omega) (by omega)
  have him : i + 1 < w.length := by omega
  have k1 := meet_sm hok (show i < w.length by omega)
  have k2 := meet_sm hok him
  have cat := fun (j : Nat) (hj : j < t.cells.length) => d62 (boxAt t (j : Int)) (lineAt w i) (lineAt w (i + 1)) nu D (at_sm hT hj k1 k2 hf (by omega))
  have cb := d52 t (by omega)
  rw [hv] at cb
  have hbl := boxesL_len hv
  have hm1 : i < w.length := by omega
  have hp1 : w[i]? = some (lineAt w i) := by simp [lineAt, List.getElem?_eq_getElem hm1]
  have hq1 : w[i + 1]? = some (lineAt w (i + 1)) := by simp [lineAt, List.getElem?_eq_getElem him]
  have hp1' := get_of hp1 hm1
  have hq1' := get_of hq1 him
  have hwi : IntKind.i64.wrap ((i : Int) + 1) = (i : Int) + 1 := wr_id (by omega) (by omega)
  have hi0 : (0 : Int) ≤ (i : Int) + 1 := by omega
  obtain ⟨res, hres⟩ : ∃ res, meetC t w = res := ⟨_, rfl⟩
  have hcl : ((match res with | none => true | some g => decide (i < g.1) || (decide (i = g.1) && decide (nu * g.2.1.2 < g.2.1.1 * D))) = true) → ∀ j, j < t.cells.length → colT t j = true → atB (boxAt t (j : Int)) (lineAt w i) (lineAt w (i + 1)) nu D = false := by
    intro hb j hj hc
    apply Bool.eq_false_iff.2
    rw [ne_eq, atB_iff]
    intro hpt
    cases res with
    | none => exact meetC_none hok hres him j nu D hj hc hf hpt
    | some g =>
      have hM := meetC_some hres
      simp only [Bool.or_eq_true, Bool.and_eq_true, decide_eq_true_eq] at hb
      rcases hb with hb | ⟨rfl, hb⟩
      · exact hM.before i hb j nu D hj hc hf hpt
      · have := hM.first j nu D hj hc hf hpt
        omega
  have hbd : ∀ g, res = some g → 0 ≤ g.2.1.1 ∧ g.2.1.1 ≤ g.2.1.2 ∧ g.2.1.2 ≤ 4294967296 := fun g hg => by
    rw [hg] at hres
    have hM := meetC_some hres
    exact ⟨hM.fr.nn, hM.fr.le, hM.small⟩
  rw [hres] at cm
  generalize lineAt w i = P at *
  generalize lineAt w (i + 1) = Q at *
  cases res with
  | none =>
    simp only [Option.getD_none, Option.isSome_none, mt0] at cm
    have hcl := hcl rfl
    refine detP_of Try.func15 rfl (by kernel_rfl) (by simp [Try.f15]) rfl ?_
    intro C hP hN
    simp only [Try.f15] at hN ⊢
    repeat' (first
      | with_reducible refine WP.seq ?_
      | (with_reducible ((first | refine WP.region (hn := []) ?_ | refine xC_intro (ct) ?_ | refine xC_intro (cr) ?_ | refine xC_intro (cl) ?_ | refine xC_intro (cm) ?_ | refine xC_intro (ck) ?_ | refine xC_intro (cd) ?_ | refine xC_intro (cx) ?_ | refine xC_intro (cb) ?_ | refine WP.cond' ?_); simp -implicitDefEqProofs (maxSteps := 2000000) [hP, hN, hw2, hw1, hsh, hmin, hu, hD2, hwn, hD]))
      | (with_reducible ((first | refine WP.draw (hn := []) (by rw [hP]; kernel_rfl) (by kernel_rfl) ?_ | refine yC_intro (ct) ?_ | refine yC_intro (cr) ?_ | refine yC_intro (cl) ?_ | refine yC_intro (cm) ?_ | refine yC_intro (ck) ?_ | refine yC_intro (cd) ?_ | refine yC_intro (cx) ?_ | refine yC_intro (cb) ?_); simp -implicitDefEqProofs (maxSteps := 2000000) [hP, hN, hw2, hw1, hsh, hmin, hu, hD2, hwn, hD]; (try refine ⟨by kernel_rfl, ?_⟩)))
      | (with_reducible refine xB_split (by simp [hw2, hw1, hsh, hmin, hu, hD2, hwn, hD]) (fun hgd => ?_) (fun hgd => ?_) <;> first | (exfalso; simp at hgd; done) | (exfalso; simp at hgd; omega) | simp -implicitDefEqProofs (maxSteps := 2000000) [hP, hN, hw2, hw1, hsh, hmin, hu, hD2, hwn, hD])
      | (with_reducible refine yB_split (by simp [hw2, hw1, hsh, hmin, hu, hD2, hwn, hD]) (fun hgd => ?_) (fun hgd => ?_) <;> first | (exfalso; simp at hgd; done) | (exfalso; simp at hgd; omega) | (simp -implicitDefEqProofs (maxSteps := 2000000) [hP, hN, hw2, hw1, hsh, hmin, hu, hD2, hwn, hD] <;> (try refine ⟨by kernel_rfl, ?_⟩)))
      | with_reducible refine xTwo_intro ?_ ?_
      | (with_reducible refine xCond_split (fun hcd => ?_) (fun hcd => ?_) <;> (try (exfalso; clear hP hN; simp_all; done)) <;> (try (exfalso; simp at *; omega)))
      | with_reducible refine WP.block ?_
      | (with_reducible ((first | refine WP.skip ?_ | refine WP.exit ?_ | refine WP.ret ?_); simp [hw2, hw1, hsh, hmin, hu, hD2, hwn, hD])))
    refine WP.loopN [] t.cells.length (fun j st => st.t 13 = .ptr 13 0 ∧ st.t 14 = .pv (.sl (w.map zs)) ∧ st.t 17 = .pv (Z i) ∧ st.t 19 = .pv (Z nu) ∧ st.t 20 = .pv (Z D) ∧ st.t 22 = .pv (.sl ((boxesL t).map iv)) ∧ st.t 24 = .pv (Z j) ∧ st.h 13 = some (.box [.pv (iv t.root), .pv (.sl (t.cells.map encC))] true false)) (by simp) ?_
    rintro j st hj ⟨g13, g14, g17, g19, g20, g22, g24, hb13⟩
    by_cases hlt : j < t.cells.length
    · have hw := wr_succ hlt (by omega)
      have hjb : j < (boxesL t).length := by omega
      obtain ⟨hbj, _, _⟩ := boxAt_ok hv (c := (j : Int)) (by simpa using hlt)
      rw [Int.toNat_natCast] at hbj
      have hbj' := get_of hbj hjb
      have hcj := hcl j hlt
      have catj := cat j hlt
      generalize hc : t.cells[j] = c at *
      have hci : t.cells[j]? = some c := by rw [List.getElem?_eq_getElem hlt, hc]
      have hct : colT t j = (c.v.kind == 2) := by rw [← col_kind hv hci]; simp [colT, hci]
      rw [hct] at hcj
      cases hkd : (c.v.kind == 2) with
      | false =>
        repeat' (first
          | with_reducible refine WP.seq ?_
          | (with_reducible ((first | refine WP.region (hn := []) ?_ | refine WP.cond' ?_); simp -implicitDefEqProofs (maxSteps := 2000000) [hP, hN, g13, g14, g17, g19, g20, g22, g24, hb13, hbl, hlt, hw, hci, hc, hkd]))
          | (with_reducible ((first | refine WP.draw (hn := []) (by rw [hP]; kernel_rfl) (by kernel_rfl) ?_); simp -implicitDefEqProofs (maxSteps := 2000000) [hP, hN, g13, g14, g17, g19, g20, g22, g24, hb13, hbl, hlt, hw, hci, hc, hkd]; (try refine ⟨by kernel_rfl, ?_⟩)))
          | (with_reducible refine xB_split (by simp [g13, g14, g17, g19, g20, g22, g24, hb13, hbl, hlt, hw, hci, hc, hkd]) (fun hgd => ?_) (fun hgd => ?_) <;> first | (exfalso; simp at hgd; done) | (exfalso; simp at hgd; omega) | simp -implicitDefEqProofs (maxSteps := 2000000) [hP, hN, g13, g14, g17, g19, g20, g22, g24, hb13, hbl, hlt, hw, hci, hc, hkd])
          | (with_reducible refine yB_split (by simp [g13, g14, g17, g19, g20, g22, g24, hb13, hbl, hlt, hw, hci, hc, hkd]) (fun hgd => ?_) (fun hgd => ?_) <;> first | (exfalso; simp at hgd; done) | (exfalso; simp at hgd; omega) | (simp -implicitDefEqProofs (maxSteps := 2000000) [hP, hN, g13, g14, g17, g19, g20, g22, g24, hb13, hbl, hlt, hw, hci, hc, hkd] <;> (try refine ⟨by kernel_rfl, ?_⟩)))
          | with_reducible refine xTwo_intro ?_ ?_
          | (with_reducible refine xCond_split (fun hcd => ?_) (fun hcd => ?_) <;> (try (exfalso; clear hP hN; simp_all; done)) <;> (try (exfalso; simp at *; omega)))
          | with_reducible refine WP.block ?_
          | (with_reducible ((first | refine WP.skip ?_ | refine WP.exit ?_ | refine WP.ret ?_); simp [g13, g14, g17, g19, g20, g22, g24, hb13, hbl, hlt, hw, hci, hc, hkd])))
      | true =>
        rw [hcj hkd] at catj
        repeat' (first
          | with_reducible refine WP.seq ?_
          | (with_reducible ((first | refine WP.region (hn := []) ?_ | refine xC_intro (catj) ?_ | refine WP.cond' ?_); simp -implicitDefEqProofs (maxSteps := 2000000) [hP, hN, g13, g14, g17, g19, g20, g22, g24, hb13, hbl, hlt, hw, hci, hc, hkd, hjb, hbj, hbj', hm1, him, hp1, hq1, hp1', hq1', hwi, hi0]))
          | (with_reducible ((first | refine WP.draw (hn := []) (by rw [hP]; kernel_rfl) (by kernel_rfl) ?_ | refine yC_intro (catj) ?_); simp -implicitDefEqProofs (maxSteps := 2000000) [hP, hN, g13, g14, g17, g19, g20, g22, g24, hb13, hbl, hlt, hw, hci, hc, hkd, hjb, hbj, hbj', hm1, him, hp1, hq1, hp1', hq1', hwi, hi0]; (try refine ⟨by kernel_rfl, ?_⟩)))
          | (with_reducible refine xB_split (by simp [g13, g14, g17, g19, g20, g22, g24, hb13, hbl, hlt, hw, hci, hc, hkd, hjb, hbj, hbj', hm1, him, hp1, hq1, hp1', hq1', hwi, hi0]) (fun hgd => ?_) (fun hgd => ?_) <;> first | (exfalso; simp at hgd; done) | (exfalso; simp at hgd; omega) | simp -implicitDefEqProofs (maxSteps := 2000000) [hP, hN, g13, g14, g17, g19, g20, g22, g24, hb13, hbl, hlt, hw, hci, hc, hkd, hjb, hbj, hbj', hm1, him, hp1, hq1, hp1', hq1', hwi, hi0])
          | (with_reducible refine yB_split (by simp [g13, g14, g17, g19, g20, g22, g24, hb13, hbl, hlt, hw, hci, hc, hkd, hjb, hbj, hbj', hm1, him, hp1, hq1, hp1', hq1', hwi, hi0]) (fun hgd => ?_) (fun hgd => ?_) <;> first | (exfalso; simp at hgd; done) | (exfalso; simp at hgd; omega) | (simp -implicitDefEqProofs (maxSteps := 2000000) [hP, hN, g13, g14, g17, g19, g20, g22, g24, hb13, hbl, hlt, hw, hci, hc, hkd, hjb, hbj, hbj', hm1, him, hp1, hq1, hp1', hq1', hwi, hi0] <;> (try refine ⟨by kernel_rfl, ?_⟩)))
          | with_reducible refine xTwo_intro ?_ ?_
          | (with_reducible refine xCond_split (fun hcd => ?_) (fun hcd => ?_) <;> (try (exfalso; clear hP hN; simp_all; done)) <;> (try (exfalso; simp at *; omega)))
          | with_reducible refine WP.block ?_
          | (with_reducible ((first | refine WP.skip ?_ | refine WP.exit ?_ | refine WP.ret ?_); simp [g13, g14, g17, g19, g20, g22, g24, hb13, hbl, hlt, hw, hci, hc, hkd, hjb, hbj, hbj', hm1, him, hp1, hq1, hp1', hq1', hwi, hi0])))
    · skip
      repeat' (first
        | with_reducible refine WP.seq ?_
        | (with_reducible ((first | refine WP.region (hn := []) ?_ | refine xC_intro (ca) ?_ | refine WP.cond' ?_); simp -implicitDefEqProofs (maxSteps := 2000000) [hP, hN, g13, g14, g17, g19, g20, g22, g24, hb13, hbl, hlt]))
        | (with_reducible ((first | refine WP.draw (hn := []) (by rw [hP]; kernel_rfl) (by kernel_rfl) ?_ | refine yC_intro (ca) ?_); simp -implicitDefEqProofs (maxSteps := 2000000) [hP, hN, g13, g14, g17, g19, g20, g22, g24, hb13, hbl, hlt]; (try refine ⟨by kernel_rfl, ?_⟩)))
        | (with_reducible refine xB_split (by simp [g13, g14, g17, g19, g20, g22, g24, hb13, hbl, hlt]) (fun hgd => ?_) (fun hgd => ?_) <;> first | (exfalso; simp at hgd; done) | (exfalso; simp at hgd; omega) | simp -implicitDefEqProofs (maxSteps := 2000000) [hP, hN, g13, g14, g17, g19, g20, g22, g24, hb13, hbl, hlt])
        | (with_reducible refine yB_split (by simp [g13, g14, g17, g19, g20, g22, g24, hb13, hbl, hlt]) (fun hgd => ?_) (fun hgd => ?_) <;> first | (exfalso; simp at hgd; done) | (exfalso; simp at hgd; omega) | (simp -implicitDefEqProofs (maxSteps := 2000000) [hP, hN, g13, g14, g17, g19, g20, g22, g24, hb13, hbl, hlt] <;> (try refine ⟨by kernel_rfl, ?_⟩)))
        | with_reducible refine xTwo_intro ?_ ?_
        | (with_reducible refine xCond_split (fun hcd => ?_) (fun hcd => ?_) <;> (try (exfalso; clear hP hN; simp_all; done)) <;> (try (exfalso; simp at *; omega)))
        | with_reducible refine WP.block ?_
        | (with_reducible ((first | refine WP.skip ?_ | refine WP.exit ?_ | refine WP.ret ?_); simp [g13, g14, g17, g19, g20, g22, g24, hb13, hbl, hlt])))
  | some g =>
    obtain ⟨mo, f, kk⟩ := g
    simp only [Option.getD_some, Option.isSome_some] at cm hcl
    obtain ⟨b1, b2, b3⟩ := hbd _ rfl
    simp only at b1 b2 b3
    have q1 : 0 ≤ nu * f.2 := Int.mul_nonneg hf.nn (by omega)
    have q2 : nu * f.2 ≤ 512 * 4294967296 := Int.mul_le_mul (by omega) b3 (by omega) (by decide)
    have q3 : 0 ≤ f.1 * D := Int.mul_nonneg b1 (by omega)
    have q4 : f.1 * D ≤ 4294967296 * 512 := Int.mul_le_mul (by omega) (by omega) (by omega) (by decide)
    have w1 : IntKind.i64.wrap (nu * f.2) = nu * f.2 := wr_id (by omega) (by omega)
    have w2 : IntKind.i64.wrap (f.1 * D) = f.1 * D := wr_id (by omega) (by omega)
    by_cases h1 : i < mo
    · have h1' : (i : Int) < mo := by omega
      have hcl := hcl (by simp [h1])
      refine detP_of Try.func15 rfl (by kernel_rfl) (by simp [Try.f15]) rfl ?_
      intro C hP hN
      simp only [Try.f15] at hN ⊢
      repeat' (first
        | with_reducible refine WP.seq ?_
        | (with_reducible ((first | refine WP.region (hn := []) ?_ | refine xC_intro (ct) ?_ | refine xC_intro (cr) ?_ | refine xC_intro (cl) ?_ | refine xC_intro (cm) ?_ | refine xC_intro (ck) ?_ | refine xC_intro (cd) ?_ | refine xC_intro (cx) ?_ | refine xC_intro (cb) ?_ | refine WP.cond' ?_); simp -implicitDefEqProofs (maxSteps := 2000000) [hP, hN, hw2, hw1, hsh, hmin, hu, hD2, hwn, hD, h1, h1']))
        | (with_reducible ((first | refine WP.draw (hn := []) (by rw [hP]; kernel_rfl) (by kernel_rfl) ?_ | refine yC_intro (ct) ?_ | refine yC_intro (cr) ?_ | refine yC_intro (cl) ?_ | refine yC_intro (cm) ?_ | refine yC_intro (ck) ?_ | refine yC_intro (cd) ?_ | refine yC_intro (cx) ?_ | refine yC_intro (cb) ?_); simp -implicitDefEqProofs (maxSteps := 2000000) [hP, hN, hw2, hw1, hsh, hmin, hu, hD2, hwn, hD, h1, h1']; (try refine ⟨by kernel_rfl, ?_⟩)))
        | (with_reducible refine xB_split (by simp [hw2, hw1, hsh, hmin, hu, hD2, hwn, hD, h1, h1']) (fun hgd => ?_) (fun hgd => ?_) <;> first | (exfalso; simp at hgd; done) | (exfalso; simp at hgd; omega) | simp -implicitDefEqProofs (maxSteps := 2000000) [hP, hN, hw2, hw1, hsh, hmin, hu, hD2, hwn, hD, h1, h1'])
        | (with_reducible refine yB_split (by simp [hw2, hw1, hsh, hmin, hu, hD2, hwn, hD, h1, h1']) (fun hgd => ?_) (fun hgd => ?_) <;> first | (exfalso; simp at hgd; done) | (exfalso; simp at hgd; omega) | (simp -implicitDefEqProofs (maxSteps := 2000000) [hP, hN, hw2, hw1, hsh, hmin, hu, hD2, hwn, hD, h1, h1'] <;> (try refine ⟨by kernel_rfl, ?_⟩)))
        | with_reducible refine xTwo_intro ?_ ?_
        | (with_reducible refine xCond_split (fun hcd => ?_) (fun hcd => ?_) <;> (try (exfalso; clear hP hN; simp_all; done)) <;> (try (exfalso; simp at *; omega)))
        | with_reducible refine WP.block ?_
        | (with_reducible ((first | refine WP.skip ?_ | refine WP.exit ?_ | refine WP.ret ?_); simp [hw2, hw1, hsh, hmin, hu, hD2, hwn, hD, h1, h1'])))
      refine WP.loopN [] t.cells.length (fun j st => st.t 13 = .ptr 13 0 ∧ st.t 14 = .pv (.sl (w.map zs)) ∧ st.t 17 = .pv (Z i) ∧ st.t 19 = .pv (Z nu) ∧ st.t 20 = .pv (Z D) ∧ st.t 22 = .pv (.sl ((boxesL t).map iv)) ∧ st.t 24 = .pv (Z j) ∧ st.h 13 = some (.box [.pv (iv t.root), .pv (.sl (t.cells.map encC))] true false)) (by simp) ?_
      rintro j st hj ⟨g13, g14, g17, g19, g20, g22, g24, hb13⟩
      by_cases hlt : j < t.cells.length
      · have hw := wr_succ hlt (by omega)
        have hjb : j < (boxesL t).length := by omega
        obtain ⟨hbj, _, _⟩ := boxAt_ok hv (c := (j : Int)) (by simpa using hlt)
        rw [Int.toNat_natCast] at hbj
        have hbj' := get_of hbj hjb
        have hcj := hcl j hlt
        have catj := cat j hlt
        generalize hc : t.cells[j] = c at *
        have hci : t.cells[j]? = some c := by rw [List.getElem?_eq_getElem hlt, hc]
        have hct : colT t j = (c.v.kind == 2) := by rw [← col_kind hv hci]; simp [colT, hci]
        rw [hct] at hcj
        cases hkd : (c.v.kind == 2) with
        | false =>
          repeat' (first
            | with_reducible refine WP.seq ?_
            | (with_reducible ((first | refine WP.region (hn := []) ?_ | refine WP.cond' ?_); simp -implicitDefEqProofs (maxSteps := 2000000) [hP, hN, g13, g14, g17, g19, g20, g22, g24, hb13, hbl, hlt, hw, hci, hc, hkd]))
            | (with_reducible ((first | refine WP.draw (hn := []) (by rw [hP]; kernel_rfl) (by kernel_rfl) ?_); simp -implicitDefEqProofs (maxSteps := 2000000) [hP, hN, g13, g14, g17, g19, g20, g22, g24, hb13, hbl, hlt, hw, hci, hc, hkd]; (try refine ⟨by kernel_rfl, ?_⟩)))
            | (with_reducible refine xB_split (by simp [g13, g14, g17, g19, g20, g22, g24, hb13, hbl, hlt, hw, hci, hc, hkd]) (fun hgd => ?_) (fun hgd => ?_) <;> first | (exfalso; simp at hgd; done) | (exfalso; simp at hgd; omega) | simp -implicitDefEqProofs (maxSteps := 2000000) [hP, hN, g13, g14, g17, g19, g20, g22, g24, hb13, hbl, hlt, hw, hci, hc, hkd])
            | (with_reducible refine yB_split (by simp [g13, g14, g17, g19, g20, g22, g24, hb13, hbl, hlt, hw, hci, hc, hkd]) (fun hgd => ?_) (fun hgd => ?_) <;> first | (exfalso; simp at hgd; done) | (exfalso; simp at hgd; omega) | (simp -implicitDefEqProofs (maxSteps := 2000000) [hP, hN, g13, g14, g17, g19, g20, g22, g24, hb13, hbl, hlt, hw, hci, hc, hkd] <;> (try refine ⟨by kernel_rfl, ?_⟩)))
            | with_reducible refine xTwo_intro ?_ ?_
            | (with_reducible refine xCond_split (fun hcd => ?_) (fun hcd => ?_) <;> (try (exfalso; clear hP hN; simp_all; done)) <;> (try (exfalso; simp at *; omega)))
            | with_reducible refine WP.block ?_
            | (with_reducible ((first | refine WP.skip ?_ | refine WP.exit ?_ | refine WP.ret ?_); simp [g13, g14, g17, g19, g20, g22, g24, hb13, hbl, hlt, hw, hci, hc, hkd])))
        | true =>
          rw [hcj hkd] at catj
          repeat' (first
            | with_reducible refine WP.seq ?_
            | (with_reducible ((first | refine WP.region (hn := []) ?_ | refine xC_intro (catj) ?_ | refine WP.cond' ?_); simp -implicitDefEqProofs (maxSteps := 2000000) [hP, hN, g13, g14, g17, g19, g20, g22, g24, hb13, hbl, hlt, hw, hci, hc, hkd, hjb, hbj, hbj', hm1, him, hp1, hq1, hp1', hq1', hwi, hi0]))
            | (with_reducible ((first | refine WP.draw (hn := []) (by rw [hP]; kernel_rfl) (by kernel_rfl) ?_ | refine yC_intro (catj) ?_); simp -implicitDefEqProofs (maxSteps := 2000000) [hP, hN, g13, g14, g17, g19, g20, g22, g24, hb13, hbl, hlt, hw, hci, hc, hkd, hjb, hbj, hbj', hm1, him, hp1, hq1, hp1', hq1', hwi, hi0]; (try refine ⟨by kernel_rfl, ?_⟩)))
            | (with_reducible refine xB_split (by simp [g13, g14, g17, g19, g20, g22, g24, hb13, hbl, hlt, hw, hci, hc, hkd, hjb, hbj, hbj', hm1, him, hp1, hq1, hp1', hq1', hwi, hi0]) (fun hgd => ?_) (fun hgd => ?_) <;> first | (exfalso; simp at hgd; done) | (exfalso; simp at hgd; omega) | simp -implicitDefEqProofs (maxSteps := 2000000) [hP, hN, g13, g14, g17, g19, g20, g22, g24, hb13, hbl, hlt, hw, hci, hc, hkd, hjb, hbj, hbj', hm1, him, hp1, hq1, hp1', hq1', hwi, hi0])
            | (with_reducible refine yB_split (by simp [g13, g14, g17, g19, g20, g22, g24, hb13, hbl, hlt, hw, hci, hc, hkd, hjb, hbj, hbj', hm1, him, hp1, hq1, hp1', hq1', hwi, hi0]) (fun hgd => ?_) (fun hgd => ?_) <;> first | (exfalso; simp at hgd; done) | (exfalso; simp at hgd; omega) | (simp -implicitDefEqProofs (maxSteps := 2000000) [hP, hN, g13, g14, g17, g19, g20, g22, g24, hb13, hbl, hlt, hw, hci, hc, hkd, hjb, hbj, hbj', hm1, him, hp1, hq1, hp1', hq1', hwi, hi0] <;> (try refine ⟨by kernel_rfl, ?_⟩)))
            | with_reducible refine xTwo_intro ?_ ?_
            | (with_reducible refine xCond_split (fun hcd => ?_) (fun hcd => ?_) <;> (try (exfalso; clear hP hN; simp_all; done)) <;> (try (exfalso; simp at *; omega)))
            | with_reducible refine WP.block ?_
            | (with_reducible ((first | refine WP.skip ?_ | refine WP.exit ?_ | refine WP.ret ?_); simp [g13, g14, g17, g19, g20, g22, g24, hb13, hbl, hlt, hw, hci, hc, hkd, hjb, hbj, hbj', hm1, him, hp1, hq1, hp1', hq1', hwi, hi0])))
      · skip
        repeat' (first
          | with_reducible refine WP.seq ?_
          | (with_reducible ((first | refine WP.region (hn := []) ?_ | refine xC_intro (ca) ?_ | refine WP.cond' ?_); simp -implicitDefEqProofs (maxSteps := 2000000) [hP, hN, g13, g14, g17, g19, g20, g22, g24, hb13, hbl, hlt]))
          | (with_reducible ((first | refine WP.draw (hn := []) (by rw [hP]; kernel_rfl) (by kernel_rfl) ?_ | refine yC_intro (ca) ?_); simp -implicitDefEqProofs (maxSteps := 2000000) [hP, hN, g13, g14, g17, g19, g20, g22, g24, hb13, hbl, hlt]; (try refine ⟨by kernel_rfl, ?_⟩)))
          | (with_reducible refine xB_split (by simp [g13, g14, g17, g19, g20, g22, g24, hb13, hbl, hlt]) (fun hgd => ?_) (fun hgd => ?_) <;> first | (exfalso; simp at hgd; done) | (exfalso; simp at hgd; omega) | simp -implicitDefEqProofs (maxSteps := 2000000) [hP, hN, g13, g14, g17, g19, g20, g22, g24, hb13, hbl, hlt])
          | (with_reducible refine yB_split (by simp [g13, g14, g17, g19, g20, g22, g24, hb13, hbl, hlt]) (fun hgd => ?_) (fun hgd => ?_) <;> first | (exfalso; simp at hgd; done) | (exfalso; simp at hgd; omega) | (simp -implicitDefEqProofs (maxSteps := 2000000) [hP, hN, g13, g14, g17, g19, g20, g22, g24, hb13, hbl, hlt] <;> (try refine ⟨by kernel_rfl, ?_⟩)))
          | with_reducible refine xTwo_intro ?_ ?_
          | (with_reducible refine xCond_split (fun hcd => ?_) (fun hcd => ?_) <;> (try (exfalso; clear hP hN; simp_all; done)) <;> (try (exfalso; simp at *; omega)))
          | with_reducible refine WP.block ?_
          | (with_reducible ((first | refine WP.skip ?_ | refine WP.exit ?_ | refine WP.ret ?_); simp [g13, g14, g17, g19, g20, g22, g24, hb13, hbl, hlt])))
    have h1' : ¬ (i : Int) < mo := by omega
    by_cases h2 : i = mo
    · have h2' : ((i : Int) == (mo : Int)) = true := by simp [h2]
      by_cases h3 : nu * f.2 < f.1 * D
      · have hcl := hcl (by simp [h2, h3])
        clear h2
        refine detP_of Try.func15 rfl (by kernel_rfl) (by simp [Try.f15]) rfl ?_
        intro C hP hN
        simp only [Try.f15] at hN ⊢
        repeat' (first
          | with_reducible refine WP.seq ?_
          | (with_reducible ((first | refine WP.region (hn := []) ?_ | refine xC_intro (ct) ?_ | refine xC_intro (cr) ?_ | refine xC_intro (cl) ?_ | refine xC_intro (cm) ?_ | refine xC_intro (ck) ?_ | refine xC_intro (cd) ?_ | refine xC_intro (cx) ?_ | refine xC_intro (cb) ?_ | refine WP.cond' ?_); simp -implicitDefEqProofs (maxSteps := 2000000) [hP, hN, hw2, hw1, hsh, hmin, hu, hD2, hwn, hD, h1, h1', h2', h3, w1, w2]))
          | (with_reducible ((first | refine WP.draw (hn := []) (by rw [hP]; kernel_rfl) (by kernel_rfl) ?_ | refine yC_intro (ct) ?_ | refine yC_intro (cr) ?_ | refine yC_intro (cl) ?_ | refine yC_intro (cm) ?_ | refine yC_intro (ck) ?_ | refine yC_intro (cd) ?_ | refine yC_intro (cx) ?_ | refine yC_intro (cb) ?_); simp -implicitDefEqProofs (maxSteps := 2000000) [hP, hN, hw2, hw1, hsh, hmin, hu, hD2, hwn, hD, h1, h1', h2', h3, w1, w2]; (try refine ⟨by kernel_rfl, ?_⟩)))
          | (with_reducible refine xB_split (by simp [hw2, hw1, hsh, hmin, hu, hD2, hwn, hD, h1, h1', h2', h3, w1, w2]) (fun hgd => ?_) (fun hgd => ?_) <;> first | (exfalso; simp at hgd; done) | (exfalso; simp at hgd; omega) | simp -implicitDefEqProofs (maxSteps := 2000000) [hP, hN, hw2, hw1, hsh, hmin, hu, hD2, hwn, hD, h1, h1', h2', h3, w1, w2])
          | (with_reducible refine yB_split (by simp [hw2, hw1, hsh, hmin, hu, hD2, hwn, hD, h1, h1', h2', h3, w1, w2]) (fun hgd => ?_) (fun hgd => ?_) <;> first | (exfalso; simp at hgd; done) | (exfalso; simp at hgd; omega) | (simp -implicitDefEqProofs (maxSteps := 2000000) [hP, hN, hw2, hw1, hsh, hmin, hu, hD2, hwn, hD, h1, h1', h2', h3, w1, w2] <;> (try refine ⟨by kernel_rfl, ?_⟩)))
          | with_reducible refine xTwo_intro ?_ ?_
          | (with_reducible refine xCond_split (fun hcd => ?_) (fun hcd => ?_) <;> (try (exfalso; clear hP hN; simp_all; done)) <;> (try (exfalso; simp at *; omega)))
          | with_reducible refine WP.block ?_
          | (with_reducible ((first | refine WP.skip ?_ | refine WP.exit ?_ | refine WP.ret ?_); simp [hw2, hw1, hsh, hmin, hu, hD2, hwn, hD, h1, h1', h2', h3, w1, w2])))
        refine WP.loopN [] t.cells.length (fun j st => st.t 13 = .ptr 13 0 ∧ st.t 14 = .pv (.sl (w.map zs)) ∧ st.t 17 = .pv (Z i) ∧ st.t 19 = .pv (Z nu) ∧ st.t 20 = .pv (Z D) ∧ st.t 22 = .pv (.sl ((boxesL t).map iv)) ∧ st.t 24 = .pv (Z j) ∧ st.h 13 = some (.box [.pv (iv t.root), .pv (.sl (t.cells.map encC))] true false)) (by simp) ?_
        rintro j st hj ⟨g13, g14, g17, g19, g20, g22, g24, hb13⟩
        by_cases hlt : j < t.cells.length
        · have hw := wr_succ hlt (by omega)
          have hjb : j < (boxesL t).length := by omega
          obtain ⟨hbj, _, _⟩ := boxAt_ok hv (c := (j : Int)) (by simpa using hlt)
          rw [Int.toNat_natCast] at hbj
          have hbj' := get_of hbj hjb
          have hcj := hcl j hlt
          have catj := cat j hlt
          generalize hc : t.cells[j] = c at *
          have hci : t.cells[j]? = some c := by rw [List.getElem?_eq_getElem hlt, hc]
          have hct : colT t j = (c.v.kind == 2) := by rw [← col_kind hv hci]; simp [colT, hci]
          rw [hct] at hcj
          cases hkd : (c.v.kind == 2) with
          | false =>
            repeat' (first
              | with_reducible refine WP.seq ?_
              | (with_reducible ((first | refine WP.region (hn := []) ?_ | refine WP.cond' ?_); simp -implicitDefEqProofs (maxSteps := 2000000) [hP, hN, g13, g14, g17, g19, g20, g22, g24, hb13, hbl, hlt, hw, hci, hc, hkd]))
              | (with_reducible ((first | refine WP.draw (hn := []) (by rw [hP]; kernel_rfl) (by kernel_rfl) ?_); simp -implicitDefEqProofs (maxSteps := 2000000) [hP, hN, g13, g14, g17, g19, g20, g22, g24, hb13, hbl, hlt, hw, hci, hc, hkd]; (try refine ⟨by kernel_rfl, ?_⟩)))
              | (with_reducible refine xB_split (by simp [g13, g14, g17, g19, g20, g22, g24, hb13, hbl, hlt, hw, hci, hc, hkd]) (fun hgd => ?_) (fun hgd => ?_) <;> first | (exfalso; simp at hgd; done) | (exfalso; simp at hgd; omega) | simp -implicitDefEqProofs (maxSteps := 2000000) [hP, hN, g13, g14, g17, g19, g20, g22, g24, hb13, hbl, hlt, hw, hci, hc, hkd])
              | (with_reducible refine yB_split (by simp [g13, g14, g17, g19, g20, g22, g24, hb13, hbl, hlt, hw, hci, hc, hkd]) (fun hgd => ?_) (fun hgd => ?_) <;> first | (exfalso; simp at hgd; done) | (exfalso; simp at hgd; omega) | (simp -implicitDefEqProofs (maxSteps := 2000000) [hP, hN, g13, g14, g17, g19, g20, g22, g24, hb13, hbl, hlt, hw, hci, hc, hkd] <;> (try refine ⟨by kernel_rfl, ?_⟩)))
              | with_reducible refine xTwo_intro ?_ ?_
              | (with_reducible refine xCond_split (fun hcd => ?_) (fun hcd => ?_) <;> (try (exfalso; clear hP hN; simp_all; done)) <;> (try (exfalso; simp at *; omega)))
              | with_reducible refine WP.block ?_
              | (with_reducible ((first | refine WP.skip ?_ | refine WP.exit ?_ | refine WP.ret ?_); simp [g13, g14, g17, g19, g20, g22, g24, hb13, hbl, hlt, hw, hci, hc, hkd])))
          | true =>
            rw [hcj hkd] at catj
            repeat' (first
              | with_reducible refine WP.seq ?_
              | (with_reducible ((first | refine WP.region (hn := []) ?_ | refine xC_intro (catj) ?_ | refine WP.cond' ?_); simp -implicitDefEqProofs (maxSteps := 2000000) [hP, hN, g13, g14, g17, g19, g20, g22, g24, hb13, hbl, hlt, hw, hci, hc, hkd, hjb, hbj, hbj', hm1, him, hp1, hq1, hp1', hq1', hwi, hi0]))
              | (with_reducible ((first | refine WP.draw (hn := []) (by rw [hP]; kernel_rfl) (by kernel_rfl) ?_ | refine yC_intro (catj) ?_); simp -implicitDefEqProofs (maxSteps := 2000000) [hP, hN, g13, g14, g17, g19, g20, g22, g24, hb13, hbl, hlt, hw, hci, hc, hkd, hjb, hbj, hbj', hm1, him, hp1, hq1, hp1', hq1', hwi, hi0]; (try refine ⟨by kernel_rfl, ?_⟩)))
              | (with_reducible refine xB_split (by simp [g13, g14, g17, g19, g20, g22, g24, hb13, hbl, hlt, hw, hci, hc, hkd, hjb, hbj, hbj', hm1, him, hp1, hq1, hp1', hq1', hwi, hi0]) (fun hgd => ?_) (fun hgd => ?_) <;> first | (exfalso; simp at hgd; done) | (exfalso; simp at hgd; omega) | simp -implicitDefEqProofs (maxSteps := 2000000) [hP, hN, g13, g14, g17, g19, g20, g22, g24, hb13, hbl, hlt, hw, hci, hc, hkd, hjb, hbj, hbj', hm1, him, hp1, hq1, hp1', hq1', hwi, hi0])
              | (with_reducible refine yB_split (by simp [g13, g14, g17, g19, g20, g22, g24, hb13, hbl, hlt, hw, hci, hc, hkd, hjb, hbj, hbj', hm1, him, hp1, hq1, hp1', hq1', hwi, hi0]) (fun hgd => ?_) (fun hgd => ?_) <;> first | (exfalso; simp at hgd; done) | (exfalso; simp at hgd; omega) | (simp -implicitDefEqProofs (maxSteps := 2000000) [hP, hN, g13, g14, g17, g19, g20, g22, g24, hb13, hbl, hlt, hw, hci, hc, hkd, hjb, hbj, hbj', hm1, him, hp1, hq1, hp1', hq1', hwi, hi0] <;> (try refine ⟨by kernel_rfl, ?_⟩)))
              | with_reducible refine xTwo_intro ?_ ?_
              | (with_reducible refine xCond_split (fun hcd => ?_) (fun hcd => ?_) <;> (try (exfalso; clear hP hN; simp_all; done)) <;> (try (exfalso; simp at *; omega)))
              | with_reducible refine WP.block ?_
              | (with_reducible ((first | refine WP.skip ?_ | refine WP.exit ?_ | refine WP.ret ?_); simp [g13, g14, g17, g19, g20, g22, g24, hb13, hbl, hlt, hw, hci, hc, hkd, hjb, hbj, hbj', hm1, him, hp1, hq1, hp1', hq1', hwi, hi0])))
        · skip
          repeat' (first
            | with_reducible refine WP.seq ?_
            | (with_reducible ((first | refine WP.region (hn := []) ?_ | refine xC_intro (ca) ?_ | refine WP.cond' ?_); simp -implicitDefEqProofs (maxSteps := 2000000) [hP, hN, g13, g14, g17, g19, g20, g22, g24, hb13, hbl, hlt]))
            | (with_reducible ((first | refine WP.draw (hn := []) (by rw [hP]; kernel_rfl) (by kernel_rfl) ?_ | refine yC_intro (ca) ?_); simp -implicitDefEqProofs (maxSteps := 2000000) [hP, hN, g13, g14, g17, g19, g20, g22, g24, hb13, hbl, hlt]; (try refine ⟨by kernel_rfl, ?_⟩)))
            | (with_reducible refine xB_split (by simp [g13, g14, g17, g19, g20, g22, g24, hb13, hbl, hlt]) (fun hgd => ?_) (fun hgd => ?_) <;> first | (exfalso; simp at hgd; done) | (exfalso; simp at hgd; omega) | simp -implicitDefEqProofs (maxSteps := 2000000) [hP, hN, g13, g14, g17, g19, g20, g22, g24, hb13, hbl, hlt])
            | (with_reducible refine yB_split (by simp [g13, g14, g17, g19, g20, g22, g24, hb13, hbl, hlt]) (fun hgd => ?_) (fun hgd => ?_) <;> first | (exfalso; simp at hgd; done) | (exfalso; simp at hgd; omega) | (simp -implicitDefEqProofs (maxSteps := 2000000) [hP, hN, g13, g14, g17, g19, g20, g22, g24, hb13, hbl, hlt] <;> (try refine ⟨by kernel_rfl, ?_⟩)))
            | with_reducible refine xTwo_intro ?_ ?_
            | (with_reducible refine xCond_split (fun hcd => ?_) (fun hcd => ?_) <;> (try (exfalso; clear hP hN; simp_all; done)) <;> (try (exfalso; simp at *; omega)))
            | with_reducible refine WP.block ?_
            | (with_reducible ((first | refine WP.skip ?_ | refine WP.exit ?_ | refine WP.ret ?_); simp [g13, g14, g17, g19, g20, g22, g24, hb13, hbl, hlt])))
      · clear h2
        refine detP_of Try.func15 rfl (by kernel_rfl) (by simp [Try.f15]) rfl ?_
        intro C hP hN
        simp only [Try.f15] at hN ⊢
        repeat' (first
          | with_reducible refine WP.seq ?_
          | (with_reducible ((first | refine WP.region (hn := []) ?_ | refine xC_intro (ct) ?_ | refine xC_intro (cr) ?_ | refine xC_intro (cl) ?_ | refine xC_intro (cm) ?_ | refine xC_intro (ck) ?_ | refine xC_intro (cd) ?_ | refine xC_intro (cx) ?_ | refine xC_intro (ca) ?_ | refine WP.cond' ?_); simp -implicitDefEqProofs (maxSteps := 2000000) [hP, hN, hw2, hw1, hsh, hmin, hu, hD2, hwn, hD, h1, h1', h2', h3, w1, w2]))
          | (with_reducible ((first | refine WP.draw (hn := []) (by rw [hP]; kernel_rfl) (by kernel_rfl) ?_ | refine yC_intro (ct) ?_ | refine yC_intro (cr) ?_ | refine yC_intro (cl) ?_ | refine yC_intro (cm) ?_ | refine yC_intro (ck) ?_ | refine yC_intro (cd) ?_ | refine yC_intro (cx) ?_ | refine yC_intro (ca) ?_); simp -implicitDefEqProofs (maxSteps := 2000000) [hP, hN, hw2, hw1, hsh, hmin, hu, hD2, hwn, hD, h1, h1', h2', h3, w1, w2]; (try refine ⟨by kernel_rfl, ?_⟩)))
          | (with_reducible refine xB_split (by simp [hw2, hw1, hsh, hmin, hu, hD2, hwn, hD, h1, h1', h2', h3, w1, w2]) (fun hgd => ?_) (fun hgd => ?_) <;> first | (exfalso; simp at hgd; done) | (exfalso; simp at hgd; omega) | simp -implicitDefEqProofs (maxSteps := 2000000) [hP, hN, hw2, hw1, hsh, hmin, hu, hD2, hwn, hD, h1, h1', h2', h3, w1, w2])
          | (with_reducible refine yB_split (by simp [hw2, hw1, hsh, hmin, hu, hD2, hwn, hD, h1, h1', h2', h3, w1, w2]) (fun hgd => ?_) (fun hgd => ?_) <;> first | (exfalso; simp at hgd; done) | (exfalso; simp at hgd; omega) | (simp -implicitDefEqProofs (maxSteps := 2000000) [hP, hN, hw2, hw1, hsh, hmin, hu, hD2, hwn, hD, h1, h1', h2', h3, w1, w2] <;> (try refine ⟨by kernel_rfl, ?_⟩)))
          | with_reducible refine xTwo_intro ?_ ?_
          | (with_reducible refine xCond_split (fun hcd => ?_) (fun hcd => ?_) <;> (try (exfalso; clear hP hN; simp_all; done)) <;> (try (exfalso; simp at *; omega)))
          | with_reducible refine WP.block ?_
          | (with_reducible ((first | refine WP.skip ?_ | refine WP.exit ?_ | refine WP.ret ?_); simp [hw2, hw1, hsh, hmin, hu, hD2, hwn, hD, h1, h1', h2', h3, w1, w2])))
    · have h2' : ((i : Int) == (mo : Int)) = false := by simp; omega
      refine detP_of Try.func15 rfl (by kernel_rfl) (by simp [Try.f15]) rfl ?_
      intro C hP hN
      simp only [Try.f15] at hN ⊢
      repeat' (first
        | with_reducible refine WP.seq ?_
        | (with_reducible ((first | refine WP.region (hn := []) ?_ | refine xC_intro (ct) ?_ | refine xC_intro (cr) ?_ | refine xC_intro (cl) ?_ | refine xC_intro (cm) ?_ | refine xC_intro (ck) ?_ | refine xC_intro (cd) ?_ | refine xC_intro (cx) ?_ | refine xC_intro (ca) ?_ | refine WP.cond' ?_); simp -implicitDefEqProofs (maxSteps := 2000000) [hP, hN, hw2, hw1, hsh, hmin, hu, hD2, hwn, hD, h1, h1', h2', w1, w2]))
        | (with_reducible ((first | refine WP.draw (hn := []) (by rw [hP]; kernel_rfl) (by kernel_rfl) ?_ | refine yC_intro (ct) ?_ | refine yC_intro (cr) ?_ | refine yC_intro (cl) ?_ | refine yC_intro (cm) ?_ | refine yC_intro (ck) ?_ | refine yC_intro (cd) ?_ | refine yC_intro (cx) ?_ | refine yC_intro (ca) ?_); simp -implicitDefEqProofs (maxSteps := 2000000) [hP, hN, hw2, hw1, hsh, hmin, hu, hD2, hwn, hD, h1, h1', h2', w1, w2]; (try refine ⟨by kernel_rfl, ?_⟩)))
        | (with_reducible refine xB_split (by simp [hw2, hw1, hsh, hmin, hu, hD2, hwn, hD, h1, h1', h2', w1, w2]) (fun hgd => ?_) (fun hgd => ?_) <;> first | (exfalso; simp at hgd; done) | (exfalso; simp at hgd; omega) | simp -implicitDefEqProofs (maxSteps := 2000000) [hP, hN, hw2, hw1, hsh, hmin, hu, hD2, hwn, hD, h1, h1', h2', w1, w2])
        | (with_reducible refine yB_split (by simp [hw2, hw1, hsh, hmin, hu, hD2, hwn, hD, h1, h1', h2', w1, w2]) (fun hgd => ?_) (fun hgd => ?_) <;> first | (exfalso; simp at hgd; done) | (exfalso; simp at hgd; omega) | (simp -implicitDefEqProofs (maxSteps := 2000000) [hP, hN, hw2, hw1, hsh, hmin, hu, hD2, hwn, hD, h1, h1', h2', w1, w2] <;> (try refine ⟨by kernel_rfl, ?_⟩)))
        | with_reducible refine xTwo_intro ?_ ?_
        | (with_reducible refine xCond_split (fun hcd => ?_) (fun hcd => ?_) <;> (try (exfalso; clear hP hN; simp_all; done)) <;> (try (exfalso; simp at *; omega)))
        | with_reducible refine WP.block ?_
        | (with_reducible ((first | refine WP.skip ?_ | refine WP.exit ?_ | refine WP.ret ?_); simp [hw2, hw1, hsh, hmin, hu, hD2, hwn, hD, h1, h1', h2', w1, w2])))
end Go.Ab
