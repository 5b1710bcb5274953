/- CutTopology, CutFirst: the walks, II. -/
import Derived.Test.YtagmnknighofeaaCu18
set_option linter.all false
namespace Go.Ab
open Go.Proofs
theorem refBoxOf (t : Tr) (k : Nat) (hv : validT t = true) (hlt : k < t.cells.length) : DetH Try.prog 61 [.pv (encT t), .pv (Z k)] [] [] (.pv (.tup [iv (boxAt t k), B true])) := by
  have hz := sizeOk_iff.1 (valid_size hv)
  have cb := d52 t (by omega)
  rw [hv] at cb
  have hbl := boxesL_len hv
  have hlt' : k < (boxesL t).length := by omega
  obtain ⟨hb1, hb2, _⟩ := boxAt_ok hv (c := (k : Int)) hlt
  have hb1' : (boxesL t)[k]? = some (boxAt t k) := hb1
  have hb3 := get_of hb1' hlt'
  have h1 : ¬ ((k : Int) < 0) := by omega
  have h2 : ¬ (t.cells.length ≤ k) := by omega
  refine detP_of Try.func61 rfl (by kernel_rfl) (by simp [Try.f61]) rfl ?_
  intro C hP hN
  simp only [Try.f61] at hN ⊢
  repeat' (first
    | with_reducible refine WP.seq ?_
    | (with_reducible ((first | refine WP.region (hn := []) ?_ | refine xC_intro (cb) ?_ | refine WP.cond' ?_); simp -implicitDefEqProofs (maxSteps := 2000000) [hP, hN, h1, h2, hbl, hlt, hlt', hb1', hb3]))
    | (with_reducible ((first | refine WP.draw (hn := []) (by rw [hP]; kernel_rfl) (by kernel_rfl) ?_ | refine yC_intro (cb) ?_); simp -implicitDefEqProofs (maxSteps := 2000000) [hP, hN, h1, h2, hbl, hlt, hlt', hb1', hb3]; (try refine ⟨by kernel_rfl, ?_⟩)))
    | (with_reducible refine xB_split (by simp [h1, h2, hbl, hlt, hlt', hb1', hb3]) (fun hgd => ?_) (fun hgd => ?_) <;> first | (exfalso; simp at hgd; done) | (exfalso; simp at hgd; omega) | simp -implicitDefEqProofs (maxSteps := 2000000) [hP, hN, h1, h2, hbl, hlt, hlt', hb1', hb3])
    | (with_reducible refine yB_split (by simp [h1, h2, hbl, hlt, hlt', hb1', hb3]) (fun hgd => ?_) (fun hgd => ?_) <;> first | (exfalso; simp at hgd; done) | (exfalso; simp at hgd; omega) | (simp -implicitDefEqProofs (maxSteps := 2000000) [hP, hN, h1, h2, hbl, hlt, hlt', hb1', hb3] <;> (try refine ⟨by kernel_rfl, ?_⟩)))
    | with_reducible refine xTwo_intro ?_ ?_
    | (with_reducible refine xCond_split (fun hcd => ?_) (fun hcd => ?_) <;> (try (exfalso; clear hP hN; simp_all; done)) <;> (try (exfalso; simp at *; omega)))
    | with_reducible refine WP.block ?_
    | (with_reducible ((first | refine WP.skip ?_ | refine WP.exit ?_ | refine WP.ret ?_); simp [h1, h2, hbl, hlt, hlt', hb1', hb3])))
theorem colT_get {t : Tr} {i : Nat} (h : colT t i = true) : ∃ c, t.cells[i]? = some c ∧ colB c = true := by
  unfold colT at h
  split at h
  · exact ⟨_, by assumption, h⟩
  · cases h
set_option maxRecDepth 10000 in
set_option maxHeartbeats 16000000 in
theorem d14 (l m o line : List Int) (n : Int) : DetH Try.prog 14 [.pv (zs l), .pv (zs m), .pv (zs o), .pv (zs line), .pv (Z n)] [] [] (.pv (B true)) := by
  have hT := mkTree_ok l
  have ct := d21 l
  generalize mkTree l = t at *
  have hv := hT.valid
  have hz := sizeOk_iff.1 (valid_size hv)
  have h27 := hT.cells
  have h3 := hT.three
  have c1 := d26 t.root m (by omega) hz.2.2.2.2
  have c2 := d26 t.root o (by omega) hz.2.2.2.2
  have hp := in_has (l := m) hz.2.2.2.2
  have hq := in_has (l := o) hz.2.2.2.2
  have ca := d56
  generalize inL t.root m = p at *
  generalize inL t.root o = q at *
  obtain ⟨U, hU⟩ := isF_ex t p
  have cs := d59 t p q U (by omega) (by omega) hU
  cases hs : sepOk t p q U with
  | false =>
    rw [hs] at cs
    refine detP_of Try.func14 rfl (by kernel_rfl) (by simp [Try.f14]) rfl ?_
    intro C hP hN
    simp only [Try.f14] at hN ⊢
    repeat' (first
      | with_reducible refine WP.seq ?_
      | (with_reducible ((first | refine WP.region (hn := []) ?_ | refine xC_intro (ct) ?_ | refine xC_intro (c1) ?_ | refine xC_intro (c2) ?_ | refine xC_intro (cs) ?_ | refine xC_intro (ca) ?_ | refine WP.cond' ?_); simp -implicitDefEqProofs (maxSteps := 2000000) [hP, hN]))
      | (with_reducible ((first | refine WP.draw (hn := []) (by rw [hP]; kernel_rfl) (by kernel_rfl) ?_ | refine yC_intro (ct) ?_ | refine yC_intro (c1) ?_ | refine yC_intro (c2) ?_ | refine yC_intro (cs) ?_ | refine yC_intro (ca) ?_); simp -implicitDefEqProofs (maxSteps := 2000000) [hP, hN]; (try refine ⟨by kernel_rfl, ?_⟩)))
      | (with_reducible refine xB_split (by simp) (fun hgd => ?_) (fun hgd => ?_) <;> first | (exfalso; simp at hgd; done) | (exfalso; simp at hgd; omega) | simp -implicitDefEqProofs (maxSteps := 2000000) [hP, hN])
      | (with_reducible refine yB_split (by simp) (fun hgd => ?_) (fun hgd => ?_) <;> first | (exfalso; simp at hgd; done) | (exfalso; simp at hgd; omega) | (simp -implicitDefEqProofs (maxSteps := 2000000) [hP, hN] <;> (try refine ⟨by kernel_rfl, ?_⟩)))
      | with_reducible refine xTwo_intro ?_ ?_
      | (with_reducible refine xCond_split (fun hcd => ?_) (fun hcd => ?_) <;> (try (exfalso; clear hP hN; simp_all; done)) <;> (try (exfalso; simp at *; omega)))
      | with_reducible refine WP.block ?_
      | (with_reducible ((first | refine WP.skip ?_ | refine WP.exit ?_ | refine WP.ret ?_); simp)))
  | true =>
  rw [hs] at cs
  have hrg := round_range n (k := 9) (by decide) (by decide)
  have cr := d35 n 9 (by decide)
  obtain ⟨r, hr⟩ := Int.eq_ofNat_of_zero_le hrg.1
  rw [hr] at cr hrg
  have cl := d58 t.root r line (by omega) (by omega) hz.2.2.2.2
  have hll := lineL_len t.root r line
  have hlm := lineL_mem (n := r) (l := line) hz.2.2.2.2
  generalize lineL t.root r line = W at *
  obtain ⟨w, hw⟩ : ∃ w, p :: (W ++ [q]) = w := ⟨_, rfl⟩
  have hwl : w.length = r + 2 := by rw [← hw]; simp [hll]
  have hwr : ∀ x ∈ w, hasC t.root x = true := by
    rw [← hw]
    intro x hx
    simp only [List.mem_cons, List.mem_append, List.not_mem_nil, or_false] at hx
    rcases hx with rfl | hx | rfl
    · exact hp
    · exact hlm x hx
    · exact hq
  have hok : meetOk t w = true := by
    simp only [meetOk, hv, Bool.true_and, Bool.and_eq_true, decide_eq_true_eq]
    exact ⟨⟨by omega, by omega⟩, allV_iff.2 hwr⟩
  have hw0 : lineAt w 0 = p := by rw [← hw]; rfl
  have hw1 : lineAt w (w.length - 1) = q := by rw [← hw]; simp [lineAt]
  obtain ⟨⟨mo, f, k⟩, hres⟩ := sep_meets hU hs hok hw0 hw1
  obtain ⟨r1, r2, r3, r4, r5, r6, _, _⟩ := meetC_some hres
  simp only at r1 r2 r3 r4 r5 r6
  have cm := d60 t w (by omega) (by omega) (by omega)
  rw [hres] at cm
  simp only [Option.getD_some, Option.isSome_some] at cm
  have hwz : zs p :: (W.map zs ++ [zs q]) = w.map zs := by rw [← hw]; simp
  have k1 := meet_sm hok (show mo < w.length by omega)
  have k2 := meet_sm hok r1
  have cat := d62 (boxAt t (k : Int)) (lineAt w mo) (lineAt w (mo + 1)) f.1 f.2 (at_sm hT r2 k1 k2 r4 (by omega))
  rw [atB_iff.2 r6] at cat
  have cb := refBoxOf t k hv r2
  obtain ⟨c, hc, hcb⟩ := colT_get r3
  rw [col_kind hv hc] at hcb
  have hc' := get_of hc r2
  have hm1 : mo < w.length := by omega
  have hm2 : mo + 1 < w.length := r1
  have hp1 : w[mo]? = some (lineAt w mo) := by simp [lineAt, List.getElem?_eq_getElem hm1]
  have hq1 : w[mo + 1]? = some (lineAt w (mo + 1)) := by simp [lineAt, List.getElem?_eq_getElem hm2]
  have hp1' := get_of hp1 hm1
  have hq1' := get_of hq1 hm2
  generalize lineAt w mo = P at *
  generalize lineAt w (mo + 1) = Q at *
  have f1 := r4.nn
  have f2 := r4.le
  have f3 := r4.pos
  have e0 : ¬ ((mo : Int) < 0) := by omega
  have e1 : ¬ ((w.length : Int) ≤ (mo : Int) + 1) := by omega
  have e2 : ¬ ((k : Int) < 0) := by omega
  have e3 : ¬ ((t.cells.length : Int) ≤ (k : Int)) := by omega
  have e4 : ¬ (f.2 < 1) := by omega
  have e5 : ¬ (f.1 < 0) := by omega
  have e6 : ¬ (f.2 < f.1) := by omega
  have e7 : IntKind.i64.wrap ((mo : Int) + 1) = (mo : Int) + 1 := wr_id (by omega) (by omega)
  have e8 : (0 : Int) ≤ (mo : Int) + 1 := by omega
  have e9 : W.length + 1 + 1 = w.length := by omega
  clear r4 r6
  have hx1 : (r + 1 = 1 + r) = True := eq_true (by omega)
  have hx2 : (r + 2 = 1 + r + 1) = True := eq_true (by omega)
  have hx3 : mo < 1 + r + 1 := by omega
  have hx4 : mo + 1 < 1 + r + 1 := by omega
  refine detP_of Try.func14 rfl (by kernel_rfl) (by simp [Try.f14]) rfl ?_
  intro C hP hN
  simp only [Try.f14] at hN ⊢
  repeat' (first
    | with_reducible refine WP.seq ?_
    | (with_reducible ((first | refine WP.region (hn := [36]) ?_ | refine xC_intro (ct) ?_ | refine xC_intro (c1) ?_ | refine xC_intro (c2) ?_ | refine xC_intro (cs) ?_ | refine xC_intro (ca) ?_ | refine xC_intro (cr) ?_ | refine xC_intro (cl) ?_ | refine xC_intro (cm) ?_ | refine xC_intro (cb) ?_ | refine xC_intro (cat) ?_ | refine WP.cond' ?_); simp -implicitDefEqProofs (maxSteps := 2000000) [hP, hN, hwz, hll, e0, e1, e2, e3, e4, e5, e6, e7, e8, e9, hc, hc', hcb, r2, hm1, hm2, hp1, hq1, hp1', hq1', hwl, hx1, hx2, hx3, hx4, show (1 + r) * 24 ≤ 140737488355328 by omega, show 1 + r ≤ 9223372036854775807 by omega, show (1 + r + 1) * 24 ≤ 140737488355328 by omega, show 1 + r + 1 ≤ 9223372036854775807 by omega]))
    | (with_reducible ((first | refine WP.draw (hn := [36]) (by rw [hP]; kernel_rfl) (by kernel_rfl) ?_ | refine yC_intro (ct) ?_ | refine yC_intro (c1) ?_ | refine yC_intro (c2) ?_ | refine yC_intro (cs) ?_ | refine yC_intro (ca) ?_ | refine yC_intro (cr) ?_ | refine yC_intro (cl) ?_ | refine yC_intro (cm) ?_ | refine yC_intro (cb) ?_ | refine yC_intro (cat) ?_); simp -implicitDefEqProofs (maxSteps := 2000000) [hP, hN, hwz, hll, e0, e1, e2, e3, e4, e5, e6, e7, e8, e9, hc, hc', hcb, r2, hm1, hm2, hp1, hq1, hp1', hq1', hwl, hx1, hx2, hx3, hx4, show (1 + r) * 24 ≤ 140737488355328 by omega, show 1 + r ≤ 9223372036854775807 by omega, show (1 + r + 1) * 24 ≤ 140737488355328 by omega, show 1 + r + 1 ≤ 9223372036854775807 by omega]; (try refine ⟨by kernel_rfl, ?_⟩)))
    | (with_reducible refine xB_split (by simp [hwz, hll, e0, e1, e2, e3, e4, e5, e6, e7, e8, e9, hc, hc', hcb, r2, hm1, hm2, hp1, hq1, hp1', hq1', hwl, hx1, hx2, hx3, hx4, show (1 + r) * 24 ≤ 140737488355328 by omega, show 1 + r ≤ 9223372036854775807 by omega, show (1 + r + 1) * 24 ≤ 140737488355328 by omega, show 1 + r + 1 ≤ 9223372036854775807 by omega]) (fun hgd => ?_) (fun hgd => ?_) <;> first | (exfalso; simp at hgd; done) | (exfalso; simp at hgd; omega) | simp -implicitDefEqProofs (maxSteps := 2000000) [hP, hN, hwz, hll, e0, e1, e2, e3, e4, e5, e6, e7, e8, e9, hc, hc', hcb, r2, hm1, hm2, hp1, hq1, hp1', hq1', hwl, hx1, hx2, hx3, hx4, show (1 + r) * 24 ≤ 140737488355328 by omega, show 1 + r ≤ 9223372036854775807 by omega, show (1 + r + 1) * 24 ≤ 140737488355328 by omega, show 1 + r + 1 ≤ 9223372036854775807 by omega])
    | (with_reducible refine yB_split (by simp [hwz, hll, e0, e1, e2, e3, e4, e5, e6, e7, e8, e9, hc, hc', hcb, r2, hm1, hm2, hp1, hq1, hp1', hq1', hwl, hx1, hx2, hx3, hx4, show (1 + r) * 24 ≤ 140737488355328 by omega, show 1 + r ≤ 9223372036854775807 by omega, show (1 + r + 1) * 24 ≤ 140737488355328 by omega, show 1 + r + 1 ≤ 9223372036854775807 by omega]) (fun hgd => ?_) (fun hgd => ?_) <;> first | (exfalso; simp at hgd; done) | (exfalso; simp at hgd; omega) | (simp -implicitDefEqProofs (maxSteps := 2000000) [hP, hN, hwz, hll, e0, e1, e2, e3, e4, e5, e6, e7, e8, e9, hc, hc', hcb, r2, hm1, hm2, hp1, hq1, hp1', hq1', hwl, hx1, hx2, hx3, hx4, show (1 + r) * 24 ≤ 140737488355328 by omega, show 1 + r ≤ 9223372036854775807 by omega, show (1 + r + 1) * 24 ≤ 140737488355328 by omega, show 1 + r + 1 ≤ 9223372036854775807 by omega] <;> (try refine ⟨by kernel_rfl, ?_⟩)))
    | with_reducible refine xTwo_intro ?_ ?_
    | (with_reducible refine xCond_split (fun hcd => ?_) (fun hcd => ?_) <;> (try (exfalso; clear hP hN; simp_all; done)) <;> (try (exfalso; simp at *; omega)))
    | with_reducible refine WP.block ?_
    | (with_reducible ((first | refine WP.skip ?_ | refine WP.exit ?_ | refine WP.ret ?_); simp [hwz, hll, e0, e1, e2, e3, e4, e5, e6, e7, e8, e9, hc, hc', hcb, r2, hm1, hm2, hp1, hq1, hp1', hq1', hwl, hx1, hx2, hx3, hx4, show (1 + r) * 24 ≤ 140737488355328 by omega, show 1 + r ≤ 9223372036854775807 by omega, show (1 + r + 1) * 24 ≤ 140737488355328 by omega, show 1 + r + 1 ≤ 9223372036854775807 by omega])))
end Go.Ab
