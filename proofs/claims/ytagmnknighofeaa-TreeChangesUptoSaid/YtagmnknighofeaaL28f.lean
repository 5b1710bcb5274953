/- TreeChanges: the walk. -/
import Derived.Test.YtagmnknighofeaaL28e
set_option linter.all false
namespace Go.Ab
open Go.Proofs
/-- A tree of a given size. -/
structure TLe (n : Nat) (t : Tr) : Prop where
  root : t.root.length ≤ n
  cells : t.cells.length ≤ n
  vs : VsLe n t
theorem TLe.sm {n : Nat} {t : Tr} (h : TLe n t) (hn : n ≤ 16777216) : TSm t := ⟨by have := h.root; omega, by have := h.cells; omega, fun c hc => by
  obtain ⟨h1, h2, h3⟩ := h.vs c hc
  exact ⟨by omega, by omega, by omega⟩⟩
theorem splitT_root (t : Tr) (i j : Int) : (splitT t i j).root = t.root := by unfold splitT; split <;> rfl
theorem splitT_len (t : Tr) (i j : Int) : (splitT t i j).cells.length ≤ t.cells.length + 2 := by
  unfold splitT; split
  · rw [splitC_len]; exact Nat.le_refl _
  · omega
theorem settleT_root (t : Tr) (i : Int) (v : Verd) : (settleT t i v).root = t.root := by unfold settleT; split <;> rfl
theorem settleT_len (t : Tr) (i : Int) (v : Verd) : (settleT t i v).cells.length = t.cells.length := by
  unfold settleT; split
  · simp [settleC]
  · rfl
theorem vBig_of {n : Nat} {t : Tr} (h : VsLe n t) (hn : n ≤ 16777216) : ∀ c ∈ t.cells, vBig c.v := fun c hc => by
  obtain ⟨h1, h2, h3⟩ := h c hc
  exact ⟨by omega, by omega, by omega⟩
set_option maxHeartbeats 8000000 in
theorem d36 (t : Tr) (i j : Int) (v : Verd) (ht : TLe 16777216 t) (hv : vLe 16777216 v) : DetH Try.prog 36 [.pv (encT t), .pv (Z i), .pv (Z j), .pv (encVd v)] [] [] (.pv (B true)) := by
  have hsm := ht.sm (Nat.le_refl _)
  have h1 := ht.root
  have h2 := ht.cells
  have c1 := d38 t i j hsm
  have c2 := d89 t i j (by omega)
  have c3 := d39 t i v hsm hv
  have c4 := d90 t i v (by omega)
  have e1 := splitT_root t i j
  have e2 := splitT_len t i j
  have e3 := settleT_root t i v
  have e4 := settleT_len t i v
  have c5 := sameTree (splitT t i j) (by rw [e1]; omega) (by omega) (vBig_of (split_vs ht.vs i j) (Nat.le_refl _))
  have c6 := sameTree (settleT t i v) (by rw [e3]; omega) (by omega) (vBig_of (settle_vs ht.vs i hv) (Nat.le_refl _))
  generalize splitT t i j = T1 at *
  generalize settleT t i v = T2 at *
  generalize splitOk t i j = o1 at *
  generalize settleOk t i v = o2 at *
  refine detP_of Try.func36 rfl (by kernel_rfl) (by simp [Try.f36]) rfl ?_
  intro C hP hN
  simp only [Try.f36] at hN ⊢
  repeat' (first
    | with_reducible refine WP.seq ?_
    | (with_reducible ((first | refine WP.region (hn := []) ?_ | refine xC_intro (c1) ?_ | refine xC_intro (c2) ?_ | refine xC_intro (c3) ?_ | refine xC_intro (c4) ?_ | refine xC_intro (c5) ?_ | refine xC_intro (c6) ?_ | refine WP.cond' ?_); simp -implicitDefEqProofs (maxSteps := 2000000) [hP, hN]))
    | (with_reducible ((first | refine WP.draw (hn := []) (by rw [hP]; kernel_rfl) (by kernel_rfl) ?_ | refine yC_intro (c1) ?_ | refine yC_intro (c2) ?_ | refine yC_intro (c3) ?_ | refine yC_intro (c4) ?_ | refine yC_intro (c5) ?_ | refine yC_intro (c6) ?_); simp -implicitDefEqProofs (maxSteps := 2000000) [hP, hN]; (try refine ⟨by kernel_rfl, ?_⟩)))
    | (with_reducible refine xB_split (by simp) (fun hgd => ?_) (fun hgd => ?_) <;> first | (exfalso; simp at hgd; done) | (exfalso; simp at hgd; omega) | simp -implicitDefEqProofs (maxSteps := 2000000) [hP, hN])
    | (with_reducible refine yB_split (by simp) (fun hgd => ?_) (fun hgd => ?_) <;> first | (exfalso; simp at hgd; done) | (exfalso; simp at hgd; omega) | (simp -implicitDefEqProofs (maxSteps := 2000000) [hP, hN] <;> (try refine ⟨by kernel_rfl, ?_⟩)))
    | with_reducible refine xTwo_intro ?_ ?_
    | (with_reducible refine xCond_split (fun hcd => ?_) (fun hcd => ?_) <;> (try (exfalso; clear hP hN; simp_all; done)) <;> (try (exfalso; simp at *; omega)))
    | with_reducible refine WP.block ?_
    | (with_reducible ((first | refine WP.skip ?_ | refine WP.exit ?_ | refine WP.ret ?_); simp)))
set_option maxRecDepth 10000 in
set_option maxHeartbeats 16000000 in
theorem d6 (any : Tr) (i joint : Int) (v : Verd) (l : List Int) (how at_ x kind : Int) (ha : TLe 16777216 any) (hv : vLe 16777216 v) : DetH Try.prog 6 [.pv (encT any), .pv (Z i), .pv (Z joint), .pv (encVd v), .pv (zs l), .pv (Z how), .pv (Z at_), .pv (Z x), .pv (Z kind)] [] [] (.pv (B true)) := by
  have cS := d19 any
  cases hs : (decide (any.root.length ≤ 12) && decide (any.cells.length ≤ 60)) with
  | false =>
    rw [hs] at cS
    refine detP_of Try.func6 rfl (by kernel_rfl) (by simp [Try.f6]) rfl ?_
    intro C hP hN
    simp only [Try.f6] at hN ⊢
    repeat' (first
      | with_reducible refine WP.seq ?_
      | (with_reducible ((first | refine WP.region (hn := []) ?_ | refine xC_intro (cS) ?_ | refine xC_intro (d20) ?_ | refine WP.cond' ?_); simp -implicitDefEqProofs (maxSteps := 2000000) [hP, hN]))
      | (with_reducible ((first | refine WP.draw (hn := []) (by rw [hP]; kernel_rfl) (by kernel_rfl) ?_ | refine yC_intro (cS) ?_ | refine yC_intro (d20) ?_); simp -implicitDefEqProofs (maxSteps := 2000000) [hP, hN]; (try refine ⟨by kernel_rfl, ?_⟩)))
      | (with_reducible refine xB_split (by simp) (fun hgd => ?_) (fun hgd => ?_) <;> first | (exfalso; simp at hgd; done) | (exfalso; simp at hgd; omega) | simp -implicitDefEqProofs (maxSteps := 2000000) [hP, hN])
      | (with_reducible refine yB_split (by simp) (fun hgd => ?_) (fun hgd => ?_) <;> first | (exfalso; simp at hgd; done) | (exfalso; simp at hgd; omega) | (simp -implicitDefEqProofs (maxSteps := 2000000) [hP, hN] <;> (try refine ⟨by kernel_rfl, ?_⟩)))
      | with_reducible refine xTwo_intro ?_ ?_
      | (with_reducible refine xCond_split (fun hcd => ?_) (fun hcd => ?_) <;> (try (exfalso; clear hP hN; simp_all; done)) <;> (try (exfalso; simp at *; omega)))
      | with_reducible refine WP.block ?_
      | (with_reducible ((first | refine WP.skip ?_ | refine WP.exit ?_ | refine WP.ret ?_); simp)))
  | true =>
    rw [hs] at cS
    simp only [Bool.and_eq_true, decide_eq_true_eq] at hs
    by_cases hr : (20 : Int) < v.nor.length
    · skip
      refine detP_of Try.func6 rfl (by kernel_rfl) (by simp [Try.f6]) rfl ?_
      intro C hP hN
      simp only [Try.f6] at hN ⊢
      repeat' (first
        | with_reducible refine WP.seq ?_
        | (with_reducible ((first | refine WP.region (hn := []) ?_ | refine xC_intro (cS) ?_ | refine xC_intro (d20) ?_ | refine WP.cond' ?_); simp -implicitDefEqProofs (maxSteps := 2000000) [hP, hN, hr]))
        | (with_reducible ((first | refine WP.draw (hn := []) (by rw [hP]; kernel_rfl) (by kernel_rfl) ?_ | refine yC_intro (cS) ?_ | refine yC_intro (d20) ?_); simp -implicitDefEqProofs (maxSteps := 2000000) [hP, hN, hr]; (try refine ⟨by kernel_rfl, ?_⟩)))
        | (with_reducible refine xB_split (by simp [hr]) (fun hgd => ?_) (fun hgd => ?_) <;> first | (exfalso; simp at hgd; done) | (exfalso; simp at hgd; omega) | simp -implicitDefEqProofs (maxSteps := 2000000) [hP, hN, hr])
        | (with_reducible refine yB_split (by simp [hr]) (fun hgd => ?_) (fun hgd => ?_) <;> first | (exfalso; simp at hgd; done) | (exfalso; simp at hgd; omega) | (simp -implicitDefEqProofs (maxSteps := 2000000) [hP, hN, hr] <;> (try refine ⟨by kernel_rfl, ?_⟩)))
        | with_reducible refine xTwo_intro ?_ ?_
        | (with_reducible refine xCond_split (fun hcd => ?_) (fun hcd => ?_) <;> (try (exfalso; clear hP hN; simp_all; done)) <;> (try (exfalso; simp at *; omega)))
        | with_reducible refine WP.block ?_
        | (with_reducible ((first | refine WP.skip ?_ | refine WP.exit ?_ | refine WP.ret ?_); simp [hr])))
    · have hT := mkTree_ok l
      have hvs := mkTree_vs l
      have ct := d21 l
      generalize mkTree l = t at *
      obtain ⟨u, cu, hu⟩ := altered_ok t how at_ x hT.tiny
      have h27 := hT.cells
      have h3 := hT.three
      have hu1 := hu.root
      have hu2 := hu.cells
      have big : ∀ {t : Tr}, VsLe 16 t → VsLe 16777216 t := fun h c hc => by
        obtain ⟨h1, h2, h3⟩ := h c hc
        exact ⟨by omega, by omega, by omega⟩
      have ht1 : TLe 16777216 t := ⟨by omega, by omega, big hvs⟩
      have ht2 : TLe 16777216 u := ⟨by omega, by omega, big (hu.vs hvs)⟩
      obtain ⟨y, hy, hyl⟩ := rndNat (i := i) (n := t.cells.length + 2) (by omega) (by omega)
      obtain ⟨z, hz, hzl⟩ := rndNat (i := joint) (n := t.root.length + 2) (by omega) (by omega)
      rw [Int.natCast_add] at hy
      have cr := d35 i ((t.cells.length : Int) + 2) (by omega)
      rw [Int.natCast_add] at hz
      have cj := d35 joint ((t.root.length : Int) + 2) (by omega)
      have ck := d35 kind 4 (by decide)
      rw [show roundI i ((t.cells.length : Int) + 2) = (y : Int) from hy] at cr
      rw [show roundI joint ((t.root.length : Int) + 2) = (z : Int) from hz] at cj
      generalize roundI kind 4 = kk at *
      have cL := d37 kk
      have hll := label_le kk
      have hlv : vLe 16777216 (labelV kk) := ⟨by have := hll.1; omega, by have := hll.2.1; omega, by have := hll.2.2; omega⟩
      generalize labelV kk = lv at *
      have w1 : IntKind.i64.wrap ((t.cells.length : Int) + 2) = (t.cells.length : Int) + 2 := wr_id (by omega) (by omega)
      have w2 : IntKind.i64.wrap ((y : Int) - 1) = (y : Int) - 1 := wr_id (by omega) (by omega)
      have w3 : IntKind.i64.wrap ((t.root.length : Int) + 2) = (t.root.length : Int) + 2 := wr_id (by omega) (by omega)
      have w4 : IntKind.i64.wrap ((z : Int) - 1) = (z : Int) - 1 := wr_id (by omega) (by omega)
      have c1 := d36 any i joint v ha hv
      have c2 := d36 t ((y : Int) - 1) ((z : Int) - 1) v ht1 hv
      have c3 := d36 t ((y : Int) - 1) ((z : Int) - 1) lv ht1 hlv
      have c4 := d36 u ((y : Int) - 1) ((z : Int) - 1) lv ht2 hlv
      refine detP_of Try.func6 rfl (by kernel_rfl) (by simp [Try.f6]) rfl ?_
      intro C hP hN
      simp only [Try.f6] at hN ⊢
      repeat' (first
        | with_reducible refine WP.seq ?_
        | (with_reducible ((first | refine WP.region (hn := []) ?_ | refine xC_intro (cS) ?_ | refine xC_intro (ct) ?_ | refine xC_intro (cr) ?_ | refine xC_intro (cj) ?_ | refine xC_intro (d20) ?_ | refine xC_intro (c1) ?_ | refine xC_intro (c2) ?_ | refine xC_intro (ck) ?_ | refine xC_intro (cL) ?_ | refine xC_intro (c3) ?_ | refine xC_intro (cu) ?_ | refine xC_intro (c4) ?_ | refine WP.cond' ?_); simp -implicitDefEqProofs (maxSteps := 2000000) [hP, hN, hr, w1, w2, w3, w4]))
        | (with_reducible ((first | refine WP.draw (hn := []) (by rw [hP]; kernel_rfl) (by kernel_rfl) ?_ | refine yC_intro (cS) ?_ | refine yC_intro (ct) ?_ | refine yC_intro (cr) ?_ | refine yC_intro (cj) ?_ | refine yC_intro (d20) ?_ | refine yC_intro (c1) ?_ | refine yC_intro (c2) ?_ | refine yC_intro (ck) ?_ | refine yC_intro (cL) ?_ | refine yC_intro (c3) ?_ | refine yC_intro (cu) ?_ | refine yC_intro (c4) ?_); simp -implicitDefEqProofs (maxSteps := 2000000) [hP, hN, hr, w1, w2, w3, w4]; (try refine ⟨by kernel_rfl, ?_⟩)))
        | (with_reducible refine xB_split (by simp [hr, w1, w2, w3, w4]) (fun hgd => ?_) (fun hgd => ?_) <;> first | (exfalso; simp at hgd; done) | (exfalso; simp at hgd; omega) | simp -implicitDefEqProofs (maxSteps := 2000000) [hP, hN, hr, w1, w2, w3, w4])
        | (with_reducible refine yB_split (by simp [hr, w1, w2, w3, w4]) (fun hgd => ?_) (fun hgd => ?_) <;> first | (exfalso; simp at hgd; done) | (exfalso; simp at hgd; omega) | (simp -implicitDefEqProofs (maxSteps := 2000000) [hP, hN, hr, w1, w2, w3, w4] <;> (try refine ⟨by kernel_rfl, ?_⟩)))
        | with_reducible refine xTwo_intro ?_ ?_
        | (with_reducible refine xCond_split (fun hcd => ?_) (fun hcd => ?_) <;> (try (exfalso; clear hP hN; simp_all; done)) <;> (try (exfalso; simp at *; omega)))
        | with_reducible refine WP.block ?_
        | (with_reducible ((first | refine WP.skip ?_ | refine WP.exit ?_ | refine WP.ret ?_); simp [hr, w1, w2, w3, w4])))
end Go.Ab
