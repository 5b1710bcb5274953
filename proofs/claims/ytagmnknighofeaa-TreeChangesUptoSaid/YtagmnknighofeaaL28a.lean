/- TreeDisjoint, TreeTiles, TreeNeighbors: the walks. -/
import Derived.Test.YtagmnknighofeaaTrX
set_option linter.all false
namespace Go.Ab
open Go.Proofs
theorem rndNat {i : Int} {n : Nat} (hn : 0 < n) (hm : n < 1000000) : ∃ k : Nat, roundI i n = (k : Int) ∧ k < n := by
  have h := round_range i (k := (n : Int)) (by omega) (by omega)
  obtain ⟨k, hk⟩ := Int.eq_ofNat_of_zero_le h.1
  exact ⟨k, hk, by omega⟩
theorem leaf_at {t : Tr} {a e : Nat} (h : (leavesL t)[a]? = some e) : validT t = true ∧ leafN t e = true ∧ e < t.cells.length := by
  obtain ⟨hv, c, hc, hl⟩ := leavesL_mem.1 (List.mem_of_getElem? h)
  exact ⟨hv, by simp [leafN, hc, hl], (List.getElem?_eq_some_iff.1 hc).1⟩
theorem leavesL_nodup (t : Tr) : (leavesL t).Nodup := by
  unfold leavesL
  split
  · exact List.Pairwise.filter _ List.nodup_range
  · exact List.nodup_nil
theorem leaves_ne {t : Tr} {a b e f : Nat} (h1 : (leavesL t)[a]? = some e) (h2 : (leavesL t)[b]? = some f) (hne : a ≠ b) : e ≠ f := by
  intro he; subst he
  obtain ⟨l1, g1⟩ := List.getElem?_eq_some_iff.1 h1
  obtain ⟨l2, g2⟩ := List.getElem?_eq_some_iff.1 h2
  exact hne ((List.getElem_inj (leavesL_nodup t)).1 (g1.trans g2.symm))
theorem boxOf_yes {t : Tr} (hv : validT t = true) {i : Nat} (h : i < t.cells.length) : boxOk t (i : Int) = true ∧ boxOf t (i : Int) = boxAt t (i : Int) := by
  have : boxOk t (i : Int) = true := by simp [boxOk, hv, h]
  exact ⟨this, by simp [boxOf, this]⟩
theorem other_mod {a c n : Nat} (ha : a < n) (hc : c < n - 1) : (a + 1 + c) % n ≠ a := by
  by_cases h : a + 1 + c < n
  · rw [Nat.mod_eq_of_lt h]; omega
  · rw [show a + 1 + c = (a + 1 + c - n) + n by omega, Nat.add_mod_right, Nat.mod_eq_of_lt (by omega)]; omega
/-- Up to a joint no face is between two boxes. -/
def noSep (u v : Bx) (j : Nat) : Prop := ∀ m, m < j → ∀ x y, u[m]? = some x → v[m]? = some y → ¬ (x.2 ≤ y.1 ∨ y.2 ≤ x.1)
set_option maxRecDepth 10000 in
set_option maxHeartbeats 8000000 in
theorem d5 (l : List Int) (i k : Int) : DetH Try.prog 5 [.pv (zs l), .pv (Z i), .pv (Z k)] [] [] (.pv (B true)) := by
  have hT := mkTree_ok l
  have ct := d21 l
  generalize mkTree l = t at *
  have hz := sizeOk_iff.1 (valid_size hT.valid)
  have h27 := hT.cells
  have cl := d27 t (by omega)
  have hpos := leavesL_pos hT.valid
  have hle := leavesL_len t
  generalize hall : leavesL t = all at *
  by_cases h2 : all.length < 2
  · have h1 : all.length = 1 := by omega
    refine detP_of Try.func5 rfl (by kernel_rfl) (by simp [Try.f5]) rfl ?_
    intro C hP hN
    simp only [Try.f5] at hN ⊢
    repeat' (first
      | with_reducible refine WP.seq ?_
      | (with_reducible ((first | refine WP.region (hn := []) ?_ | refine xC_intro (ct) ?_ | refine xC_intro (cl) ?_ | refine xC_intro (d20) ?_ | refine WP.cond' ?_); simp -implicitDefEqProofs (maxSteps := 2000000) [hP, hN, h1]))
      | (with_reducible ((first | refine WP.draw (hn := []) (by rw [hP]; kernel_rfl) (by kernel_rfl) ?_ | refine yC_intro (ct) ?_ | refine yC_intro (cl) ?_ | refine yC_intro (d20) ?_); simp -implicitDefEqProofs (maxSteps := 2000000) [hP, hN, h1]; (try refine ⟨by kernel_rfl, ?_⟩)))
      | (with_reducible refine xB_split (by simp [h1]) (fun hgd => ?_) (fun hgd => ?_) <;> first | (exfalso; simp at hgd; done) | (exfalso; simp at hgd; omega) | simp -implicitDefEqProofs (maxSteps := 2000000) [hP, hN, h1])
      | (with_reducible refine yB_split (by simp [h1]) (fun hgd => ?_) (fun hgd => ?_) <;> first | (exfalso; simp at hgd; done) | (exfalso; simp at hgd; omega) | (simp -implicitDefEqProofs (maxSteps := 2000000) [hP, hN, h1] <;> (try refine ⟨by kernel_rfl, ?_⟩)))
      | with_reducible refine xTwo_intro ?_ ?_
      | (with_reducible refine xCond_split (fun hcd => ?_) (fun hcd => ?_) <;> (try (exfalso; clear hP hN; simp_all; done)) <;> (try (exfalso; simp at *; omega)))
      | with_reducible refine WP.block ?_
      | (with_reducible ((first | refine WP.skip ?_ | refine WP.exit ?_ | refine WP.ret ?_); simp [h1])))
  · have h2' : ¬ (all.length : Int) < 2 := by omega
    obtain ⟨x, hx, hxl⟩ := rndNat (i := i) (n := all.length) (by omega) (by omega)
    obtain ⟨y, hy, hyl⟩ := rndNat (i := k) (n := all.length - 1) (by omega) (by omega)
    have cx := d35 i (all.length : Int) (by omega)
    have cy := d35 k ((all.length - 1 : Nat) : Int) (by omega)
    rw [hx] at cx
    rw [hy] at cy
    have w1 : IntKind.i64.wrap ((all.length : Int) - 1) = ((all.length - 1 : Nat) : Int) := (wr_id (by omega) (by omega)).trans (by omega)
    have w2 : IntKind.i64.wrap ((x : Int) + 1) = (x : Int) + 1 := wr_id (by omega) (by omega)
    have w3 : IntKind.i64.wrap ((x : Int) + 1 + y) = (x : Int) + 1 + y := wr_id (by omega) (by omega)
    have hne := other_mod hxl hyl
    have hnil : all ≠ [] := by intro h; simp [h] at h2
    have hzl : (x + 1 + y) % all.length < all.length := Nat.mod_lt _ (by omega)
    have hm : Int.tmod ((x : Int) + 1 + y) all.length = (((x + 1 + y) % all.length : Nat) : Int) := by
      rw [show ((x : Int) + 1 + y) = ((x + 1 + y : Nat) : Int) by omega]; rfl
    generalize (x + 1 + y) % all.length = z at *
    generalize ha : all[x] = a at *
    generalize hb : all[z] = b at *
    have hai : all[x]? = some a := by rw [List.getElem?_eq_getElem hxl, ha]
    have hbi : all[z]? = some b := by rw [List.getElem?_eq_getElem hzl, hb]
    rw [← hall] at hai hbi
    obtain ⟨_, la, ra⟩ := leaf_at hai
    obtain ⟨_, lb, rb⟩ := leaf_at hbi
    have hab := leaves_apart hT.valid la lb (leaves_ne hai hbi (fun h => hne h.symm))
    rw [hall] at hai hbi
    have c1 := d28 t a (by omega)
    have c2 := d28 t b (by omega)
    rw [(boxOf_yes hT.valid ra).1, (boxOf_yes hT.valid ra).2] at c1
    rw [(boxOf_yes hT.valid rb).1, (boxOf_yes hT.valid rb).2] at c2
    have l1 := (boxAt_ok hT.valid (c := (a : Int)) ra).2.1
    have l2 := (boxAt_ok hT.valid (c := (b : Int)) rb).2.1
    generalize boxAt t a = u at *
    generalize boxAt t b = v at *
    refine detP_of Try.func5 rfl (by kernel_rfl) (by simp [Try.f5]) rfl ?_
    intro C hP hN
    simp only [Try.f5] at hN ⊢
    repeat' (first
      | with_reducible refine WP.seq ?_
      | (with_reducible ((first | refine WP.region (hn := []) ?_ | refine xC_intro (ct) ?_ | refine xC_intro (cl) ?_ | refine xC_intro (cx) ?_ | refine xC_intro (cy) ?_ | refine xC_intro (c1) ?_ | refine xC_intro (c2) ?_ | refine WP.cond' ?_); simp -implicitDefEqProofs (maxSteps := 2000000) [hP, hN, h2', hnil, hx, hy, w1, w2, w3, hm, hxl, hzl, ha, hb, hai, hbi, l1, l2]))
      | (with_reducible ((first | refine WP.draw (hn := []) (by rw [hP]; kernel_rfl) (by kernel_rfl) ?_ | refine yC_intro (ct) ?_ | refine yC_intro (cl) ?_ | refine yC_intro (cx) ?_ | refine yC_intro (cy) ?_ | refine yC_intro (c1) ?_ | refine yC_intro (c2) ?_); simp -implicitDefEqProofs (maxSteps := 2000000) [hP, hN, h2', hnil, hx, hy, w1, w2, w3, hm, hxl, hzl, ha, hb, hai, hbi, l1, l2]; (try refine ⟨by kernel_rfl, ?_⟩)))
      | (with_reducible refine xB_split (by simp [h2', hnil, hx, hy, w1, w2, w3, hm, hxl, hzl, ha, hb, hai, hbi, l1, l2]) (fun hgd => ?_) (fun hgd => ?_) <;> first | (exfalso; simp at hgd; done) | (exfalso; simp at hgd; omega) | simp -implicitDefEqProofs (maxSteps := 2000000) [hP, hN, h2', hnil, hx, hy, w1, w2, w3, hm, hxl, hzl, ha, hb, hai, hbi, l1, l2])
      | (with_reducible refine yB_split (by simp [h2', hnil, hx, hy, w1, w2, w3, hm, hxl, hzl, ha, hb, hai, hbi, l1, l2]) (fun hgd => ?_) (fun hgd => ?_) <;> first | (exfalso; simp at hgd; done) | (exfalso; simp at hgd; omega) | (simp -implicitDefEqProofs (maxSteps := 2000000) [hP, hN, h2', hnil, hx, hy, w1, w2, w3, hm, hxl, hzl, ha, hb, hai, hbi, l1, l2] <;> (try refine ⟨by kernel_rfl, ?_⟩)))
      | with_reducible refine xTwo_intro ?_ ?_
      | (with_reducible refine xCond_split (fun hcd => ?_) (fun hcd => ?_) <;> (try (exfalso; clear hP hN; simp_all; done)) <;> (try (exfalso; simp at *; omega)))
      | with_reducible refine WP.block ?_
      | (with_reducible ((first | refine WP.skip ?_ | refine WP.exit ?_ | refine WP.ret ?_); simp [h2', hnil, hx, hy, w1, w2, w3, hm, hxl, hzl, ha, hb, hai, hbi, l1, l2])))
    refine WP.loopN [] u.length (fun j st => st.t 11 = .pv (iv u) ∧ st.t 13 = .pv (iv v) ∧ st.t 15 = .pv (Z j) ∧ noSep u v j) (by simp [noSep]) ?_
    rintro j st hj ⟨g11, g13, g15, hq⟩
    by_cases hlt : j < u.length
    · have hwj := wr_succ hlt (by omega)
      have j1 : j < v.length := by omega
      by_cases e1 : u[j].2 ≤ v[j].1
      · skip
        repeat' (first
          | with_reducible refine WP.seq ?_
          | (with_reducible ((first | refine WP.region (hn := []) ?_ | refine xC_intro (d20) ?_ | refine WP.cond' ?_); simp -implicitDefEqProofs (maxSteps := 2000000) [hP, hN, g11, g13, g15, hlt, j1, hwj, e1]))
          | (with_reducible ((first | refine WP.draw (hn := []) (by rw [hP]; kernel_rfl) (by kernel_rfl) ?_ | refine yC_intro (d20) ?_); simp -implicitDefEqProofs (maxSteps := 2000000) [hP, hN, g11, g13, g15, hlt, j1, hwj, e1]; (try refine ⟨by kernel_rfl, ?_⟩)))
          | (with_reducible refine xB_split (by simp [g11, g13, g15, hlt, j1, hwj, e1]) (fun hgd => ?_) (fun hgd => ?_) <;> first | (exfalso; simp at hgd; done) | (exfalso; simp at hgd; omega) | simp -implicitDefEqProofs (maxSteps := 2000000) [hP, hN, g11, g13, g15, hlt, j1, hwj, e1])
          | (with_reducible refine yB_split (by simp [g11, g13, g15, hlt, j1, hwj, e1]) (fun hgd => ?_) (fun hgd => ?_) <;> first | (exfalso; simp at hgd; done) | (exfalso; simp at hgd; omega) | (simp -implicitDefEqProofs (maxSteps := 2000000) [hP, hN, g11, g13, g15, hlt, j1, hwj, e1] <;> (try refine ⟨by kernel_rfl, ?_⟩)))
          | with_reducible refine xTwo_intro ?_ ?_
          | (with_reducible refine xCond_split (fun hcd => ?_) (fun hcd => ?_) <;> (try (exfalso; clear hP hN; simp_all; done)) <;> (try (exfalso; simp at *; omega)))
          | with_reducible refine WP.block ?_
          | (with_reducible ((first | refine WP.skip ?_ | refine WP.exit ?_ | refine WP.ret ?_); simp [g11, g13, g15, hlt, j1, hwj, e1])))
      by_cases e2 : v[j].2 ≤ u[j].1
      · skip
        repeat' (first
          | with_reducible refine WP.seq ?_
          | (with_reducible ((first | refine WP.region (hn := []) ?_ | refine xC_intro (d20) ?_ | refine WP.cond' ?_); simp -implicitDefEqProofs (maxSteps := 2000000) [hP, hN, g11, g13, g15, hlt, j1, hwj, e1, e2]))
          | (with_reducible ((first | refine WP.draw (hn := []) (by rw [hP]; kernel_rfl) (by kernel_rfl) ?_ | refine yC_intro (d20) ?_); simp -implicitDefEqProofs (maxSteps := 2000000) [hP, hN, g11, g13, g15, hlt, j1, hwj, e1, e2]; (try refine ⟨by kernel_rfl, ?_⟩)))
          | (with_reducible refine xB_split (by simp [g11, g13, g15, hlt, j1, hwj, e1, e2]) (fun hgd => ?_) (fun hgd => ?_) <;> first | (exfalso; simp at hgd; done) | (exfalso; simp at hgd; omega) | simp -implicitDefEqProofs (maxSteps := 2000000) [hP, hN, g11, g13, g15, hlt, j1, hwj, e1, e2])
          | (with_reducible refine yB_split (by simp [g11, g13, g15, hlt, j1, hwj, e1, e2]) (fun hgd => ?_) (fun hgd => ?_) <;> first | (exfalso; simp at hgd; done) | (exfalso; simp at hgd; omega) | (simp -implicitDefEqProofs (maxSteps := 2000000) [hP, hN, g11, g13, g15, hlt, j1, hwj, e1, e2] <;> (try refine ⟨by kernel_rfl, ?_⟩)))
          | with_reducible refine xTwo_intro ?_ ?_
          | (with_reducible refine xCond_split (fun hcd => ?_) (fun hcd => ?_) <;> (try (exfalso; clear hP hN; simp_all; done)) <;> (try (exfalso; simp at *; omega)))
          | with_reducible refine WP.block ?_
          | (with_reducible ((first | refine WP.skip ?_ | refine WP.exit ?_ | refine WP.ret ?_); simp [g11, g13, g15, hlt, j1, hwj, e1, e2])))
      · have hq' : noSep u v (j + 1) := by
          intro m hm x y hx hy
          by_cases e : m = j
          · subst e
            rw [List.getElem?_eq_getElem hlt] at hx
            rw [List.getElem?_eq_getElem j1] at hy
            injection hx with hx; injection hy with hy; subst hx; subst hy
            exact fun h => h.elim e1 e2
          · exact hq m (by omega) x y hx hy
        repeat' (first
          | with_reducible refine WP.seq ?_
          | (with_reducible ((first | refine WP.region (hn := []) ?_ | refine WP.cond' ?_); simp -implicitDefEqProofs (maxSteps := 2000000) [hP, hN, g11, g13, g15, hlt, j1, hwj, e1, e2]))
          | (with_reducible ((first | refine WP.draw (hn := []) (by rw [hP]; kernel_rfl) (by kernel_rfl) ?_); simp -implicitDefEqProofs (maxSteps := 2000000) [hP, hN, g11, g13, g15, hlt, j1, hwj, e1, e2]; (try refine ⟨by kernel_rfl, ?_⟩)))
          | (with_reducible refine xB_split (by simp [g11, g13, g15, hlt, j1, hwj, e1, e2]) (fun hgd => ?_) (fun hgd => ?_) <;> first | (exfalso; simp at hgd; done) | (exfalso; simp at hgd; omega) | simp -implicitDefEqProofs (maxSteps := 2000000) [hP, hN, g11, g13, g15, hlt, j1, hwj, e1, e2])
          | (with_reducible refine yB_split (by simp [g11, g13, g15, hlt, j1, hwj, e1, e2]) (fun hgd => ?_) (fun hgd => ?_) <;> first | (exfalso; simp at hgd; done) | (exfalso; simp at hgd; omega) | (simp -implicitDefEqProofs (maxSteps := 2000000) [hP, hN, g11, g13, g15, hlt, j1, hwj, e1, e2] <;> (try refine ⟨by kernel_rfl, ?_⟩)))
          | with_reducible refine xTwo_intro ?_ ?_
          | (with_reducible refine xCond_split (fun hcd => ?_) (fun hcd => ?_) <;> (try (exfalso; clear hP hN; simp_all; done)) <;> (try (exfalso; simp at *; omega)))
          | with_reducible refine WP.block ?_
          | (with_reducible ((first | refine WP.skip ?_ | refine WP.exit ?_ | refine WP.ret ?_); simp [g11, g13, g15, hlt, j1, hwj, e1, e2])))
        all_goals exact hq'
    · exfalso
      obtain ⟨m, x, y, h1, h2, h3⟩ := hab
      exact hq m (by have := (List.getElem?_eq_some_iff.1 h1).1; omega) x y h1 h2 h3
end Go.Ab
