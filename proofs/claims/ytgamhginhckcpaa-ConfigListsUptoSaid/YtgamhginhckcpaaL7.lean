/- ConfigTouches and ConfigHalves: the walks. -/
import Derived.Test.YtgamhginhckcpaaPl4
set_option linter.all false
namespace Go.Ab
open Go.Proofs
theorem rb_facts (l m : List Int) : (rJs l 0).length ≤ 3 ∧ 0 < (rJs l 0).length ∧ BoxOk (mkBoxL m (rJs l 0)) ∧ (mkBoxL m (rJs l 0)).length = (rJs l 0).length := by
  have h := rJs_len l 0
  exact ⟨h.1, h.2, mkBox_ok (rJs_ok l 0), mkBoxL_len _ _⟩
theorem clampL_len (xs : List (Int × Int)) (ys : List Int) : (clampL xs ys).length ≤ xs.length := by
  unfold clampL; split <;> simp; omega
set_option maxHeartbeats 4000000 in
theorem d7 (l m n : List Int) : DetH Try.prog 7 [.pv (zs l), .pv (zs m), .pv (zs n)] [] [] (.pv (B true)) := by
  obtain ⟨h3, h0, ha, hla⟩ := rb_facts l m
  obtain ⟨_, _, hb, hlb⟩ := rb_facts l n
  have cr := d21 l
  have ca := d27 m (rJs l 0) (rMs l 0) (by omega) (rJs_ok l 0)
  have cb := d27 n (rJs l 0) (rMs l 0) (by omega) (rJs_ok l 0)
  generalize mkBoxL m (rJs l 0) = a at *
  generalize mkBoxL n (rJs l 0) = b at *
  have hl : a.length = b.length := by omega
  have la : a.length ≤ 16777216 := by omega
  have lb : b.length ≤ 16777216 := by omega
  have c1 := d29 b lb
  have c2 := d28 a (middleL b) la
  have c3 := d28 b (clampL a (middleL b)) lb
  have c4 := d30 b (clampL b (clampL a (middleL b))) (big lb)
  have c5 := d31 a b (big la)
  have c6 := d30 a (clampL b (clampL a (middleL b))) (big la)
  have c7 := d31 b a (big lb)
  have c8 := d31 a a (big la)
  rw [has_clamp ha hb hl] at c4
  rw [← touch_eq ha hb hl] at c6
  rw [← touch_comm ha hb hl] at c7
  rw [touch_self ha] at c8
  generalize touchC a b = u at *
  refine detP_of Try.func7 rfl (by kernel_rfl) (by simp [Try.f7]) rfl ?_
  intro C hP hN
  simp only [Try.f7] at hN ⊢
  repeat' (first
    | with_reducible refine WP.seq ?_
    | (with_reducible refine WP.region (hn := []) ?_; simp -implicitDefEqProofs [hP, hN, srcP])
    | (with_reducible refine WP.draw (hn := []) (by rw [hP]; kernel_rfl) (by kernel_rfl) ?_; simp -implicitDefEqProofs [hP, hN, srcP]; (try refine ⟨by kernel_rfl, ?_⟩))
    | (with_reducible refine xB_split (by simp [srcP]) (fun hgd => ?_) (fun hgd => ?_) <;> first | (exfalso; simp at hgd; done) | (exfalso; simp at hgd; omega) | simp -implicitDefEqProofs [hP, hN, srcP])
    | (with_reducible refine yB_split (by simp [srcP]) (fun hgd => ?_) (fun hgd => ?_) <;> first | (exfalso; simp at hgd; done) | (exfalso; simp at hgd; omega) | (simp -implicitDefEqProofs [hP, hN, srcP] <;> (try refine ⟨by kernel_rfl, ?_⟩)))
    | (with_reducible refine xC_intro (cr) ?_; simp -implicitDefEqProofs [hP, hN, srcP])
    | (with_reducible refine yC_intro (cr) ?_; simp -implicitDefEqProofs [hP, hN, srcP]; (try refine ⟨by kernel_rfl, ?_⟩))
    | (with_reducible refine xC_intro (ca) ?_; simp -implicitDefEqProofs [hP, hN, srcP])
    | (with_reducible refine yC_intro (ca) ?_; simp -implicitDefEqProofs [hP, hN, srcP]; (try refine ⟨by kernel_rfl, ?_⟩))
    | (with_reducible refine xC_intro (cb) ?_; simp -implicitDefEqProofs [hP, hN, srcP])
    | (with_reducible refine yC_intro (cb) ?_; simp -implicitDefEqProofs [hP, hN, srcP]; (try refine ⟨by kernel_rfl, ?_⟩))
    | (with_reducible refine xC_intro (c1) ?_; simp -implicitDefEqProofs [hP, hN, srcP])
    | (with_reducible refine yC_intro (c1) ?_; simp -implicitDefEqProofs [hP, hN, srcP]; (try refine ⟨by kernel_rfl, ?_⟩))
    | (with_reducible refine xC_intro (c2) ?_; simp -implicitDefEqProofs [hP, hN, srcP])
    | (with_reducible refine yC_intro (c2) ?_; simp -implicitDefEqProofs [hP, hN, srcP]; (try refine ⟨by kernel_rfl, ?_⟩))
    | (with_reducible refine xC_intro (c3) ?_; simp -implicitDefEqProofs [hP, hN, srcP])
    | (with_reducible refine yC_intro (c3) ?_; simp -implicitDefEqProofs [hP, hN, srcP]; (try refine ⟨by kernel_rfl, ?_⟩))
    | (with_reducible refine xC_intro (c4) ?_; simp -implicitDefEqProofs [hP, hN, srcP])
    | (with_reducible refine yC_intro (c4) ?_; simp -implicitDefEqProofs [hP, hN, srcP]; (try refine ⟨by kernel_rfl, ?_⟩))
    | (with_reducible refine xC_intro (c5) ?_; simp -implicitDefEqProofs [hP, hN, srcP])
    | (with_reducible refine yC_intro (c5) ?_; simp -implicitDefEqProofs [hP, hN, srcP]; (try refine ⟨by kernel_rfl, ?_⟩))
    | (with_reducible refine xC_intro (c6) ?_; simp -implicitDefEqProofs [hP, hN, srcP])
    | (with_reducible refine yC_intro (c6) ?_; simp -implicitDefEqProofs [hP, hN, srcP]; (try refine ⟨by kernel_rfl, ?_⟩))
    | (with_reducible refine xC_intro (c7) ?_; simp -implicitDefEqProofs [hP, hN, srcP])
    | (with_reducible refine yC_intro (c7) ?_; simp -implicitDefEqProofs [hP, hN, srcP]; (try refine ⟨by kernel_rfl, ?_⟩))
    | (with_reducible refine xC_intro (c8) ?_; simp -implicitDefEqProofs [hP, hN, srcP])
    | (with_reducible refine yC_intro (c8) ?_; simp -implicitDefEqProofs [hP, hN, srcP]; (try refine ⟨by kernel_rfl, ?_⟩))
    | (with_reducible refine xC_intro (d16) ?_; simp -implicitDefEqProofs [hP, hN, srcP])
    | (with_reducible refine yC_intro (d16) ?_; simp -implicitDefEqProofs [hP, hN, srcP]; (try refine ⟨by kernel_rfl, ?_⟩))
    | with_reducible refine xTwo_intro ?_ ?_
    | (with_reducible refine WP.cond' ?_; simp -implicitDefEqProofs [hP, hN, srcP])
    | (with_reducible refine xCond_split (fun hcd => ?_) (fun hcd => ?_) <;> (try (exfalso; clear hP hN; simp_all; done)) <;> (try (exfalso; simp at *; omega)))
    | with_reducible refine WP.block ?_
    | (with_reducible refine WP.skip ?_; simp [srcP])
    | (with_reducible refine WP.exit ?_; simp [srcP])
    | (with_reducible refine WP.ret ?_; simp [srcP]))
set_option maxHeartbeats 4000000 in
theorem d8 (l m n : List Int) (joint : Int) : DetH Try.prog 8 [.pv (zs l), .pv (zs m), .pv (zs n), .pv (Z joint)] [] [] (.pv (B true)) := by
  obtain ⟨h3, h0, hb, hlb⟩ := rb_facts l m
  have cr := d21 l
  have cb := d27 m (rJs l 0) (rMs l 0) (by omega) (rJs_ok l 0)
  generalize mkBoxL m (rJs l 0) = b at *
  have lb : b.length ≤ 16777216 := by omega
  have hkr := round_range joint (k := (b.length : Int)) (by omega) (by omega)
  have ck := d15 joint (b.length : Int) (by omega)
  obtain ⟨k, hk⟩ := Int.eq_ofNat_of_zero_le hkr.1
  rw [hk] at ck hkr
  have hkl : k < b.length := by omega
  have ch := d32 b (k : Int) lb
  have hok := hb _ (List.getElem_mem hkl)
  have hbk := List.getElem?_eq_getElem hkl
  have hw : IntKind.i64.wrap (b[k].2 - b[k].1) = b[k].2 - b[k].1 := by unfold bxOk at hok; exact wr_id (by omega) (by omega)
  by_cases hs : b[k].2 - b[k].1 < 2
  · obtain ⟨e1, e2, e3⟩ := halve_no hb hkl hs
    rw [e1, e2, e3] at ch
    refine detP_of Try.func8 rfl (by kernel_rfl) (by simp [Try.f8]) rfl ?_
    intro C hP hN
    simp only [Try.f8] at hN ⊢
    repeat' (first
      | with_reducible refine WP.seq ?_
      | (with_reducible refine WP.region (hn := []) ?_; simp -implicitDefEqProofs [hP, hN, srcP, hkl, hbk, hw, hs])
      | (with_reducible refine WP.draw (hn := []) (by rw [hP]; kernel_rfl) (by kernel_rfl) ?_; simp -implicitDefEqProofs [hP, hN, srcP, hkl, hbk, hw, hs]; (try refine ⟨by kernel_rfl, ?_⟩))
      | (with_reducible refine xB_split (by simp [srcP, hkl, hbk, hw, hs]) (fun hgd => ?_) (fun hgd => ?_) <;> first | (exfalso; simp at hgd; done) | (exfalso; simp at hgd; omega) | simp -implicitDefEqProofs [hP, hN, srcP, hkl, hbk, hw, hs])
      | (with_reducible refine yB_split (by simp [srcP, hkl, hbk, hw, hs]) (fun hgd => ?_) (fun hgd => ?_) <;> first | (exfalso; simp at hgd; done) | (exfalso; simp at hgd; omega) | (simp -implicitDefEqProofs [hP, hN, srcP, hkl, hbk, hw, hs] <;> (try refine ⟨by kernel_rfl, ?_⟩)))
      | (with_reducible refine xC_intro (cr) ?_; simp -implicitDefEqProofs [hP, hN, srcP, hkl, hbk, hw, hs])
      | (with_reducible refine yC_intro (cr) ?_; simp -implicitDefEqProofs [hP, hN, srcP, hkl, hbk, hw, hs]; (try refine ⟨by kernel_rfl, ?_⟩))
      | (with_reducible refine xC_intro (cb) ?_; simp -implicitDefEqProofs [hP, hN, srcP, hkl, hbk, hw, hs])
      | (with_reducible refine yC_intro (cb) ?_; simp -implicitDefEqProofs [hP, hN, srcP, hkl, hbk, hw, hs]; (try refine ⟨by kernel_rfl, ?_⟩))
      | (with_reducible refine xC_intro (ck) ?_; simp -implicitDefEqProofs [hP, hN, srcP, hkl, hbk, hw, hs])
      | (with_reducible refine yC_intro (ck) ?_; simp -implicitDefEqProofs [hP, hN, srcP, hkl, hbk, hw, hs]; (try refine ⟨by kernel_rfl, ?_⟩))
      | (with_reducible refine xC_intro (ch) ?_; simp -implicitDefEqProofs [hP, hN, srcP, hkl, hbk, hw, hs])
      | (with_reducible refine yC_intro (ch) ?_; simp -implicitDefEqProofs [hP, hN, srcP, hkl, hbk, hw, hs]; (try refine ⟨by kernel_rfl, ?_⟩))
      | (with_reducible refine xC_intro (d16) ?_; simp -implicitDefEqProofs [hP, hN, srcP, hkl, hbk, hw, hs])
      | (with_reducible refine yC_intro (d16) ?_; simp -implicitDefEqProofs [hP, hN, srcP, hkl, hbk, hw, hs]; (try refine ⟨by kernel_rfl, ?_⟩))
      | with_reducible refine xTwo_intro ?_ ?_
      | (with_reducible refine WP.cond' ?_; simp -implicitDefEqProofs [hP, hN, srcP, hkl, hbk, hw, hs])
      | (with_reducible refine xCond_split (fun hcd => ?_) (fun hcd => ?_) <;> (try (exfalso; clear hP hN; simp_all; done)) <;> (try (exfalso; simp at *; omega)))
      | with_reducible refine WP.block ?_
      | (with_reducible refine WP.skip ?_; simp [srcP, hkl, hbk, hw, hs])
      | (with_reducible refine WP.exit ?_; simp [srcP, hkl, hbk, hw, hs])
      | (with_reducible refine WP.ret ?_; simp [srcP, hkl, hbk, hw, hs]))
  · obtain ⟨e1, e2, e3⟩ := halve_yes hb hkl hs
    rw [e1, e2, e3] at ch
    have hmr := mid_range hok
    have hv : ∀ x ∈ b, validB x.1 x.2 = true := fun x hx => (hb x hx).valid
    have c1 := d33 b n (by omega) hv
    have c2 := d29 (mkWithinL b n) (by rw [mkWithinL_len]; exact lb)
    have hmid := mid_in hb n
    have hone := one_half hb hkl hmid
    generalize middleL (mkWithinL b n) = c at *
    have ht := halves_touch hb hkl
    have hh := halves_hull hb hkl
    have hwx := set_within hb hkl (lo_ok hb hkl) (by simp) hmr.2
    have hwy := set_within hb hkl (hi_ok hb hkl) hmr.1 (by simp)
    have lx : (b.set k (b[k].1, midI b[k])).length ≤ 16777216 := by simpa using lb
    have ly : (b.set k (midI b[k], b[k].2)).length ≤ 16777216 := by simpa using lb
    generalize b.set k (b[k].1, midI b[k]) = x at *
    generalize b.set k (midI b[k], b[k].2) = y at *
    have c3 := d31 x y (big lx)
    have c4 := d34 x y lx ly
    have c5 := d20 b b (big lb) (big lb)
    have c6 := d30 b c (big lb)
    have c7 := d30 x c (big lx)
    have c8 := d30 y c (big ly)
    have c9 := d35 x b (big lx)
    have c10 := d35 y b (big ly)
    rw [ht] at c3
    rw [hh] at c4
    rw [same_refl] at c5
    rw [hmid] at c6
    rw [hwx] at c9
    rw [hwy] at c10
    cases hx : hasC x c with
    | true =>
      rw [hx] at c7
      refine detP_of Try.func8 rfl (by kernel_rfl) (by simp [Try.f8]) rfl ?_
      intro C hP hN
      simp only [Try.f8] at hN ⊢
      repeat' (first
        | with_reducible refine WP.seq ?_
        | (with_reducible refine WP.region (hn := []) ?_; simp -implicitDefEqProofs [hP, hN, srcP, hkl, hbk, hw, hs])
        | (with_reducible refine WP.draw (hn := []) (by rw [hP]; kernel_rfl) (by kernel_rfl) ?_; simp -implicitDefEqProofs [hP, hN, srcP, hkl, hbk, hw, hs]; (try refine ⟨by kernel_rfl, ?_⟩))
        | (with_reducible refine xB_split (by simp [srcP, hkl, hbk, hw, hs]) (fun hgd => ?_) (fun hgd => ?_) <;> first | (exfalso; simp at hgd; done) | (exfalso; simp at hgd; omega) | simp -implicitDefEqProofs [hP, hN, srcP, hkl, hbk, hw, hs])
        | (with_reducible refine yB_split (by simp [srcP, hkl, hbk, hw, hs]) (fun hgd => ?_) (fun hgd => ?_) <;> first | (exfalso; simp at hgd; done) | (exfalso; simp at hgd; omega) | (simp -implicitDefEqProofs [hP, hN, srcP, hkl, hbk, hw, hs] <;> (try refine ⟨by kernel_rfl, ?_⟩)))
        | (with_reducible refine xC_intro (cr) ?_; simp -implicitDefEqProofs [hP, hN, srcP, hkl, hbk, hw, hs])
        | (with_reducible refine yC_intro (cr) ?_; simp -implicitDefEqProofs [hP, hN, srcP, hkl, hbk, hw, hs]; (try refine ⟨by kernel_rfl, ?_⟩))
        | (with_reducible refine xC_intro (cb) ?_; simp -implicitDefEqProofs [hP, hN, srcP, hkl, hbk, hw, hs])
        | (with_reducible refine yC_intro (cb) ?_; simp -implicitDefEqProofs [hP, hN, srcP, hkl, hbk, hw, hs]; (try refine ⟨by kernel_rfl, ?_⟩))
        | (with_reducible refine xC_intro (ck) ?_; simp -implicitDefEqProofs [hP, hN, srcP, hkl, hbk, hw, hs])
        | (with_reducible refine yC_intro (ck) ?_; simp -implicitDefEqProofs [hP, hN, srcP, hkl, hbk, hw, hs]; (try refine ⟨by kernel_rfl, ?_⟩))
        | (with_reducible refine xC_intro (ch) ?_; simp -implicitDefEqProofs [hP, hN, srcP, hkl, hbk, hw, hs])
        | (with_reducible refine yC_intro (ch) ?_; simp -implicitDefEqProofs [hP, hN, srcP, hkl, hbk, hw, hs]; (try refine ⟨by kernel_rfl, ?_⟩))
        | (with_reducible refine xC_intro (c1) ?_; simp -implicitDefEqProofs [hP, hN, srcP, hkl, hbk, hw, hs])
        | (with_reducible refine yC_intro (c1) ?_; simp -implicitDefEqProofs [hP, hN, srcP, hkl, hbk, hw, hs]; (try refine ⟨by kernel_rfl, ?_⟩))
        | (with_reducible refine xC_intro (c2) ?_; simp -implicitDefEqProofs [hP, hN, srcP, hkl, hbk, hw, hs])
        | (with_reducible refine yC_intro (c2) ?_; simp -implicitDefEqProofs [hP, hN, srcP, hkl, hbk, hw, hs]; (try refine ⟨by kernel_rfl, ?_⟩))
        | (with_reducible refine xC_intro (c3) ?_; simp -implicitDefEqProofs [hP, hN, srcP, hkl, hbk, hw, hs])
        | (with_reducible refine yC_intro (c3) ?_; simp -implicitDefEqProofs [hP, hN, srcP, hkl, hbk, hw, hs]; (try refine ⟨by kernel_rfl, ?_⟩))
        | (with_reducible refine xC_intro (c4) ?_; simp -implicitDefEqProofs [hP, hN, srcP, hkl, hbk, hw, hs])
        | (with_reducible refine yC_intro (c4) ?_; simp -implicitDefEqProofs [hP, hN, srcP, hkl, hbk, hw, hs]; (try refine ⟨by kernel_rfl, ?_⟩))
        | (with_reducible refine xC_intro (c5) ?_; simp -implicitDefEqProofs [hP, hN, srcP, hkl, hbk, hw, hs])
        | (with_reducible refine yC_intro (c5) ?_; simp -implicitDefEqProofs [hP, hN, srcP, hkl, hbk, hw, hs]; (try refine ⟨by kernel_rfl, ?_⟩))
        | (with_reducible refine xC_intro (c6) ?_; simp -implicitDefEqProofs [hP, hN, srcP, hkl, hbk, hw, hs])
        | (with_reducible refine yC_intro (c6) ?_; simp -implicitDefEqProofs [hP, hN, srcP, hkl, hbk, hw, hs]; (try refine ⟨by kernel_rfl, ?_⟩))
        | (with_reducible refine xC_intro (c7) ?_; simp -implicitDefEqProofs [hP, hN, srcP, hkl, hbk, hw, hs])
        | (with_reducible refine yC_intro (c7) ?_; simp -implicitDefEqProofs [hP, hN, srcP, hkl, hbk, hw, hs]; (try refine ⟨by kernel_rfl, ?_⟩))
        | (with_reducible refine xC_intro (c8) ?_; simp -implicitDefEqProofs [hP, hN, srcP, hkl, hbk, hw, hs])
        | (with_reducible refine yC_intro (c8) ?_; simp -implicitDefEqProofs [hP, hN, srcP, hkl, hbk, hw, hs]; (try refine ⟨by kernel_rfl, ?_⟩))
        | (with_reducible refine xC_intro (c9) ?_; simp -implicitDefEqProofs [hP, hN, srcP, hkl, hbk, hw, hs])
        | (with_reducible refine yC_intro (c9) ?_; simp -implicitDefEqProofs [hP, hN, srcP, hkl, hbk, hw, hs]; (try refine ⟨by kernel_rfl, ?_⟩))
        | (with_reducible refine xC_intro (c10) ?_; simp -implicitDefEqProofs [hP, hN, srcP, hkl, hbk, hw, hs])
        | (with_reducible refine yC_intro (c10) ?_; simp -implicitDefEqProofs [hP, hN, srcP, hkl, hbk, hw, hs]; (try refine ⟨by kernel_rfl, ?_⟩))
        | (with_reducible refine xC_intro (d16) ?_; simp -implicitDefEqProofs [hP, hN, srcP, hkl, hbk, hw, hs])
        | (with_reducible refine yC_intro (d16) ?_; simp -implicitDefEqProofs [hP, hN, srcP, hkl, hbk, hw, hs]; (try refine ⟨by kernel_rfl, ?_⟩))
        | with_reducible refine xTwo_intro ?_ ?_
        | (with_reducible refine WP.cond' ?_; simp -implicitDefEqProofs [hP, hN, srcP, hkl, hbk, hw, hs])
        | (with_reducible refine xCond_split (fun hcd => ?_) (fun hcd => ?_) <;> (try (exfalso; clear hP hN; simp_all; done)) <;> (try (exfalso; simp at *; omega)))
        | with_reducible refine WP.block ?_
        | (with_reducible refine WP.skip ?_; simp [srcP, hkl, hbk, hw, hs])
        | (with_reducible refine WP.exit ?_; simp [srcP, hkl, hbk, hw, hs])
        | (with_reducible refine WP.ret ?_; simp [srcP, hkl, hbk, hw, hs]))
    | false =>
      rw [hx] at c7 hone
      rw [Bool.false_or] at hone
      rw [hone] at c8
      refine detP_of Try.func8 rfl (by kernel_rfl) (by simp [Try.f8]) rfl ?_
      intro C hP hN
      simp only [Try.f8] at hN ⊢
      repeat' (first
        | with_reducible refine WP.seq ?_
        | (with_reducible refine WP.region (hn := []) ?_; simp -implicitDefEqProofs [hP, hN, srcP, hkl, hbk, hw, hs])
        | (with_reducible refine WP.draw (hn := []) (by rw [hP]; kernel_rfl) (by kernel_rfl) ?_; simp -implicitDefEqProofs [hP, hN, srcP, hkl, hbk, hw, hs]; (try refine ⟨by kernel_rfl, ?_⟩))
        | (with_reducible refine xB_split (by simp [srcP, hkl, hbk, hw, hs]) (fun hgd => ?_) (fun hgd => ?_) <;> first | (exfalso; simp at hgd; done) | (exfalso; simp at hgd; omega) | simp -implicitDefEqProofs [hP, hN, srcP, hkl, hbk, hw, hs])
        | (with_reducible refine yB_split (by simp [srcP, hkl, hbk, hw, hs]) (fun hgd => ?_) (fun hgd => ?_) <;> first | (exfalso; simp at hgd; done) | (exfalso; simp at hgd; omega) | (simp -implicitDefEqProofs [hP, hN, srcP, hkl, hbk, hw, hs] <;> (try refine ⟨by kernel_rfl, ?_⟩)))
        | (with_reducible refine xC_intro (cr) ?_; simp -implicitDefEqProofs [hP, hN, srcP, hkl, hbk, hw, hs])
        | (with_reducible refine yC_intro (cr) ?_; simp -implicitDefEqProofs [hP, hN, srcP, hkl, hbk, hw, hs]; (try refine ⟨by kernel_rfl, ?_⟩))
        | (with_reducible refine xC_intro (cb) ?_; simp -implicitDefEqProofs [hP, hN, srcP, hkl, hbk, hw, hs])
        | (with_reducible refine yC_intro (cb) ?_; simp -implicitDefEqProofs [hP, hN, srcP, hkl, hbk, hw, hs]; (try refine ⟨by kernel_rfl, ?_⟩))
        | (with_reducible refine xC_intro (ck) ?_; simp -implicitDefEqProofs [hP, hN, srcP, hkl, hbk, hw, hs])
        | (with_reducible refine yC_intro (ck) ?_; simp -implicitDefEqProofs [hP, hN, srcP, hkl, hbk, hw, hs]; (try refine ⟨by kernel_rfl, ?_⟩))
        | (with_reducible refine xC_intro (ch) ?_; simp -implicitDefEqProofs [hP, hN, srcP, hkl, hbk, hw, hs])
        | (with_reducible refine yC_intro (ch) ?_; simp -implicitDefEqProofs [hP, hN, srcP, hkl, hbk, hw, hs]; (try refine ⟨by kernel_rfl, ?_⟩))
        | (with_reducible refine xC_intro (c1) ?_; simp -implicitDefEqProofs [hP, hN, srcP, hkl, hbk, hw, hs])
        | (with_reducible refine yC_intro (c1) ?_; simp -implicitDefEqProofs [hP, hN, srcP, hkl, hbk, hw, hs]; (try refine ⟨by kernel_rfl, ?_⟩))
        | (with_reducible refine xC_intro (c2) ?_; simp -implicitDefEqProofs [hP, hN, srcP, hkl, hbk, hw, hs])
        | (with_reducible refine yC_intro (c2) ?_; simp -implicitDefEqProofs [hP, hN, srcP, hkl, hbk, hw, hs]; (try refine ⟨by kernel_rfl, ?_⟩))
        | (with_reducible refine xC_intro (c3) ?_; simp -implicitDefEqProofs [hP, hN, srcP, hkl, hbk, hw, hs])
        | (with_reducible refine yC_intro (c3) ?_; simp -implicitDefEqProofs [hP, hN, srcP, hkl, hbk, hw, hs]; (try refine ⟨by kernel_rfl, ?_⟩))
        | (with_reducible refine xC_intro (c4) ?_; simp -implicitDefEqProofs [hP, hN, srcP, hkl, hbk, hw, hs])
        | (with_reducible refine yC_intro (c4) ?_; simp -implicitDefEqProofs [hP, hN, srcP, hkl, hbk, hw, hs]; (try refine ⟨by kernel_rfl, ?_⟩))
        | (with_reducible refine xC_intro (c5) ?_; simp -implicitDefEqProofs [hP, hN, srcP, hkl, hbk, hw, hs])
        | (with_reducible refine yC_intro (c5) ?_; simp -implicitDefEqProofs [hP, hN, srcP, hkl, hbk, hw, hs]; (try refine ⟨by kernel_rfl, ?_⟩))
        | (with_reducible refine xC_intro (c6) ?_; simp -implicitDefEqProofs [hP, hN, srcP, hkl, hbk, hw, hs])
        | (with_reducible refine yC_intro (c6) ?_; simp -implicitDefEqProofs [hP, hN, srcP, hkl, hbk, hw, hs]; (try refine ⟨by kernel_rfl, ?_⟩))
        | (with_reducible refine xC_intro (c7) ?_; simp -implicitDefEqProofs [hP, hN, srcP, hkl, hbk, hw, hs])
        | (with_reducible refine yC_intro (c7) ?_; simp -implicitDefEqProofs [hP, hN, srcP, hkl, hbk, hw, hs]; (try refine ⟨by kernel_rfl, ?_⟩))
        | (with_reducible refine xC_intro (c8) ?_; simp -implicitDefEqProofs [hP, hN, srcP, hkl, hbk, hw, hs])
        | (with_reducible refine yC_intro (c8) ?_; simp -implicitDefEqProofs [hP, hN, srcP, hkl, hbk, hw, hs]; (try refine ⟨by kernel_rfl, ?_⟩))
        | (with_reducible refine xC_intro (c9) ?_; simp -implicitDefEqProofs [hP, hN, srcP, hkl, hbk, hw, hs])
        | (with_reducible refine yC_intro (c9) ?_; simp -implicitDefEqProofs [hP, hN, srcP, hkl, hbk, hw, hs]; (try refine ⟨by kernel_rfl, ?_⟩))
        | (with_reducible refine xC_intro (c10) ?_; simp -implicitDefEqProofs [hP, hN, srcP, hkl, hbk, hw, hs])
        | (with_reducible refine yC_intro (c10) ?_; simp -implicitDefEqProofs [hP, hN, srcP, hkl, hbk, hw, hs]; (try refine ⟨by kernel_rfl, ?_⟩))
        | (with_reducible refine xC_intro (d16) ?_; simp -implicitDefEqProofs [hP, hN, srcP, hkl, hbk, hw, hs])
        | (with_reducible refine yC_intro (d16) ?_; simp -implicitDefEqProofs [hP, hN, srcP, hkl, hbk, hw, hs]; (try refine ⟨by kernel_rfl, ?_⟩))
        | with_reducible refine xTwo_intro ?_ ?_
        | (with_reducible refine WP.cond' ?_; simp -implicitDefEqProofs [hP, hN, srcP, hkl, hbk, hw, hs])
        | (with_reducible refine xCond_split (fun hcd => ?_) (fun hcd => ?_) <;> (try (exfalso; clear hP hN; simp_all; done)) <;> (try (exfalso; simp at *; omega)))
        | with_reducible refine WP.block ?_
        | (with_reducible refine WP.skip ?_; simp [srcP, hkl, hbk, hw, hs])
        | (with_reducible refine WP.exit ?_; simp [srcP, hkl, hbk, hw, hs])
        | (with_reducible refine WP.ret ?_; simp [srcP, hkl, hbk, hw, hs]))
end Go.Ab
