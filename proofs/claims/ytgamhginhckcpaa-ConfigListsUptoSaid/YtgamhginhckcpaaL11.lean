/- ConfigBoxes and ConfigLists: the walks. -/
import Derived.Test.YtgamhginhckcpaaCf18
import Derived.Test.YtgamhginhckcpaaL7
set_option linter.all false
namespace Go.Ab
open Go.Proofs
theorem halve_lens (xs : List (Int × Int)) (j : Int) : (halveA xs j).length ≤ xs.length ∧ (halveZ xs j).length ≤ xs.length := by
  unfold halveA halveZ
  constructor
  · split
    · split <;> simp
    · simp
  · split
    · split <;> simp
    · simp
theorem hullL_len (xs ys : List (Int × Int)) : (hullL xs ys).length ≤ xs.length := by
  unfold hullL; split <;> simp; omega
set_option maxHeartbeats 8000000 in
theorem d38 (js : List J) (ms : List Ms) (a b : List (Int × Int)) (k : Int) (hl : js.length ≤ 9223372036854775807) (hm : ms.length ≤ 9223372036854775807) (ha : a.length ≤ 16777216) (hb : b.length ≤ 16777216) : DetH Try.prog 38 [.pv (encR js ms), .pv (iv a), .pv (iv b), .pv (Z k)] [] [] (.pv (B true)) := by
  have c1 := d32 a k ha
  have c2 := d74 a k ha
  have c3 := d34 a b ha hb
  have c4 := d18 a b ha hb
  have c5 := d35 a b (big ha)
  have c6 := d17 a b (big ha) (big hb)
  have c7 := d31 a b (big ha)
  have c8 := d75 a b (big ha) (big hb)
  have c9 := d76 js ms a hl hm (big ha)
  have c10 := d77 js ms a hl hm (big ha)
  have hA := halve_lens a k
  have l1 : (halveA a k).length ≤ 9223372036854775807 := by omega
  have l2 : (halveZ a k).length ≤ 9223372036854775807 := by omega
  have l3 : (hullL a b).length ≤ 9223372036854775807 := by have := hullL_len a b; omega
  have s1 := d20 (halveA a k) (halveA a k) l1 l1
  have s2 := d20 (halveZ a k) (halveZ a k) l2 l2
  have s3 := d20 (hullL a b) (hullL a b) l3 l3
  rw [same_refl] at s1 s2 s3
  rw [withinL_eq] at c6
  rw [touchL_eq] at c8
  generalize halveA a k = u1 at *
  generalize halveZ a k = u2 at *
  generalize halveOk a k = u3 at *
  generalize hullL a b = u4 at *
  generalize withinC a b = u5 at *
  generalize touchC a b = u6 at *
  generalize widR js ms a = u7 at *
  refine detP_of Try.func38 rfl (by kernel_rfl) (by simp [Try.f38]) rfl ?_
  intro C hP hN
  simp only [Try.f38] at hN ⊢
  repeat' (first
    | with_reducible refine WP.seq ?_
    | (with_reducible refine WP.region (hn := []) ?_; simp -implicitDefEqProofs [hP, hN])
    | (with_reducible refine WP.draw (hn := []) (by rw [hP]; kernel_rfl) (by kernel_rfl) ?_; simp -implicitDefEqProofs [hP, hN]; (try refine ⟨by kernel_rfl, ?_⟩))
    | (with_reducible refine xB_split (by simp) (fun hgd => ?_) (fun hgd => ?_) <;> first | (exfalso; simp at hgd; done) | (exfalso; simp at hgd; omega) | simp -implicitDefEqProofs [hP, hN])
    | (with_reducible refine yB_split (by simp) (fun hgd => ?_) (fun hgd => ?_) <;> first | (exfalso; simp at hgd; done) | (exfalso; simp at hgd; omega) | (simp -implicitDefEqProofs [hP, hN] <;> (try refine ⟨by kernel_rfl, ?_⟩)))
    | (with_reducible refine xC_intro (c1) ?_; simp -implicitDefEqProofs [hP, hN])
    | (with_reducible refine yC_intro (c1) ?_; simp -implicitDefEqProofs [hP, hN]; (try refine ⟨by kernel_rfl, ?_⟩))
    | (with_reducible refine xC_intro (c2) ?_; simp -implicitDefEqProofs [hP, hN])
    | (with_reducible refine yC_intro (c2) ?_; simp -implicitDefEqProofs [hP, hN]; (try refine ⟨by kernel_rfl, ?_⟩))
    | (with_reducible refine xC_intro (c3) ?_; simp -implicitDefEqProofs [hP, hN])
    | (with_reducible refine yC_intro (c3) ?_; simp -implicitDefEqProofs [hP, hN]; (try refine ⟨by kernel_rfl, ?_⟩))
    | (with_reducible refine xC_intro (c4) ?_; simp -implicitDefEqProofs [hP, hN])
    | (with_reducible refine yC_intro (c4) ?_; simp -implicitDefEqProofs [hP, hN]; (try refine ⟨by kernel_rfl, ?_⟩))
    | (with_reducible refine xC_intro (c5) ?_; simp -implicitDefEqProofs [hP, hN])
    | (with_reducible refine yC_intro (c5) ?_; simp -implicitDefEqProofs [hP, hN]; (try refine ⟨by kernel_rfl, ?_⟩))
    | (with_reducible refine xC_intro (c6) ?_; simp -implicitDefEqProofs [hP, hN])
    | (with_reducible refine yC_intro (c6) ?_; simp -implicitDefEqProofs [hP, hN]; (try refine ⟨by kernel_rfl, ?_⟩))
    | (with_reducible refine xC_intro (c7) ?_; simp -implicitDefEqProofs [hP, hN])
    | (with_reducible refine yC_intro (c7) ?_; simp -implicitDefEqProofs [hP, hN]; (try refine ⟨by kernel_rfl, ?_⟩))
    | (with_reducible refine xC_intro (c8) ?_; simp -implicitDefEqProofs [hP, hN])
    | (with_reducible refine yC_intro (c8) ?_; simp -implicitDefEqProofs [hP, hN]; (try refine ⟨by kernel_rfl, ?_⟩))
    | (with_reducible refine xC_intro (c9) ?_; simp -implicitDefEqProofs [hP, hN])
    | (with_reducible refine yC_intro (c9) ?_; simp -implicitDefEqProofs [hP, hN]; (try refine ⟨by kernel_rfl, ?_⟩))
    | (with_reducible refine xC_intro (c10) ?_; simp -implicitDefEqProofs [hP, hN])
    | (with_reducible refine yC_intro (c10) ?_; simp -implicitDefEqProofs [hP, hN]; (try refine ⟨by kernel_rfl, ?_⟩))
    | (with_reducible refine xC_intro (s1) ?_; simp -implicitDefEqProofs [hP, hN])
    | (with_reducible refine yC_intro (s1) ?_; simp -implicitDefEqProofs [hP, hN]; (try refine ⟨by kernel_rfl, ?_⟩))
    | (with_reducible refine xC_intro (s2) ?_; simp -implicitDefEqProofs [hP, hN])
    | (with_reducible refine yC_intro (s2) ?_; simp -implicitDefEqProofs [hP, hN]; (try refine ⟨by kernel_rfl, ?_⟩))
    | (with_reducible refine xC_intro (s3) ?_; simp -implicitDefEqProofs [hP, hN])
    | (with_reducible refine yC_intro (s3) ?_; simp -implicitDefEqProofs [hP, hN]; (try refine ⟨by kernel_rfl, ?_⟩))
    | with_reducible refine xTwo_intro ?_ ?_
    | (with_reducible refine WP.cond' ?_; simp -implicitDefEqProofs [hP, hN])
    | (with_reducible refine xCond_split (fun hcd => ?_) (fun hcd => ?_) <;> (try (exfalso; clear hP hN; simp_all; done)) <;> (try (exfalso; simp at *; omega)))
    | with_reducible refine WP.block ?_
    | (with_reducible refine WP.skip ?_; simp)
    | (with_reducible refine WP.exit ?_; simp)
    | (with_reducible refine WP.ret ?_; simp))
theorem insideB_eq {js : List J} {ms : List Ms} (b : List (Int × Int)) : (withinC b (limitsR js ms) && decide (0 < b.length)) = insideB js ms b := by
  unfold insideB limitsR
  by_cases hc : checkR js ms = 0
  · have hlen := checkR_len hc
    simp only [hc, if_true, decide_true, Bool.true_and]
    by_cases he : js.length = b.length
    · have hz : allZ withinI b (js.map limJ) = allZ (fun j x => withinI x (limJ j)) js b := by
        have e : allZ withinI b (js.map limJ) = true ↔ allZ (fun j x => withinI x (limJ j)) js b = true := by
          rw [allZ_iff, allZ_iff]
          constructor
          · intro H i h h'; have := H i h' (by simpa using h); simpa using this
          · intro H i h h'; have := H i (by simpa using h') h; simpa using this
        cases x : allZ withinI b (js.map limJ) <;> cases y : allZ (fun j x => withinI x (limJ j)) js b <;> simp_all
      simp only [withinC, List.length_map, hz]
      have p1 : decide (b.length = js.length) = true := by simp [he]
      have p2 : decide (js.length = b.length) = true := by simp [he]
      have p3 : decide (0 < b.length) = true := by simp; omega
      simp only [p1, p2, p3, Bool.true_and, Bool.and_true]
    · have h1 : decide (b.length = js.length) = false := by simp; omega
      have h2 : decide (js.length = b.length) = false := by simp; omega
      simp [withinC, h1, h2]
  · simp only [hc, if_false, decide_false, Bool.false_and]
    unfold withinC
    cases b <;> simp
theorem d81 (js : List J) (ms : List Ms) (b : List (Int × Int)) (hl : js.length ≤ 9223372036854775807) (hm : ms.length ≤ 9223372036854775807) (hb : b.length ≤ 9223372036854775807) : DetH Try.prog 81 [.pv (encR js ms), .pv (iv b)] [] [] (.pv (B (insideB js ms b))) := by
  have hll : (limitsR js ms).length ≤ 9223372036854775807 := by unfold limitsR; split <;> simp; omega
  have c1 := d83 js ms hl hm
  have c2 := d17 b (limitsR js ms) hb hll
  rw [withinL_eq] at c2
  rw [← insideB_eq]
  generalize limitsR js ms = u at *
  generalize withinC b u = v at *
  refine detP_of Try.func81 rfl (by kernel_rfl) (by simp [Try.f81]) rfl ?_
  intro C hP hN
  simp only [Try.f81] at hN ⊢
  repeat' (first
    | with_reducible refine WP.seq ?_
    | (with_reducible refine WP.region (hn := []) ?_; simp -implicitDefEqProofs [hP, hN])
    | (with_reducible refine WP.draw (hn := []) (by rw [hP]; kernel_rfl) (by kernel_rfl) ?_; simp -implicitDefEqProofs [hP, hN]; (try refine ⟨by kernel_rfl, ?_⟩))
    | (with_reducible refine xB_split (by simp) (fun hgd => ?_) (fun hgd => ?_) <;> first | (exfalso; simp at hgd; done) | (exfalso; simp at hgd; omega) | simp -implicitDefEqProofs [hP, hN])
    | (with_reducible refine yB_split (by simp) (fun hgd => ?_) (fun hgd => ?_) <;> first | (exfalso; simp at hgd; done) | (exfalso; simp at hgd; omega) | (simp -implicitDefEqProofs [hP, hN] <;> (try refine ⟨by kernel_rfl, ?_⟩)))
    | (with_reducible refine xC_intro (c1) ?_; simp -implicitDefEqProofs [hP, hN])
    | (with_reducible refine yC_intro (c1) ?_; simp -implicitDefEqProofs [hP, hN]; (try refine ⟨by kernel_rfl, ?_⟩))
    | (with_reducible refine xC_intro (c2) ?_; simp -implicitDefEqProofs [hP, hN])
    | (with_reducible refine yC_intro (c2) ?_; simp -implicitDefEqProofs [hP, hN]; (try refine ⟨by kernel_rfl, ?_⟩))
    | with_reducible refine xTwo_intro ?_ ?_
    | (with_reducible refine WP.cond' ?_; simp -implicitDefEqProofs [hP, hN])
    | (with_reducible refine xCond_split (fun hcd => ?_) (fun hcd => ?_) <;> (try (exfalso; clear hP hN; simp_all; done)) <;> (try (exfalso; simp at *; omega)))
    | with_reducible refine WP.block ?_
    | (with_reducible refine WP.skip ?_; simp)
    | (with_reducible refine WP.exit ?_; simp)
    | (with_reducible refine WP.ret ?_; simp))
  all_goals simp_all
theorem limitsR_len (js : List J) (ms : List Ms) : (limitsR js ms).length ≤ js.length := by unfold limitsR; split <;> simp
theorem boxL_len (c : List Int) : (boxL c).length ≤ c.length := by unfold boxL; split <;> simp
theorem middleL_len (c : List (Int × Int)) : (middleL c).length ≤ c.length := by unfold middleL; split <;> simp
set_option maxHeartbeats 8000000 in
theorem d39 (js : List J) (ms : List Ms) (c : List Int) (b : List (Int × Int)) (hl : js.length ≤ 9223372036854775807) (hm : ms.length ≤ 9223372036854775807) (hc : c.length ≤ 16777216) (hb : b.length ≤ 16777216) : DetH Try.prog 39 [.pv (encR js ms), .pv (zs c), .pv (iv b)] [] [] (.pv (B true)) := by
  have c1 := d78 js ms c hl hm
  have c2 := d79 js ms c hl hm
  have c3 := d80 js ms b hl hm
  have c4 := d81 js ms b hl hm (big hb)
  have c5 := d82 js ms hl hm
  have c6 := d83 js ms hl hm
  have c7 := d84 c hc
  have c8 := d19 c hc
  have c9 := d30 b c (big hb)
  have c10 := d25 b c (big hb) (big hc)
  have c11 := d28 b c hb
  have c12 := d85 b c hb
  have c13 := d29 b hb
  have c14 := d86 b hb
  have l1 : (limitsR js ms).length ≤ 9223372036854775807 := by have := limitsR_len js ms; omega
  have l2 : (boxL c).length ≤ 9223372036854775807 := by have := boxL_len c; omega
  have l3 : (clampL b c).length ≤ 9223372036854775807 := by have := clampL_len b c; omega
  have l4 : (middleL b).length ≤ 9223372036854775807 := by have := middleL_len b; omega
  have s1 := d20 (limitsR js ms) (limitsR js ms) l1 l1
  have s2 := d20 (boxL c) (boxL c) l2 l2
  have s3 := d26 (clampL b c) (clampL b c) l3 l3
  have s4 := d26 (middleL b) (middleL b) l4 l4
  rw [same_refl] at s1 s2 s3 s4
  rw [hasL_eq] at c10
  generalize insideR js ms c = u1 at *
  generalize insideB js ms b = u2 at *
  generalize limitsR js ms = u3 at *
  generalize boxL c = u4 at *
  generalize hasC b c = u5 at *
  generalize clampL b c = u6 at *
  generalize middleL b = u7 at *
  refine detP_of Try.func39 rfl (by kernel_rfl) (by simp [Try.f39]) rfl ?_
  intro C hP hN
  simp only [Try.f39] at hN ⊢
  repeat' (first
    | with_reducible refine WP.seq ?_
    | (with_reducible refine WP.region (hn := []) ?_; simp -implicitDefEqProofs [hP, hN])
    | (with_reducible refine WP.draw (hn := []) (by rw [hP]; kernel_rfl) (by kernel_rfl) ?_; simp -implicitDefEqProofs [hP, hN]; (try refine ⟨by kernel_rfl, ?_⟩))
    | (with_reducible refine xB_split (by simp) (fun hgd => ?_) (fun hgd => ?_) <;> first | (exfalso; simp at hgd; done) | (exfalso; simp at hgd; omega) | simp -implicitDefEqProofs [hP, hN])
    | (with_reducible refine yB_split (by simp) (fun hgd => ?_) (fun hgd => ?_) <;> first | (exfalso; simp at hgd; done) | (exfalso; simp at hgd; omega) | (simp -implicitDefEqProofs [hP, hN] <;> (try refine ⟨by kernel_rfl, ?_⟩)))
    | (with_reducible refine xC_intro (c1) ?_; simp -implicitDefEqProofs [hP, hN])
    | (with_reducible refine yC_intro (c1) ?_; simp -implicitDefEqProofs [hP, hN]; (try refine ⟨by kernel_rfl, ?_⟩))
    | (with_reducible refine xC_intro (c2) ?_; simp -implicitDefEqProofs [hP, hN])
    | (with_reducible refine yC_intro (c2) ?_; simp -implicitDefEqProofs [hP, hN]; (try refine ⟨by kernel_rfl, ?_⟩))
    | (with_reducible refine xC_intro (c3) ?_; simp -implicitDefEqProofs [hP, hN])
    | (with_reducible refine yC_intro (c3) ?_; simp -implicitDefEqProofs [hP, hN]; (try refine ⟨by kernel_rfl, ?_⟩))
    | (with_reducible refine xC_intro (c4) ?_; simp -implicitDefEqProofs [hP, hN])
    | (with_reducible refine yC_intro (c4) ?_; simp -implicitDefEqProofs [hP, hN]; (try refine ⟨by kernel_rfl, ?_⟩))
    | (with_reducible refine xC_intro (c5) ?_; simp -implicitDefEqProofs [hP, hN])
    | (with_reducible refine yC_intro (c5) ?_; simp -implicitDefEqProofs [hP, hN]; (try refine ⟨by kernel_rfl, ?_⟩))
    | (with_reducible refine xC_intro (c6) ?_; simp -implicitDefEqProofs [hP, hN])
    | (with_reducible refine yC_intro (c6) ?_; simp -implicitDefEqProofs [hP, hN]; (try refine ⟨by kernel_rfl, ?_⟩))
    | (with_reducible refine xC_intro (c7) ?_; simp -implicitDefEqProofs [hP, hN])
    | (with_reducible refine yC_intro (c7) ?_; simp -implicitDefEqProofs [hP, hN]; (try refine ⟨by kernel_rfl, ?_⟩))
    | (with_reducible refine xC_intro (c8) ?_; simp -implicitDefEqProofs [hP, hN])
    | (with_reducible refine yC_intro (c8) ?_; simp -implicitDefEqProofs [hP, hN]; (try refine ⟨by kernel_rfl, ?_⟩))
    | (with_reducible refine xC_intro (c9) ?_; simp -implicitDefEqProofs [hP, hN])
    | (with_reducible refine yC_intro (c9) ?_; simp -implicitDefEqProofs [hP, hN]; (try refine ⟨by kernel_rfl, ?_⟩))
    | (with_reducible refine xC_intro (c10) ?_; simp -implicitDefEqProofs [hP, hN])
    | (with_reducible refine yC_intro (c10) ?_; simp -implicitDefEqProofs [hP, hN]; (try refine ⟨by kernel_rfl, ?_⟩))
    | (with_reducible refine xC_intro (c11) ?_; simp -implicitDefEqProofs [hP, hN])
    | (with_reducible refine yC_intro (c11) ?_; simp -implicitDefEqProofs [hP, hN]; (try refine ⟨by kernel_rfl, ?_⟩))
    | (with_reducible refine xC_intro (c12) ?_; simp -implicitDefEqProofs [hP, hN])
    | (with_reducible refine yC_intro (c12) ?_; simp -implicitDefEqProofs [hP, hN]; (try refine ⟨by kernel_rfl, ?_⟩))
    | (with_reducible refine xC_intro (c13) ?_; simp -implicitDefEqProofs [hP, hN])
    | (with_reducible refine yC_intro (c13) ?_; simp -implicitDefEqProofs [hP, hN]; (try refine ⟨by kernel_rfl, ?_⟩))
    | (with_reducible refine xC_intro (c14) ?_; simp -implicitDefEqProofs [hP, hN])
    | (with_reducible refine yC_intro (c14) ?_; simp -implicitDefEqProofs [hP, hN]; (try refine ⟨by kernel_rfl, ?_⟩))
    | (with_reducible refine xC_intro (s1) ?_; simp -implicitDefEqProofs [hP, hN])
    | (with_reducible refine yC_intro (s1) ?_; simp -implicitDefEqProofs [hP, hN]; (try refine ⟨by kernel_rfl, ?_⟩))
    | (with_reducible refine xC_intro (s2) ?_; simp -implicitDefEqProofs [hP, hN])
    | (with_reducible refine yC_intro (s2) ?_; simp -implicitDefEqProofs [hP, hN]; (try refine ⟨by kernel_rfl, ?_⟩))
    | (with_reducible refine xC_intro (s3) ?_; simp -implicitDefEqProofs [hP, hN])
    | (with_reducible refine yC_intro (s3) ?_; simp -implicitDefEqProofs [hP, hN]; (try refine ⟨by kernel_rfl, ?_⟩))
    | (with_reducible refine xC_intro (s4) ?_; simp -implicitDefEqProofs [hP, hN])
    | (with_reducible refine yC_intro (s4) ?_; simp -implicitDefEqProofs [hP, hN]; (try refine ⟨by kernel_rfl, ?_⟩))
    | with_reducible refine xTwo_intro ?_ ?_
    | (with_reducible refine WP.cond' ?_; simp -implicitDefEqProofs [hP, hN])
    | (with_reducible refine xCond_split (fun hcd => ?_) (fun hcd => ?_) <;> (try (exfalso; clear hP hN; simp_all; done)) <;> (try (exfalso; simp at *; omega)))
    | with_reducible refine WP.block ?_
    | (with_reducible refine WP.skip ?_; simp)
    | (with_reducible refine WP.exit ?_; simp)
    | (with_reducible refine WP.ret ?_; simp))
set_option maxHeartbeats 8000000 in
theorem d11 (rjs : List J) (rms : List Ms) (a b : List (Int × Int)) (joint : Int) (l m n : List Int) (hl : rjs.length ≤ 9223372036854775807) (hm : rms.length ≤ 9223372036854775807) (ha : a.length ≤ 8000000) (hb : b.length ≤ 8000000) : DetH Try.prog 11 [.pv (encR rjs rms), .pv (iv a), .pv (iv b), .pv (Z joint), .pv (zs l), .pv (zs m), .pv (zs n)] [] [] (.pv (B true)) := by
  have hlen := rJs_len l 0
  have hmlen := rMs_len l
  obtain ⟨_, _, hx, hlx⟩ := rb_facts l m
  obtain ⟨_, _, hy, hly⟩ := rb_facts l n
  have cr := d21 l
  have cx := r27 m (rJs l 0) (rMs l 0) (by omega) (rJs_ok l 0)
  have cy := d27 n (rJs l 0) (rMs l 0) (by omega) (rJs_ok l 0)
  generalize mkBoxL m (rJs l 0) = x at *
  generalize mkBoxL n (rJs l 0) = y at *
  generalize rJs l 0 = js at *
  generalize rMs l 0 = ms at *
  have bl : js.length ≤ 9223372036854775807 := by omega
  have bm : ms.length ≤ 9223372036854775807 := by omega
  have hr := round_range joint (k := 5) (by decide) (by decide)
  have ck := d15 joint 5 (by decide)
  generalize roundI joint 5 = e at *
  have w1 : IntKind.i64.wrap (e - 1) = e - 1 := wr_id (by omega) (by omega)
  have cw := d33 x n (by omega) (fun z hz => (hx z hz).valid)
  have lw : (mkWithinL x n).length ≤ 16777216 := by rw [mkWithinL_len]; omega
  have b1 := d38 rjs rms a b joint hl hm (by omega) (by omega)
  have b2 := d38 js ms x y (e - 1) bl bm (by omega) (by omega)
  have b3 := d38 js ms (mkWithinL x n) x (e - 1) bl bm lw (by omega)
  have b4 := d38 js ms (x ++ a) b (e - 1) bl bm (by simp; omega) (by omega)
  generalize mkWithinL x n = v at *
  simp only [iv, List.map_append] at b4
  refine detP_of Try.func11 rfl (by kernel_rfl) (by simp [Try.f11]) rfl ?_
  intro C hP hN
  simp only [Try.f11] at hN ⊢
  repeat' (first
    | with_reducible refine WP.seq ?_
    | (with_reducible refine WP.region (hn := []) ?_; simp -implicitDefEqProofs [hP, hN, srcP, w1, show (x.length + a.length) * 16 ≤ 140737488355328 by omega, show x.length + a.length ≤ 9223372036854775807 by omega])
    | (with_reducible refine WP.draw (hn := []) (by rw [hP]; kernel_rfl) (by kernel_rfl) ?_; simp -implicitDefEqProofs [hP, hN, srcP, w1, show (x.length + a.length) * 16 ≤ 140737488355328 by omega, show x.length + a.length ≤ 9223372036854775807 by omega]; (try refine ⟨by kernel_rfl, ?_⟩))
    | (with_reducible refine xB_split (by simp [srcP, w1, show (x.length + a.length) * 16 ≤ 140737488355328 by omega, show x.length + a.length ≤ 9223372036854775807 by omega]) (fun hgd => ?_) (fun hgd => ?_) <;> first | (exfalso; simp at hgd; done) | (exfalso; simp at hgd; omega) | simp -implicitDefEqProofs [hP, hN, srcP, w1, show (x.length + a.length) * 16 ≤ 140737488355328 by omega, show x.length + a.length ≤ 9223372036854775807 by omega])
    | (with_reducible refine yB_split (by simp [srcP, w1, show (x.length + a.length) * 16 ≤ 140737488355328 by omega, show x.length + a.length ≤ 9223372036854775807 by omega]) (fun hgd => ?_) (fun hgd => ?_) <;> first | (exfalso; simp at hgd; done) | (exfalso; simp at hgd; omega) | (simp -implicitDefEqProofs [hP, hN, srcP, w1, show (x.length + a.length) * 16 ≤ 140737488355328 by omega, show x.length + a.length ≤ 9223372036854775807 by omega] <;> (try refine ⟨by kernel_rfl, ?_⟩)))
    | (with_reducible refine xC_intro (cr) ?_; simp -implicitDefEqProofs [hP, hN, srcP, w1, show (x.length + a.length) * 16 ≤ 140737488355328 by omega, show x.length + a.length ≤ 9223372036854775807 by omega])
    | (with_reducible refine yC_intro (cr) ?_; simp -implicitDefEqProofs [hP, hN, srcP, w1, show (x.length + a.length) * 16 ≤ 140737488355328 by omega, show x.length + a.length ≤ 9223372036854775807 by omega]; (try refine ⟨by kernel_rfl, ?_⟩))
    | (with_reducible refine xC_intro (cx) ?_; simp -implicitDefEqProofs [hP, hN, srcP, w1, show (x.length + a.length) * 16 ≤ 140737488355328 by omega, show x.length + a.length ≤ 9223372036854775807 by omega])
    | (with_reducible refine yC_intro (cx) ?_; simp -implicitDefEqProofs [hP, hN, srcP, w1, show (x.length + a.length) * 16 ≤ 140737488355328 by omega, show x.length + a.length ≤ 9223372036854775807 by omega]; (try refine ⟨by kernel_rfl, ?_⟩))
    | (with_reducible refine xC_intro (cy) ?_; simp -implicitDefEqProofs [hP, hN, srcP, w1, show (x.length + a.length) * 16 ≤ 140737488355328 by omega, show x.length + a.length ≤ 9223372036854775807 by omega])
    | (with_reducible refine yC_intro (cy) ?_; simp -implicitDefEqProofs [hP, hN, srcP, w1, show (x.length + a.length) * 16 ≤ 140737488355328 by omega, show x.length + a.length ≤ 9223372036854775807 by omega]; (try refine ⟨by kernel_rfl, ?_⟩))
    | (with_reducible refine xC_intro (ck) ?_; simp -implicitDefEqProofs [hP, hN, srcP, w1, show (x.length + a.length) * 16 ≤ 140737488355328 by omega, show x.length + a.length ≤ 9223372036854775807 by omega])
    | (with_reducible refine yC_intro (ck) ?_; simp -implicitDefEqProofs [hP, hN, srcP, w1, show (x.length + a.length) * 16 ≤ 140737488355328 by omega, show x.length + a.length ≤ 9223372036854775807 by omega]; (try refine ⟨by kernel_rfl, ?_⟩))
    | (with_reducible refine xC_intro (cw) ?_; simp -implicitDefEqProofs [hP, hN, srcP, w1, show (x.length + a.length) * 16 ≤ 140737488355328 by omega, show x.length + a.length ≤ 9223372036854775807 by omega])
    | (with_reducible refine yC_intro (cw) ?_; simp -implicitDefEqProofs [hP, hN, srcP, w1, show (x.length + a.length) * 16 ≤ 140737488355328 by omega, show x.length + a.length ≤ 9223372036854775807 by omega]; (try refine ⟨by kernel_rfl, ?_⟩))
    | (with_reducible refine xC_intro (b1) ?_; simp -implicitDefEqProofs [hP, hN, srcP, w1, show (x.length + a.length) * 16 ≤ 140737488355328 by omega, show x.length + a.length ≤ 9223372036854775807 by omega])
    | (with_reducible refine yC_intro (b1) ?_; simp -implicitDefEqProofs [hP, hN, srcP, w1, show (x.length + a.length) * 16 ≤ 140737488355328 by omega, show x.length + a.length ≤ 9223372036854775807 by omega]; (try refine ⟨by kernel_rfl, ?_⟩))
    | (with_reducible refine xC_intro (b2) ?_; simp -implicitDefEqProofs [hP, hN, srcP, w1, show (x.length + a.length) * 16 ≤ 140737488355328 by omega, show x.length + a.length ≤ 9223372036854775807 by omega])
    | (with_reducible refine yC_intro (b2) ?_; simp -implicitDefEqProofs [hP, hN, srcP, w1, show (x.length + a.length) * 16 ≤ 140737488355328 by omega, show x.length + a.length ≤ 9223372036854775807 by omega]; (try refine ⟨by kernel_rfl, ?_⟩))
    | (with_reducible refine xC_intro (b3) ?_; simp -implicitDefEqProofs [hP, hN, srcP, w1, show (x.length + a.length) * 16 ≤ 140737488355328 by omega, show x.length + a.length ≤ 9223372036854775807 by omega])
    | (with_reducible refine yC_intro (b3) ?_; simp -implicitDefEqProofs [hP, hN, srcP, w1, show (x.length + a.length) * 16 ≤ 140737488355328 by omega, show x.length + a.length ≤ 9223372036854775807 by omega]; (try refine ⟨by kernel_rfl, ?_⟩))
    | (with_reducible refine xC_intro (b4) ?_; simp -implicitDefEqProofs [hP, hN, srcP, w1, show (x.length + a.length) * 16 ≤ 140737488355328 by omega, show x.length + a.length ≤ 9223372036854775807 by omega])
    | (with_reducible refine yC_intro (b4) ?_; simp -implicitDefEqProofs [hP, hN, srcP, w1, show (x.length + a.length) * 16 ≤ 140737488355328 by omega, show x.length + a.length ≤ 9223372036854775807 by omega]; (try refine ⟨by kernel_rfl, ?_⟩))
    | (with_reducible refine xC_intro (d16) ?_; simp -implicitDefEqProofs [hP, hN, srcP, w1, show (x.length + a.length) * 16 ≤ 140737488355328 by omega, show x.length + a.length ≤ 9223372036854775807 by omega])
    | (with_reducible refine yC_intro (d16) ?_; simp -implicitDefEqProofs [hP, hN, srcP, w1, show (x.length + a.length) * 16 ≤ 140737488355328 by omega, show x.length + a.length ≤ 9223372036854775807 by omega]; (try refine ⟨by kernel_rfl, ?_⟩))
    | with_reducible refine xTwo_intro ?_ ?_
    | (with_reducible refine WP.cond' ?_; simp -implicitDefEqProofs [hP, hN, srcP, w1, show (x.length + a.length) * 16 ≤ 140737488355328 by omega, show x.length + a.length ≤ 9223372036854775807 by omega])
    | (with_reducible refine xCond_split (fun hcd => ?_) (fun hcd => ?_) <;> (try (exfalso; clear hP hN; simp_all; done)) <;> (try (exfalso; simp at *; omega)))
    | with_reducible refine WP.block ?_
    | (with_reducible refine WP.skip ?_; simp [srcP, w1, show (x.length + a.length) * 16 ≤ 140737488355328 by omega, show x.length + a.length ≤ 9223372036854775807 by omega])
    | (with_reducible refine WP.exit ?_; simp [srcP, w1, show (x.length + a.length) * 16 ≤ 140737488355328 by omega, show x.length + a.length ≤ 9223372036854775807 by omega])
    | (with_reducible refine WP.ret ?_; simp [srcP, w1, show (x.length + a.length) * 16 ≤ 140737488355328 by omega, show x.length + a.length ≤ 9223372036854775807 by omega]))
set_option maxHeartbeats 8000000 in
theorem d12 (rjs : List J) (rms : List Ms) (c : List Int) (b : List (Int × Int)) (l m n : List Int) (at_ v : Int) (hl : rjs.length ≤ 9223372036854775807) (hm : rms.length ≤ 9223372036854775807) (hc : c.length ≤ 8000000) (hb : b.length ≤ 8000000) : DetH Try.prog 12 [.pv (encR rjs rms), .pv (zs c), .pv (iv b), .pv (zs l), .pv (zs m), .pv (zs n), .pv (Z at_), .pv (Z v)] [] [] (.pv (B true)) := by
  have hlen := rJs_len l 0
  have hmlen := rMs_len l
  obtain ⟨_, _, hy, hly⟩ := rb_facts l n
  have cr := d21 l
  have cx := d22 m (rJs l 0) (rMs l 0) (by omega) (rJs_ok l 0)
  have cy := r27 n (rJs l 0) (rMs l 0) (by omega) (rJs_ok l 0)
  have lx := cfgL_len m (rJs l 0)
  generalize cfgL m (rJs l 0) = x at *
  generalize mkBoxL n (rJs l 0) = y at *
  generalize rJs l 0 = js at *
  generalize rMs l 0 = ms at *
  have bl : js.length ≤ 9223372036854775807 := by omega
  have bm : ms.length ≤ 9223372036854775807 := by omega
  have r1 := d15 at_ (x.length : Int) (by omega)
  have h1 := round_range at_ (k := (x.length : Int)) (by omega) (by omega)
  have r2 := d15 at_ 60 (by decide)
  have h2 := round_range at_ (k := 60) (by decide) (by decide)
  obtain ⟨i, hi⟩ := Int.eq_ofNat_of_zero_le h1.1
  rw [hi] at r1 h1
  have hil : i < x.length := by omega
  generalize roundI at_ 60 = e at *
  have hu : IntKind.u64.wrap e = e := by rw [IntKind.wrap_u64]; omega
  have h64 : e < 64 := by omega
  have b1 := d39 rjs rms c b hl hm (by omega) (by omega)
  have b2 := d39 js ms x y bl bm (by omega) (by omega)
  have b3 := d39 js ms (x.set i (v.fdiv (2 ^ e.toNat))) y bl bm (by simp; omega) (by omega)
  have b4 := d39 js ms c b bl bm (by omega) (by omega)
  have b5 := d39 js ms (x.set i (v.fdiv (2 ^ e.toNat))) (y ++ b) bl bm (by simp; omega) (by simp; omega)
  simp only [iv, zs, List.map_append, List.map_set] at b1 b2 b3 b4 b5
  refine detP_of Try.func12 rfl (by kernel_rfl) (by simp [Try.f12]) rfl ?_
  intro C hP hN
  simp only [Try.f12] at hN ⊢
  repeat' (first
    | with_reducible refine WP.seq ?_
    | (with_reducible refine WP.region (hn := []) ?_; simp -implicitDefEqProofs [hP, hN, srcP, hu, h2.1, bits64, min64 h64, hil, show x.length * 8 ≤ 140737488355328 by omega, show x.length ≤ 9223372036854775807 by omega, show (y.length + b.length) * 16 ≤ 140737488355328 by omega, show y.length + b.length ≤ 9223372036854775807 by omega])
    | (with_reducible refine WP.draw (hn := []) (by rw [hP]; kernel_rfl) (by kernel_rfl) ?_; simp -implicitDefEqProofs [hP, hN, srcP, hu, h2.1, bits64, min64 h64, hil, show x.length * 8 ≤ 140737488355328 by omega, show x.length ≤ 9223372036854775807 by omega, show (y.length + b.length) * 16 ≤ 140737488355328 by omega, show y.length + b.length ≤ 9223372036854775807 by omega]; (try refine ⟨by kernel_rfl, ?_⟩))
    | (with_reducible refine xB_split (by simp [srcP, hu, h2.1, bits64, min64 h64, hil, show x.length * 8 ≤ 140737488355328 by omega, show x.length ≤ 9223372036854775807 by omega, show (y.length + b.length) * 16 ≤ 140737488355328 by omega, show y.length + b.length ≤ 9223372036854775807 by omega]) (fun hgd => ?_) (fun hgd => ?_) <;> first | (exfalso; simp at hgd; done) | (exfalso; simp at hgd; omega) | simp -implicitDefEqProofs [hP, hN, srcP, hu, h2.1, bits64, min64 h64, hil, show x.length * 8 ≤ 140737488355328 by omega, show x.length ≤ 9223372036854775807 by omega, show (y.length + b.length) * 16 ≤ 140737488355328 by omega, show y.length + b.length ≤ 9223372036854775807 by omega])
    | (with_reducible refine yB_split (by simp [srcP, hu, h2.1, bits64, min64 h64, hil, show x.length * 8 ≤ 140737488355328 by omega, show x.length ≤ 9223372036854775807 by omega, show (y.length + b.length) * 16 ≤ 140737488355328 by omega, show y.length + b.length ≤ 9223372036854775807 by omega]) (fun hgd => ?_) (fun hgd => ?_) <;> first | (exfalso; simp at hgd; done) | (exfalso; simp at hgd; omega) | (simp -implicitDefEqProofs [hP, hN, srcP, hu, h2.1, bits64, min64 h64, hil, show x.length * 8 ≤ 140737488355328 by omega, show x.length ≤ 9223372036854775807 by omega, show (y.length + b.length) * 16 ≤ 140737488355328 by omega, show y.length + b.length ≤ 9223372036854775807 by omega] <;> (try refine ⟨by kernel_rfl, ?_⟩)))
    | (with_reducible refine xC_intro (cr) ?_; simp -implicitDefEqProofs [hP, hN, srcP, hu, h2.1, bits64, min64 h64, hil, show x.length * 8 ≤ 140737488355328 by omega, show x.length ≤ 9223372036854775807 by omega, show (y.length + b.length) * 16 ≤ 140737488355328 by omega, show y.length + b.length ≤ 9223372036854775807 by omega])
    | (with_reducible refine yC_intro (cr) ?_; simp -implicitDefEqProofs [hP, hN, srcP, hu, h2.1, bits64, min64 h64, hil, show x.length * 8 ≤ 140737488355328 by omega, show x.length ≤ 9223372036854775807 by omega, show (y.length + b.length) * 16 ≤ 140737488355328 by omega, show y.length + b.length ≤ 9223372036854775807 by omega]; (try refine ⟨by kernel_rfl, ?_⟩))
    | (with_reducible refine xC_intro (cx) ?_; simp -implicitDefEqProofs [hP, hN, srcP, hu, h2.1, bits64, min64 h64, hil, show x.length * 8 ≤ 140737488355328 by omega, show x.length ≤ 9223372036854775807 by omega, show (y.length + b.length) * 16 ≤ 140737488355328 by omega, show y.length + b.length ≤ 9223372036854775807 by omega])
    | (with_reducible refine yC_intro (cx) ?_; simp -implicitDefEqProofs [hP, hN, srcP, hu, h2.1, bits64, min64 h64, hil, show x.length * 8 ≤ 140737488355328 by omega, show x.length ≤ 9223372036854775807 by omega, show (y.length + b.length) * 16 ≤ 140737488355328 by omega, show y.length + b.length ≤ 9223372036854775807 by omega]; (try refine ⟨by kernel_rfl, ?_⟩))
    | (with_reducible refine xC_intro (cy) ?_; simp -implicitDefEqProofs [hP, hN, srcP, hu, h2.1, bits64, min64 h64, hil, show x.length * 8 ≤ 140737488355328 by omega, show x.length ≤ 9223372036854775807 by omega, show (y.length + b.length) * 16 ≤ 140737488355328 by omega, show y.length + b.length ≤ 9223372036854775807 by omega])
    | (with_reducible refine yC_intro (cy) ?_; simp -implicitDefEqProofs [hP, hN, srcP, hu, h2.1, bits64, min64 h64, hil, show x.length * 8 ≤ 140737488355328 by omega, show x.length ≤ 9223372036854775807 by omega, show (y.length + b.length) * 16 ≤ 140737488355328 by omega, show y.length + b.length ≤ 9223372036854775807 by omega]; (try refine ⟨by kernel_rfl, ?_⟩))
    | (with_reducible refine xC_intro (r1) ?_; simp -implicitDefEqProofs [hP, hN, srcP, hu, h2.1, bits64, min64 h64, hil, show x.length * 8 ≤ 140737488355328 by omega, show x.length ≤ 9223372036854775807 by omega, show (y.length + b.length) * 16 ≤ 140737488355328 by omega, show y.length + b.length ≤ 9223372036854775807 by omega])
    | (with_reducible refine yC_intro (r1) ?_; simp -implicitDefEqProofs [hP, hN, srcP, hu, h2.1, bits64, min64 h64, hil, show x.length * 8 ≤ 140737488355328 by omega, show x.length ≤ 9223372036854775807 by omega, show (y.length + b.length) * 16 ≤ 140737488355328 by omega, show y.length + b.length ≤ 9223372036854775807 by omega]; (try refine ⟨by kernel_rfl, ?_⟩))
    | (with_reducible refine xC_intro (r2) ?_; simp -implicitDefEqProofs [hP, hN, srcP, hu, h2.1, bits64, min64 h64, hil, show x.length * 8 ≤ 140737488355328 by omega, show x.length ≤ 9223372036854775807 by omega, show (y.length + b.length) * 16 ≤ 140737488355328 by omega, show y.length + b.length ≤ 9223372036854775807 by omega])
    | (with_reducible refine yC_intro (r2) ?_; simp -implicitDefEqProofs [hP, hN, srcP, hu, h2.1, bits64, min64 h64, hil, show x.length * 8 ≤ 140737488355328 by omega, show x.length ≤ 9223372036854775807 by omega, show (y.length + b.length) * 16 ≤ 140737488355328 by omega, show y.length + b.length ≤ 9223372036854775807 by omega]; (try refine ⟨by kernel_rfl, ?_⟩))
    | (with_reducible refine xC_intro (b1) ?_; simp -implicitDefEqProofs [hP, hN, srcP, hu, h2.1, bits64, min64 h64, hil, show x.length * 8 ≤ 140737488355328 by omega, show x.length ≤ 9223372036854775807 by omega, show (y.length + b.length) * 16 ≤ 140737488355328 by omega, show y.length + b.length ≤ 9223372036854775807 by omega])
    | (with_reducible refine yC_intro (b1) ?_; simp -implicitDefEqProofs [hP, hN, srcP, hu, h2.1, bits64, min64 h64, hil, show x.length * 8 ≤ 140737488355328 by omega, show x.length ≤ 9223372036854775807 by omega, show (y.length + b.length) * 16 ≤ 140737488355328 by omega, show y.length + b.length ≤ 9223372036854775807 by omega]; (try refine ⟨by kernel_rfl, ?_⟩))
    | (with_reducible refine xC_intro (b2) ?_; simp -implicitDefEqProofs [hP, hN, srcP, hu, h2.1, bits64, min64 h64, hil, show x.length * 8 ≤ 140737488355328 by omega, show x.length ≤ 9223372036854775807 by omega, show (y.length + b.length) * 16 ≤ 140737488355328 by omega, show y.length + b.length ≤ 9223372036854775807 by omega])
    | (with_reducible refine yC_intro (b2) ?_; simp -implicitDefEqProofs [hP, hN, srcP, hu, h2.1, bits64, min64 h64, hil, show x.length * 8 ≤ 140737488355328 by omega, show x.length ≤ 9223372036854775807 by omega, show (y.length + b.length) * 16 ≤ 140737488355328 by omega, show y.length + b.length ≤ 9223372036854775807 by omega]; (try refine ⟨by kernel_rfl, ?_⟩))
    | (with_reducible refine xC_intro (b3) ?_; simp -implicitDefEqProofs [hP, hN, srcP, hu, h2.1, bits64, min64 h64, hil, show x.length * 8 ≤ 140737488355328 by omega, show x.length ≤ 9223372036854775807 by omega, show (y.length + b.length) * 16 ≤ 140737488355328 by omega, show y.length + b.length ≤ 9223372036854775807 by omega])
    | (with_reducible refine yC_intro (b3) ?_; simp -implicitDefEqProofs [hP, hN, srcP, hu, h2.1, bits64, min64 h64, hil, show x.length * 8 ≤ 140737488355328 by omega, show x.length ≤ 9223372036854775807 by omega, show (y.length + b.length) * 16 ≤ 140737488355328 by omega, show y.length + b.length ≤ 9223372036854775807 by omega]; (try refine ⟨by kernel_rfl, ?_⟩))
    | (with_reducible refine xC_intro (b4) ?_; simp -implicitDefEqProofs [hP, hN, srcP, hu, h2.1, bits64, min64 h64, hil, show x.length * 8 ≤ 140737488355328 by omega, show x.length ≤ 9223372036854775807 by omega, show (y.length + b.length) * 16 ≤ 140737488355328 by omega, show y.length + b.length ≤ 9223372036854775807 by omega])
    | (with_reducible refine yC_intro (b4) ?_; simp -implicitDefEqProofs [hP, hN, srcP, hu, h2.1, bits64, min64 h64, hil, show x.length * 8 ≤ 140737488355328 by omega, show x.length ≤ 9223372036854775807 by omega, show (y.length + b.length) * 16 ≤ 140737488355328 by omega, show y.length + b.length ≤ 9223372036854775807 by omega]; (try refine ⟨by kernel_rfl, ?_⟩))
    | (with_reducible refine xC_intro (b5) ?_; simp -implicitDefEqProofs [hP, hN, srcP, hu, h2.1, bits64, min64 h64, hil, show x.length * 8 ≤ 140737488355328 by omega, show x.length ≤ 9223372036854775807 by omega, show (y.length + b.length) * 16 ≤ 140737488355328 by omega, show y.length + b.length ≤ 9223372036854775807 by omega])
    | (with_reducible refine yC_intro (b5) ?_; simp -implicitDefEqProofs [hP, hN, srcP, hu, h2.1, bits64, min64 h64, hil, show x.length * 8 ≤ 140737488355328 by omega, show x.length ≤ 9223372036854775807 by omega, show (y.length + b.length) * 16 ≤ 140737488355328 by omega, show y.length + b.length ≤ 9223372036854775807 by omega]; (try refine ⟨by kernel_rfl, ?_⟩))
    | (with_reducible refine xC_intro (d16) ?_; simp -implicitDefEqProofs [hP, hN, srcP, hu, h2.1, bits64, min64 h64, hil, show x.length * 8 ≤ 140737488355328 by omega, show x.length ≤ 9223372036854775807 by omega, show (y.length + b.length) * 16 ≤ 140737488355328 by omega, show y.length + b.length ≤ 9223372036854775807 by omega])
    | (with_reducible refine yC_intro (d16) ?_; simp -implicitDefEqProofs [hP, hN, srcP, hu, h2.1, bits64, min64 h64, hil, show x.length * 8 ≤ 140737488355328 by omega, show x.length ≤ 9223372036854775807 by omega, show (y.length + b.length) * 16 ≤ 140737488355328 by omega, show y.length + b.length ≤ 9223372036854775807 by omega]; (try refine ⟨by kernel_rfl, ?_⟩))
    | with_reducible refine xTwo_intro ?_ ?_
    | (with_reducible refine WP.cond' ?_; simp -implicitDefEqProofs [hP, hN, srcP, hu, h2.1, bits64, min64 h64, hil, show x.length * 8 ≤ 140737488355328 by omega, show x.length ≤ 9223372036854775807 by omega, show (y.length + b.length) * 16 ≤ 140737488355328 by omega, show y.length + b.length ≤ 9223372036854775807 by omega])
    | (with_reducible refine xCond_split (fun hcd => ?_) (fun hcd => ?_) <;> (try (exfalso; clear hP hN; simp_all; done)) <;> (try (exfalso; simp at *; omega)))
    | with_reducible refine WP.block ?_
    | (with_reducible refine WP.skip ?_; simp [srcP, hu, h2.1, bits64, min64 h64, hil, show x.length * 8 ≤ 140737488355328 by omega, show x.length ≤ 9223372036854775807 by omega, show (y.length + b.length) * 16 ≤ 140737488355328 by omega, show y.length + b.length ≤ 9223372036854775807 by omega])
    | (with_reducible refine WP.exit ?_; simp [srcP, hu, h2.1, bits64, min64 h64, hil, show x.length * 8 ≤ 140737488355328 by omega, show x.length ≤ 9223372036854775807 by omega, show (y.length + b.length) * 16 ≤ 140737488355328 by omega, show y.length + b.length ≤ 9223372036854775807 by omega])
    | (with_reducible refine WP.ret ?_; simp [srcP, hu, h2.1, bits64, min64 h64, hil, show x.length * 8 ≤ 140737488355328 by omega, show x.length ≤ 9223372036854775807 by omega, show (y.length + b.length) * 16 ≤ 140737488355328 by omega, show y.length + b.length ≤ 9223372036854775807 by omega]))
end Go.Ab
