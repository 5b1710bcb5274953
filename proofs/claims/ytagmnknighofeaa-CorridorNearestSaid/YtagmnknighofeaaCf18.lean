/- ConfigBoxes and ConfigLists: contracts and walks. -/
import Derived.Test.YtagmnknighofeaaCf17
set_option linter.all false
namespace Go.Ab
open Go.Proofs
theorem touchL_eq (xs ys : List (Int × Int)) : touchL xs ys = touchC xs ys := by
  unfold touchL touchC
  by_cases he : xs.length = ys.length
  · cases hz : allZ touchI xs ys with
    | false => simp
    | true =>
      rw [allZ_iff] at hz
      have v1 : allB vI xs = true := by
        rw [allB_iff]; intro x hx
        obtain ⟨i, hi, rfl⟩ := List.mem_iff_getElem.1 hx
        have := hz i hi (by omega)
        simp only [touchI, Bool.and_eq_true] at this; exact this.1.1
      have v2 : allB vI ys = true := by
        rw [allB_iff]; intro x hx
        obtain ⟨i, hi, rfl⟩ := List.mem_iff_getElem.1 hx
        have := hz i (by omega) hi
        simp only [touchI, Bool.and_eq_true] at this; exact this.1.2
      simp [v1, v2, he]
  · simp [he]
theorem withinL_eq (xs ys : List (Int × Int)) : withinL xs ys = withinC xs ys := by
  unfold withinL withinC
  by_cases he : xs.length = ys.length
  · cases hz : allZ withinI xs ys with
    | false => simp
    | true =>
      rw [allZ_iff] at hz
      have v1 : allB vI xs = true := by
        rw [allB_iff]; intro x hx
        obtain ⟨i, hi, rfl⟩ := List.mem_iff_getElem.1 hx
        have := hz i hi (by omega)
        simp only [withinI, Bool.and_eq_true] at this; exact this.1.1.1
      have v2 : allB vI ys = true := by
        rw [allB_iff]; intro x hx
        obtain ⟨i, hi, rfl⟩ := List.mem_iff_getElem.1 hx
        have := hz i (by omega) hi
        simp only [withinI, Bool.and_eq_true] at this; exact this.1.1.2
      simp [v1, v2, he]
  · simp [he]
theorem hasL_eq (xs : List (Int × Int)) (ys : List Int) : hasL xs ys = hasC xs ys := by
  unfold hasL hasC
  by_cases he : xs.length = ys.length
  · cases hz : allZ hasI xs ys with
    | false => simp
    | true =>
      rw [allZ_iff] at hz
      have v1 : allB vI xs = true := by
        rw [allB_iff]; intro x hx
        obtain ⟨i, hi, rfl⟩ := List.mem_iff_getElem.1 hx
        have := hz i hi (by omega)
        simp only [hasI, Bool.and_eq_true] at this; exact this.1.1
      simp [v1, he]
  · simp [he]
theorem hvF (xs : List (Int × Int)) (j : Int) (hl : xs.length ≤ 16777216) (hv : allB vI xs = false) : DetH Try.prog 119 [.pv (iv xs), .pv (Z j)] [] [] (.pv (.tup [iv [], iv [], B false])) := by
  refine detP_of Try.func119 rfl (by kernel_rfl) (by simp [Try.f119]) rfl ?_
  intro C hP hN
  simp only [Try.f119] at hN ⊢
  repeat' (first
    | with_reducible refine WP.seq ?_
    | (with_reducible refine WP.region (hn := []) ?_; simp -implicitDefEqProofs [hP, hN, hv])
    | (with_reducible refine WP.draw (hn := []) (by rw [hP]; kernel_rfl) (by kernel_rfl) ?_; simp -implicitDefEqProofs [hP, hN, hv]; (try refine ⟨by kernel_rfl, ?_⟩))
    | (with_reducible refine xB_split (by simp [hv]) (fun hgd => ?_) (fun hgd => ?_) <;> first | (exfalso; simp at hgd; done) | (exfalso; simp at hgd; omega) | simp -implicitDefEqProofs [hP, hN, hv])
    | (with_reducible refine yB_split (by simp [hv]) (fun hgd => ?_) (fun hgd => ?_) <;> first | (exfalso; simp at hgd; done) | (exfalso; simp at hgd; omega) | (simp -implicitDefEqProofs [hP, hN, hv] <;> (try refine ⟨by kernel_rfl, ?_⟩)))
    | (with_reducible refine xC_intro (d82 _ (big hl)) ?_; simp -implicitDefEqProofs [hP, hN, hv])
    | (with_reducible refine yC_intro (d82 _ (big hl)) ?_; simp -implicitDefEqProofs [hP, hN, hv]; (try refine ⟨by kernel_rfl, ?_⟩))
    | with_reducible refine xTwo_intro ?_ ?_
    | (with_reducible refine WP.cond' ?_; simp -implicitDefEqProofs [hP, hN, hv])
    | (with_reducible refine xCond_split (fun hcd => ?_) (fun hcd => ?_) <;> (try (exfalso; clear hP hN; simp_all; done)) <;> (try (exfalso; simp at *; omega)))
    | with_reducible refine WP.block ?_
    | (with_reducible refine WP.skip ?_; simp [hv])
    | (with_reducible refine WP.exit ?_; simp [hv])
    | (with_reducible refine WP.ret ?_; simp [hv]))
theorem hvN (xs : List (Int × Int)) (j : Int) (hl : xs.length ≤ 16777216) (hv : allB vI xs = true) (hj : j < 0) : DetH Try.prog 119 [.pv (iv xs), .pv (Z j)] [] [] (.pv (.tup [iv [], iv [], B false])) := by
  refine detP_of Try.func119 rfl (by kernel_rfl) (by simp [Try.f119]) rfl ?_
  intro C hP hN
  simp only [Try.f119] at hN ⊢
  repeat' (first
    | with_reducible refine WP.seq ?_
    | (with_reducible refine WP.region (hn := []) ?_; simp -implicitDefEqProofs [hP, hN, hv, hj])
    | (with_reducible refine WP.draw (hn := []) (by rw [hP]; kernel_rfl) (by kernel_rfl) ?_; simp -implicitDefEqProofs [hP, hN, hv, hj]; (try refine ⟨by kernel_rfl, ?_⟩))
    | (with_reducible refine xB_split (by simp [hv, hj]) (fun hgd => ?_) (fun hgd => ?_) <;> first | (exfalso; simp at hgd; done) | (exfalso; simp at hgd; omega) | simp -implicitDefEqProofs [hP, hN, hv, hj])
    | (with_reducible refine yB_split (by simp [hv, hj]) (fun hgd => ?_) (fun hgd => ?_) <;> first | (exfalso; simp at hgd; done) | (exfalso; simp at hgd; omega) | (simp -implicitDefEqProofs [hP, hN, hv, hj] <;> (try refine ⟨by kernel_rfl, ?_⟩)))
    | (with_reducible refine xC_intro (d82 _ (big hl)) ?_; simp -implicitDefEqProofs [hP, hN, hv, hj])
    | (with_reducible refine yC_intro (d82 _ (big hl)) ?_; simp -implicitDefEqProofs [hP, hN, hv, hj]; (try refine ⟨by kernel_rfl, ?_⟩))
    | with_reducible refine xTwo_intro ?_ ?_
    | (with_reducible refine WP.cond' ?_; simp -implicitDefEqProofs [hP, hN, hv, hj])
    | (with_reducible refine xCond_split (fun hcd => ?_) (fun hcd => ?_) <;> (try (exfalso; clear hP hN; simp_all; done)) <;> (try (exfalso; simp at *; omega)))
    | with_reducible refine WP.block ?_
    | (with_reducible refine WP.skip ?_; simp [hv, hj])
    | (with_reducible refine WP.exit ?_; simp [hv, hj])
    | (with_reducible refine WP.ret ?_; simp [hv, hj]))
theorem hvO (xs : List (Int × Int)) (n : Nat) (hl : xs.length ≤ 16777216) (hv : allB vI xs = true) (hlt : xs.length ≤ n) : DetH Try.prog 119 [.pv (iv xs), .pv (Z n)] [] [] (.pv (.tup [iv [], iv [], B false])) := by
  have hnl : (xs.length : Int) ≤ (n : Int) := by omega
  refine detP_of Try.func119 rfl (by kernel_rfl) (by simp [Try.f119]) rfl ?_
  intro C hP hN
  simp only [Try.f119] at hN ⊢
  repeat' (first
    | with_reducible refine WP.seq ?_
    | (with_reducible refine WP.region (hn := []) ?_; simp -implicitDefEqProofs [hP, hN, hv, hnl, hlt])
    | (with_reducible refine WP.draw (hn := []) (by rw [hP]; kernel_rfl) (by kernel_rfl) ?_; simp -implicitDefEqProofs [hP, hN, hv, hnl, hlt]; (try refine ⟨by kernel_rfl, ?_⟩))
    | (with_reducible refine xB_split (by simp [hv, hnl, hlt]) (fun hgd => ?_) (fun hgd => ?_) <;> first | (exfalso; simp at hgd; done) | (exfalso; simp at hgd; omega) | simp -implicitDefEqProofs [hP, hN, hv, hnl, hlt])
    | (with_reducible refine yB_split (by simp [hv, hnl, hlt]) (fun hgd => ?_) (fun hgd => ?_) <;> first | (exfalso; simp at hgd; done) | (exfalso; simp at hgd; omega) | (simp -implicitDefEqProofs [hP, hN, hv, hnl, hlt] <;> (try refine ⟨by kernel_rfl, ?_⟩)))
    | (with_reducible refine xC_intro (d82 _ (big hl)) ?_; simp -implicitDefEqProofs [hP, hN, hv, hnl, hlt])
    | (with_reducible refine yC_intro (d82 _ (big hl)) ?_; simp -implicitDefEqProofs [hP, hN, hv, hnl, hlt]; (try refine ⟨by kernel_rfl, ?_⟩))
    | with_reducible refine xTwo_intro ?_ ?_
    | (with_reducible refine WP.cond' ?_; simp -implicitDefEqProofs [hP, hN, hv, hnl, hlt])
    | (with_reducible refine xCond_split (fun hcd => ?_) (fun hcd => ?_) <;> (try (exfalso; clear hP hN; simp_all; done)) <;> (try (exfalso; simp at *; omega)))
    | with_reducible refine WP.block ?_
    | (with_reducible refine WP.skip ?_; simp [hv, hnl, hlt])
    | (with_reducible refine WP.exit ?_; simp [hv, hnl, hlt])
    | (with_reducible refine WP.ret ?_; simp [hv, hnl, hlt]))
theorem hvS (xs : List (Int × Int)) (n : Nat) (hl : xs.length ≤ 16777216) (hv : allB vI xs = true) (hlt : n < xs.length) (hw : IntKind.i64.wrap (xs[n].2 - xs[n].1) = xs[n].2 - xs[n].1) (hs : xs[n].2 - xs[n].1 < 2) : DetH Try.prog 119 [.pv (iv xs), .pv (Z n)] [] [] (.pv (.tup [iv [], iv [], B false])) := by
  have hnl : ¬ (xs.length : Int) ≤ (n : Int) := by omega
  refine detP_of Try.func119 rfl (by kernel_rfl) (by simp [Try.f119]) rfl ?_
  intro C hP hN
  simp only [Try.f119] at hN ⊢
  repeat' (first
    | with_reducible refine WP.seq ?_
    | (with_reducible refine WP.region (hn := []) ?_; simp -implicitDefEqProofs [hP, hN, hv, hlt, hw, hs, hnl, Nat.not_le.2 hlt])
    | (with_reducible refine WP.draw (hn := []) (by rw [hP]; kernel_rfl) (by kernel_rfl) ?_; simp -implicitDefEqProofs [hP, hN, hv, hlt, hw, hs, hnl, Nat.not_le.2 hlt]; (try refine ⟨by kernel_rfl, ?_⟩))
    | (with_reducible refine xB_split (by simp [hv, hlt, hw, hs, hnl, Nat.not_le.2 hlt]) (fun hgd => ?_) (fun hgd => ?_) <;> first | (exfalso; simp at hgd; done) | (exfalso; simp at hgd; omega) | simp -implicitDefEqProofs [hP, hN, hv, hlt, hw, hs, hnl, Nat.not_le.2 hlt])
    | (with_reducible refine yB_split (by simp [hv, hlt, hw, hs, hnl, Nat.not_le.2 hlt]) (fun hgd => ?_) (fun hgd => ?_) <;> first | (exfalso; simp at hgd; done) | (exfalso; simp at hgd; omega) | (simp -implicitDefEqProofs [hP, hN, hv, hlt, hw, hs, hnl, Nat.not_le.2 hlt] <;> (try refine ⟨by kernel_rfl, ?_⟩)))
    | (with_reducible refine xC_intro (d82 _ (big hl)) ?_; simp -implicitDefEqProofs [hP, hN, hv, hlt, hw, hs, hnl, Nat.not_le.2 hlt])
    | (with_reducible refine yC_intro (d82 _ (big hl)) ?_; simp -implicitDefEqProofs [hP, hN, hv, hlt, hw, hs, hnl, Nat.not_le.2 hlt]; (try refine ⟨by kernel_rfl, ?_⟩))
    | with_reducible refine xTwo_intro ?_ ?_
    | (with_reducible refine WP.cond' ?_; simp -implicitDefEqProofs [hP, hN, hv, hlt, hw, hs, hnl, Nat.not_le.2 hlt])
    | (with_reducible refine xCond_split (fun hcd => ?_) (fun hcd => ?_) <;> (try (exfalso; clear hP hN; simp_all; done)) <;> (try (exfalso; simp at *; omega)))
    | with_reducible refine WP.block ?_
    | (with_reducible refine WP.skip ?_; simp [hv, hlt, hw, hs, hnl, Nat.not_le.2 hlt])
    | (with_reducible refine WP.exit ?_; simp [hv, hlt, hw, hs, hnl, Nat.not_le.2 hlt])
    | (with_reducible refine WP.ret ?_; simp [hv, hlt, hw, hs, hnl, Nat.not_le.2 hlt]))
set_option maxHeartbeats 4000000 in
theorem hvY (xs : List (Int × Int)) (n : Nat) (hl : xs.length ≤ 16777216) (hv : allB vI xs = true) (hlt : n < xs.length) (hw : IntKind.i64.wrap (xs[n].2 - xs[n].1) = xs[n].2 - xs[n].1) (hs : ¬ xs[n].2 - xs[n].1 < 2) : DetH Try.prog 119 [.pv (iv xs), .pv (Z n)] [] [] (.pv (.tup [iv (xs.set n (xs[n].1, midI xs[n])), iv (xs.set n (midI xs[n], xs[n].2)), B true])) := by
  have hnl : ¬ (xs.length : Int) ≤ (n : Int) := by omega
  generalize hm : midI xs[n] = m
  have cm := d105 xs[n]
  rw [hm] at cm
  refine detP_of Try.func119 rfl (by kernel_rfl) (by simp [Try.f119]) rfl ?_
  intro C hP hN
  simp only [Try.f119] at hN ⊢
  repeat' (first
    | with_reducible refine WP.seq ?_
    | (with_reducible refine WP.region (hn := []) ?_; simp -implicitDefEqProofs [hP, hN, hv, hlt, hw, hs, hnl, Nat.not_le.2 hlt, show xs.length * 16 ≤ 140737488355328 by omega, show xs.length ≤ 9223372036854775807 by omega])
    | (with_reducible refine WP.draw (hn := []) (by rw [hP]; kernel_rfl) (by kernel_rfl) ?_; simp -implicitDefEqProofs [hP, hN, hv, hlt, hw, hs, hnl, Nat.not_le.2 hlt, show xs.length * 16 ≤ 140737488355328 by omega, show xs.length ≤ 9223372036854775807 by omega]; (try refine ⟨by kernel_rfl, ?_⟩))
    | (with_reducible refine xB_split (by simp [hv, hlt, hw, hs, hnl, Nat.not_le.2 hlt, show xs.length * 16 ≤ 140737488355328 by omega, show xs.length ≤ 9223372036854775807 by omega]) (fun hgd => ?_) (fun hgd => ?_) <;> first | (exfalso; simp at hgd; done) | (exfalso; simp at hgd; omega) | simp -implicitDefEqProofs [hP, hN, hv, hlt, hw, hs, hnl, Nat.not_le.2 hlt, show xs.length * 16 ≤ 140737488355328 by omega, show xs.length ≤ 9223372036854775807 by omega])
    | (with_reducible refine yB_split (by simp [hv, hlt, hw, hs, hnl, Nat.not_le.2 hlt, show xs.length * 16 ≤ 140737488355328 by omega, show xs.length ≤ 9223372036854775807 by omega]) (fun hgd => ?_) (fun hgd => ?_) <;> first | (exfalso; simp at hgd; done) | (exfalso; simp at hgd; omega) | (simp -implicitDefEqProofs [hP, hN, hv, hlt, hw, hs, hnl, Nat.not_le.2 hlt, show xs.length * 16 ≤ 140737488355328 by omega, show xs.length ≤ 9223372036854775807 by omega] <;> (try refine ⟨by kernel_rfl, ?_⟩)))
    | (with_reducible refine xC_intro (d82 _ (big hl)) ?_; simp -implicitDefEqProofs [hP, hN, hv, hlt, hw, hs, hnl, Nat.not_le.2 hlt, show xs.length * 16 ≤ 140737488355328 by omega, show xs.length ≤ 9223372036854775807 by omega])
    | (with_reducible refine yC_intro (d82 _ (big hl)) ?_; simp -implicitDefEqProofs [hP, hN, hv, hlt, hw, hs, hnl, Nat.not_le.2 hlt, show xs.length * 16 ≤ 140737488355328 by omega, show xs.length ≤ 9223372036854775807 by omega]; (try refine ⟨by kernel_rfl, ?_⟩))
    | (with_reducible refine xC_intro (cm) ?_; simp -implicitDefEqProofs [hP, hN, hv, hlt, hw, hs, hnl, Nat.not_le.2 hlt, show xs.length * 16 ≤ 140737488355328 by omega, show xs.length ≤ 9223372036854775807 by omega])
    | (with_reducible refine yC_intro (cm) ?_; simp -implicitDefEqProofs [hP, hN, hv, hlt, hw, hs, hnl, Nat.not_le.2 hlt, show xs.length * 16 ≤ 140737488355328 by omega, show xs.length ≤ 9223372036854775807 by omega]; (try refine ⟨by kernel_rfl, ?_⟩))
    | with_reducible refine xTwo_intro ?_ ?_
    | (with_reducible refine WP.cond' ?_; simp -implicitDefEqProofs [hP, hN, hv, hlt, hw, hs, hnl, Nat.not_le.2 hlt, show xs.length * 16 ≤ 140737488355328 by omega, show xs.length ≤ 9223372036854775807 by omega])
    | (with_reducible refine xCond_split (fun hcd => ?_) (fun hcd => ?_) <;> (try (exfalso; clear hP hN; simp_all; done)) <;> (try (exfalso; simp at *; omega)))
    | with_reducible refine WP.block ?_
    | (with_reducible refine WP.skip ?_; simp [hv, hlt, hw, hs, hnl, Nat.not_le.2 hlt, show xs.length * 16 ≤ 140737488355328 by omega, show xs.length ≤ 9223372036854775807 by omega])
    | (with_reducible refine WP.exit ?_; simp [hv, hlt, hw, hs, hnl, Nat.not_le.2 hlt, show xs.length * 16 ≤ 140737488355328 by omega, show xs.length ≤ 9223372036854775807 by omega])
    | (with_reducible refine WP.ret ?_; simp [hv, hlt, hw, hs, hnl, Nat.not_le.2 hlt, show xs.length * 16 ≤ 140737488355328 by omega, show xs.length ≤ 9223372036854775807 by omega]))
  all_goals simp [List.map_set]
theorem d119 (xs : List (Int × Int)) (j : Int) (hl : xs.length ≤ 16777216) : DetH Try.prog 119 [.pv (iv xs), .pv (Z j)] [] [] (.pv (.tup [iv (halveA xs j), iv (halveZ xs j), B (halveOk xs j)])) := by
  cases hv : allB vI xs with
  | false =>
    have hr : halveOk xs j = false := by simp [halveOk, hv]
    have hr1 : halveA xs j = [] := by simp [halveA, hr]
    have hr2 : halveZ xs j = [] := by simp [halveZ, hr]
    rw [hr, hr1, hr2]
    exact hvF xs j hl hv
  | true =>
    by_cases hj : 0 ≤ j
    · obtain ⟨n, rfl⟩ := Int.eq_ofNat_of_zero_le hj
      by_cases hlt : n < xs.length
      · have hx := List.getElem?_eq_getElem hlt
        have hvx : validB xs[n].1 xs[n].2 = true := allB_iff.1 hv _ (List.getElem_mem hlt)
        have hb := valid_range hvx
        have hwd : widthI xs[n] = xs[n].2 - xs[n].1 := by
          rw [widthI, hvx]; simp only [if_true]; exact wr_id (by omega) (by omega)
        have hw : IntKind.i64.wrap (xs[n].2 - xs[n].1) = xs[n].2 - xs[n].1 := wr_id (by omega) (by omega)
        by_cases hs : xs[n].2 - xs[n].1 < 2
        · have hr : halveOk xs (n : Int) = false := by simp [halveOk, hv, hx, hwd]; omega
          have hr1 : halveA xs (n : Int) = [] := by simp [halveA, hr]
          have hr2 : halveZ xs (n : Int) = [] := by simp [halveZ, hr]
          rw [hr, hr1, hr2]
          exact hvS xs n hl hv hlt hw hs
        · have hr : halveOk xs (n : Int) = true := by simp [halveOk, hv, hx, hwd]; omega
          have hr1 : halveA xs (n : Int) = xs.set n (xs[n].1, midI xs[n]) := by simp [halveA, hr, hx]
          have hr2 : halveZ xs (n : Int) = xs.set n (midI xs[n], xs[n].2) := by simp [halveZ, hr, hx]
          rw [hr, hr1, hr2]
          exact hvY xs n hl hv hlt hw hs
      · have hx : xs[n]? = none := List.getElem?_eq_none (by omega)
        have hr : halveOk xs (n : Int) = false := by simp [halveOk, hx]
        have hr1 : halveA xs (n : Int) = [] := by simp [halveA, hr]
        have hr2 : halveZ xs (n : Int) = [] := by simp [halveZ, hr]
        rw [hr, hr1, hr2]
        exact hvO xs n hl hv (Nat.not_lt.1 hlt)
    · have hr : halveOk xs j = false := by simp [halveOk, hj]
      have hr1 : halveA xs j = [] := by simp [halveA, hr]
      have hr2 : halveZ xs j = [] := by simp [halveZ, hr]
      rw [hr, hr1, hr2]
      exact hvN xs j hl hv (by omega)
/-- The widest interval so far. -/
def widT (js : List J) (b : List (Int × Int)) : Nat → Int × Int
  | 0 => (-1, 0)
  | i + 1 => match js[i]?, b[i]? with
    | some j, some x => if 2 ≤ widthI x ∧ (widT js b i).2 < wr (j.w * widthI x) then ((i : Int), wr (j.w * widthI x)) else widT js b i
    | _, _ => widT js b i
def widOk (js : List J) (ms : List Ms) (b : List (Int × Int)) : Bool := decide (b.length = js.length) && allB vI b && decide (checkR js ms = 0)
def widR (js : List J) (ms : List Ms) (b : List (Int × Int)) : Int := if widOk js ms b then (widT js b js.length).1 else -1
theorem widT_yes {js : List J} {b : List (Int × Int)} {i : Nat} (h1 : i < js.length) (h2 : i < b.length) (h : 2 ≤ widthI b[i] ∧ (widT js b i).2 < wr (js[i].w * widthI b[i])) : widT js b (i + 1) = ((i : Int), wr (js[i].w * widthI b[i])) := by
  simp [widT, h1, h2, h]
theorem widT_no {js : List J} {b : List (Int × Int)} {i : Nat} (h1 : i < js.length) (h2 : i < b.length) (h : ¬ (2 ≤ widthI b[i] ∧ (widT js b i).2 < wr (js[i].w * widthI b[i]))) : widT js b (i + 1) = widT js b i := by
  simp only [widT, List.getElem?_eq_getElem h1, List.getElem?_eq_getElem h2]; rw [if_neg h]
theorem hWidth (x : Int × Int) : DetH Try.prog 153 [.pv (encI x)] [] [] (.pv (Z (widthI x))) := d153 x.1 x.2
theorem d185 (js : List J) (ms : List Ms) (b : List (Int × Int)) (hb : b.length ≤ 9223372036854775807) : DetH Try.prog 185 [.pv (encR js ms), .pv (iv b)] [] [] (.pv (B (decide (b.length = js.length) && allB vI b))) := by
  refine detP_of Try.func185 rfl (by kernel_rfl) (by simp [Try.f185]) rfl ?_
  intro C hP hN
  simp only [Try.f185] at hN ⊢
  repeat' (first
    | with_reducible refine WP.seq ?_
    | (with_reducible refine WP.region (hn := []) ?_; simp -implicitDefEqProofs [hP, hN])
    | (with_reducible refine WP.draw (hn := []) (by rw [hP]; kernel_rfl) (by kernel_rfl) ?_; simp -implicitDefEqProofs [hP, hN]; (try refine ⟨by kernel_rfl, ?_⟩))
    | (with_reducible refine xB_split (by simp) (fun hgd => ?_) (fun hgd => ?_) <;> first | (exfalso; simp at hgd; done) | (exfalso; simp at hgd; omega) | simp -implicitDefEqProofs [hP, hN])
    | (with_reducible refine yB_split (by simp) (fun hgd => ?_) (fun hgd => ?_) <;> first | (exfalso; simp at hgd; done) | (exfalso; simp at hgd; omega) | (simp -implicitDefEqProofs [hP, hN] <;> (try refine ⟨by kernel_rfl, ?_⟩)))
    | (with_reducible refine xC_intro (d82 _ hb) ?_; simp -implicitDefEqProofs [hP, hN])
    | (with_reducible refine yC_intro (d82 _ hb) ?_; simp -implicitDefEqProofs [hP, hN]; (try refine ⟨by kernel_rfl, ?_⟩))
    | with_reducible refine xTwo_intro ?_ ?_
    | (with_reducible refine WP.cond' ?_; simp -implicitDefEqProofs [hP, hN])
    | (with_reducible refine xCond_split (fun hcd => ?_) (fun hcd => ?_) <;> (try (exfalso; clear hP hN; simp_all; done)) <;> (try (exfalso; simp at *; omega)))
    | with_reducible refine WP.block ?_
    | (with_reducible refine WP.skip ?_; simp)
    | (with_reducible refine WP.exit ?_; simp)
    | (with_reducible refine WP.ret ?_; simp))
  all_goals (simp_all <;> omega)
set_option maxHeartbeats 4000000 in
theorem d161 (js : List J) (ms : List Ms) (b : List (Int × Int)) (hl : js.length ≤ 9223372036854775807) (hm : ms.length ≤ 9223372036854775807) (hb : b.length ≤ 9223372036854775807) : DetH Try.prog 161 [.pv (encR js ms), .pv (iv b)] [] [] (.pv (Z (widR js ms b))) := by
  have ci := d185 js ms b hb
  cases hok : widOk js ms b with
  | false =>
    have hr : widR js ms b = -1 := by simp [widR, hok]
    rw [hr]
    by_cases hc : checkR js ms = 0
    · have hcn : (checkR js ms != 0) = false := by simp [hc]
      have hok' : (decide (b.length = js.length) && allB vI b) = false := by simpa [widOk, hc] using hok
      rw [hok'] at ci
      refine detP_of Try.func161 rfl (by kernel_rfl) (by simp [Try.f161]) rfl ?_
      intro C hP hN
      simp only [Try.f161] at hN ⊢
      repeat' (first
        | with_reducible refine WP.seq ?_
        | (with_reducible refine WP.region (hn := []) ?_; simp -implicitDefEqProofs [hP, hN, hc, hcn])
        | (with_reducible refine WP.draw (hn := []) (by rw [hP]; kernel_rfl) (by kernel_rfl) ?_; simp -implicitDefEqProofs [hP, hN, hc, hcn]; (try refine ⟨by kernel_rfl, ?_⟩))
        | (with_reducible refine xB_split (by simp [hc, hcn]) (fun hgd => ?_) (fun hgd => ?_) <;> first | (exfalso; simp at hgd; done) | (exfalso; simp at hgd; omega) | simp -implicitDefEqProofs [hP, hN, hc, hcn])
        | (with_reducible refine yB_split (by simp [hc, hcn]) (fun hgd => ?_) (fun hgd => ?_) <;> first | (exfalso; simp at hgd; done) | (exfalso; simp at hgd; omega) | (simp -implicitDefEqProofs [hP, hN, hc, hcn] <;> (try refine ⟨by kernel_rfl, ?_⟩)))
        | (with_reducible refine xC_intro (d184 js ms hl hm) ?_; simp -implicitDefEqProofs [hP, hN, hc, hcn])
        | (with_reducible refine yC_intro (d184 js ms hl hm) ?_; simp -implicitDefEqProofs [hP, hN, hc, hcn]; (try refine ⟨by kernel_rfl, ?_⟩))
        | (with_reducible refine xC_intro (ci) ?_; simp -implicitDefEqProofs [hP, hN, hc, hcn])
        | (with_reducible refine yC_intro (ci) ?_; simp -implicitDefEqProofs [hP, hN, hc, hcn]; (try refine ⟨by kernel_rfl, ?_⟩))
        | with_reducible refine xTwo_intro ?_ ?_
        | (with_reducible refine WP.cond' ?_; simp -implicitDefEqProofs [hP, hN, hc, hcn])
        | (with_reducible refine xCond_split (fun hcd => ?_) (fun hcd => ?_) <;> (try (exfalso; clear hP hN; simp_all; done)) <;> (try (exfalso; simp at *; omega)))
        | with_reducible refine WP.block ?_
        | (with_reducible refine WP.skip ?_; simp [hc, hcn])
        | (with_reducible refine WP.exit ?_; simp [hc, hcn])
        | (with_reducible refine WP.ret ?_; simp [hc, hcn]))
    · have hcn : (checkR js ms != 0) = true := by simp [hc]
      refine detP_of Try.func161 rfl (by kernel_rfl) (by simp [Try.f161]) rfl ?_
      intro C hP hN
      simp only [Try.f161] at hN ⊢
      repeat' (first
        | with_reducible refine WP.seq ?_
        | (with_reducible refine WP.region (hn := []) ?_; simp -implicitDefEqProofs [hP, hN, hcn])
        | (with_reducible refine WP.draw (hn := []) (by rw [hP]; kernel_rfl) (by kernel_rfl) ?_; simp -implicitDefEqProofs [hP, hN, hcn]; (try refine ⟨by kernel_rfl, ?_⟩))
        | (with_reducible refine xB_split (by simp [hcn]) (fun hgd => ?_) (fun hgd => ?_) <;> first | (exfalso; simp at hgd; done) | (exfalso; simp at hgd; omega) | simp -implicitDefEqProofs [hP, hN, hcn])
        | (with_reducible refine yB_split (by simp [hcn]) (fun hgd => ?_) (fun hgd => ?_) <;> first | (exfalso; simp at hgd; done) | (exfalso; simp at hgd; omega) | (simp -implicitDefEqProofs [hP, hN, hcn] <;> (try refine ⟨by kernel_rfl, ?_⟩)))
        | (with_reducible refine xC_intro (d184 js ms hl hm) ?_; simp -implicitDefEqProofs [hP, hN, hcn])
        | (with_reducible refine yC_intro (d184 js ms hl hm) ?_; simp -implicitDefEqProofs [hP, hN, hcn]; (try refine ⟨by kernel_rfl, ?_⟩))
        | (with_reducible refine xC_intro (ci) ?_; simp -implicitDefEqProofs [hP, hN, hcn])
        | (with_reducible refine yC_intro (ci) ?_; simp -implicitDefEqProofs [hP, hN, hcn]; (try refine ⟨by kernel_rfl, ?_⟩))
        | with_reducible refine xTwo_intro ?_ ?_
        | (with_reducible refine WP.cond' ?_; simp -implicitDefEqProofs [hP, hN, hcn])
        | (with_reducible refine xCond_split (fun hcd => ?_) (fun hcd => ?_) <;> (try (exfalso; clear hP hN; simp_all; done)) <;> (try (exfalso; simp at *; omega)))
        | with_reducible refine WP.block ?_
        | (with_reducible refine WP.skip ?_; simp [hcn])
        | (with_reducible refine WP.exit ?_; simp [hcn])
        | (with_reducible refine WP.ret ?_; simp [hcn]))
  | true =>
    have hr : widR js ms b = (widT js b js.length).1 := by simp [widR, hok]
    rw [hr]
    simp only [widOk, Bool.and_eq_true, decide_eq_true_eq] at hok
    obtain ⟨⟨e1, s1⟩, hc⟩ := hok
    have hok' : (decide (b.length = js.length) && allB vI b) = true := by simp [e1, s1]
    rw [hok'] at ci
    refine detP_of Try.func161 rfl (by kernel_rfl) (by simp [Try.f161]) rfl ?_
    intro C hP hN
    simp only [Try.f161] at hN ⊢
    repeat' (first
      | with_reducible refine WP.seq ?_
      | (with_reducible refine WP.region (hn := []) ?_; simp -implicitDefEqProofs [hP, hN, hc])
      | (with_reducible refine WP.draw (hn := []) (by rw [hP]; kernel_rfl) (by kernel_rfl) ?_; simp -implicitDefEqProofs [hP, hN, hc]; (try refine ⟨by kernel_rfl, ?_⟩))
      | (with_reducible refine xB_split (by simp [hc]) (fun hgd => ?_) (fun hgd => ?_) <;> first | (exfalso; simp at hgd; done) | (exfalso; simp at hgd; omega) | simp -implicitDefEqProofs [hP, hN, hc])
      | (with_reducible refine yB_split (by simp [hc]) (fun hgd => ?_) (fun hgd => ?_) <;> first | (exfalso; simp at hgd; done) | (exfalso; simp at hgd; omega) | (simp -implicitDefEqProofs [hP, hN, hc] <;> (try refine ⟨by kernel_rfl, ?_⟩)))
      | (with_reducible refine xC_intro (d184 js ms hl hm) ?_; simp -implicitDefEqProofs [hP, hN, hc])
      | (with_reducible refine yC_intro (d184 js ms hl hm) ?_; simp -implicitDefEqProofs [hP, hN, hc]; (try refine ⟨by kernel_rfl, ?_⟩))
      | (with_reducible refine xC_intro (ci) ?_; simp -implicitDefEqProofs [hP, hN, hc])
      | (with_reducible refine yC_intro (ci) ?_; simp -implicitDefEqProofs [hP, hN, hc]; (try refine ⟨by kernel_rfl, ?_⟩))
      | with_reducible refine xTwo_intro ?_ ?_
      | (with_reducible refine WP.cond' ?_; simp -implicitDefEqProofs [hP, hN, hc])
      | (with_reducible refine xCond_split (fun hcd => ?_) (fun hcd => ?_) <;> (try (exfalso; clear hP hN; simp_all; done)) <;> (try (exfalso; simp at *; omega)))
      | with_reducible refine WP.block ?_
      | (with_reducible refine WP.skip ?_; simp [hc])
      | (with_reducible refine WP.exit ?_; simp [hc])
      | (with_reducible refine WP.ret ?_; simp [hc]))
    refine WP.loopN [] js.length (fun i st => st.t 1 = .pv (iv b) ∧ st.t 2 = .ptr 2 0 ∧ st.h 2 = some (.box [.pv (.sl (js.map encJ)), .pv (.sl (ms.map encM))] true false) ∧ st.t 7 = .pv (Z i) ∧ st.t 5 = .pv (Z (widT js b i).1) ∧ st.t 6 = .pv (Z (widT js b i).2)) (by simp [widT]) ?_
    rintro i st hi ⟨g1, g2, hb2, g7, g5, g6⟩
    by_cases hlt : i < js.length
    · have hw := wr_succ hlt hl
      have hlb : i < b.length := by omega
      have hvx : validB b[i].1 b[i].2 = true := allB_iff.1 s1 _ (List.getElem_mem hlb)
      have hwd : IntKind.i64.wrap (b[i].2 - b[i].1) = widthI b[i] := by rw [widthI, hvx]; rfl
      have hcm : widthI b[i] * js[i].w = js[i].w * widthI b[i] := Int.mul_comm _ _
      by_cases h2 : 2 ≤ widthI b[i]
      · by_cases h3 : (widT js b i).2 < IntKind.i64.wrap (js[i].w * widthI b[i])
        · have hs := widT_yes hlt hlb ⟨h2, h3⟩
          repeat' (first
            | with_reducible refine WP.seq ?_
            | (with_reducible refine WP.region (hn := []) ?_; simp -implicitDefEqProofs [hP, hN, g1, g2, hb2, g7, g5, g6, hlt, hlb, hw, hwd, hcm, h2, h3])
            | (with_reducible refine WP.draw (hn := []) (by rw [hP]; kernel_rfl) (by kernel_rfl) ?_; simp -implicitDefEqProofs [hP, hN, g1, g2, hb2, g7, g5, g6, hlt, hlb, hw, hwd, hcm, h2, h3]; (try refine ⟨by kernel_rfl, ?_⟩))
            | (with_reducible refine xB_split (by simp [g1, g2, hb2, g7, g5, g6, hlt, hlb, hw, hwd, hcm, h2, h3]) (fun hgd => ?_) (fun hgd => ?_) <;> first | (exfalso; simp at hgd; done) | (exfalso; simp at hgd; omega) | simp -implicitDefEqProofs [hP, hN, g1, g2, hb2, g7, g5, g6, hlt, hlb, hw, hwd, hcm, h2, h3])
            | (with_reducible refine yB_split (by simp [g1, g2, hb2, g7, g5, g6, hlt, hlb, hw, hwd, hcm, h2, h3]) (fun hgd => ?_) (fun hgd => ?_) <;> first | (exfalso; simp at hgd; done) | (exfalso; simp at hgd; omega) | (simp -implicitDefEqProofs [hP, hN, g1, g2, hb2, g7, g5, g6, hlt, hlb, hw, hwd, hcm, h2, h3] <;> (try refine ⟨by kernel_rfl, ?_⟩)))
            | with_reducible refine xTwo_intro ?_ ?_
            | (with_reducible refine WP.cond' ?_; simp -implicitDefEqProofs [hP, hN, g1, g2, hb2, g7, g5, g6, hlt, hlb, hw, hwd, hcm, h2, h3])
            | (with_reducible refine xCond_split (fun hcd => ?_) (fun hcd => ?_) <;> (try (exfalso; clear hP hN; simp_all; done)) <;> (try (exfalso; simp at *; omega)))
            | with_reducible refine WP.block ?_
            | (with_reducible refine WP.skip ?_; simp [g1, g2, hb2, g7, g5, g6, hlt, hlb, hw, hwd, hcm, h2, h3])
            | (with_reducible refine WP.exit ?_; simp [g1, g2, hb2, g7, g5, g6, hlt, hlb, hw, hwd, hcm, h2, h3])
            | (with_reducible refine WP.ret ?_; simp [g1, g2, hb2, g7, g5, g6, hlt, hlb, hw, hwd, hcm, h2, h3]))
          all_goals simp [hs]
        · have hs := widT_no hlt hlb (fun h => h3 h.2)
          repeat' (first
            | with_reducible refine WP.seq ?_
            | (with_reducible refine WP.region (hn := []) ?_; simp -implicitDefEqProofs [hP, hN, g1, g2, hb2, g7, g5, g6, hlt, hlb, hw, hwd, hcm, h2, h3])
            | (with_reducible refine WP.draw (hn := []) (by rw [hP]; kernel_rfl) (by kernel_rfl) ?_; simp -implicitDefEqProofs [hP, hN, g1, g2, hb2, g7, g5, g6, hlt, hlb, hw, hwd, hcm, h2, h3]; (try refine ⟨by kernel_rfl, ?_⟩))
            | (with_reducible refine xB_split (by simp [g1, g2, hb2, g7, g5, g6, hlt, hlb, hw, hwd, hcm, h2, h3]) (fun hgd => ?_) (fun hgd => ?_) <;> first | (exfalso; simp at hgd; done) | (exfalso; simp at hgd; omega) | simp -implicitDefEqProofs [hP, hN, g1, g2, hb2, g7, g5, g6, hlt, hlb, hw, hwd, hcm, h2, h3])
            | (with_reducible refine yB_split (by simp [g1, g2, hb2, g7, g5, g6, hlt, hlb, hw, hwd, hcm, h2, h3]) (fun hgd => ?_) (fun hgd => ?_) <;> first | (exfalso; simp at hgd; done) | (exfalso; simp at hgd; omega) | (simp -implicitDefEqProofs [hP, hN, g1, g2, hb2, g7, g5, g6, hlt, hlb, hw, hwd, hcm, h2, h3] <;> (try refine ⟨by kernel_rfl, ?_⟩)))
            | with_reducible refine xTwo_intro ?_ ?_
            | (with_reducible refine WP.cond' ?_; simp -implicitDefEqProofs [hP, hN, g1, g2, hb2, g7, g5, g6, hlt, hlb, hw, hwd, hcm, h2, h3])
            | (with_reducible refine xCond_split (fun hcd => ?_) (fun hcd => ?_) <;> (try (exfalso; clear hP hN; simp_all; done)) <;> (try (exfalso; simp at *; omega)))
            | with_reducible refine WP.block ?_
            | (with_reducible refine WP.skip ?_; simp [g1, g2, hb2, g7, g5, g6, hlt, hlb, hw, hwd, hcm, h2, h3])
            | (with_reducible refine WP.exit ?_; simp [g1, g2, hb2, g7, g5, g6, hlt, hlb, hw, hwd, hcm, h2, h3])
            | (with_reducible refine WP.ret ?_; simp [g1, g2, hb2, g7, g5, g6, hlt, hlb, hw, hwd, hcm, h2, h3]))
          all_goals simp [hs]
      · have hs := widT_no hlt hlb (fun h => h2 h.1)
        repeat' (first
          | with_reducible refine WP.seq ?_
          | (with_reducible refine WP.region (hn := []) ?_; simp -implicitDefEqProofs [hP, hN, g1, g2, hb2, g7, g5, g6, hlt, hlb, hw, hwd, hcm, h2])
          | (with_reducible refine WP.draw (hn := []) (by rw [hP]; kernel_rfl) (by kernel_rfl) ?_; simp -implicitDefEqProofs [hP, hN, g1, g2, hb2, g7, g5, g6, hlt, hlb, hw, hwd, hcm, h2]; (try refine ⟨by kernel_rfl, ?_⟩))
          | (with_reducible refine xB_split (by simp [g1, g2, hb2, g7, g5, g6, hlt, hlb, hw, hwd, hcm, h2]) (fun hgd => ?_) (fun hgd => ?_) <;> first | (exfalso; simp at hgd; done) | (exfalso; simp at hgd; omega) | simp -implicitDefEqProofs [hP, hN, g1, g2, hb2, g7, g5, g6, hlt, hlb, hw, hwd, hcm, h2])
          | (with_reducible refine yB_split (by simp [g1, g2, hb2, g7, g5, g6, hlt, hlb, hw, hwd, hcm, h2]) (fun hgd => ?_) (fun hgd => ?_) <;> first | (exfalso; simp at hgd; done) | (exfalso; simp at hgd; omega) | (simp -implicitDefEqProofs [hP, hN, g1, g2, hb2, g7, g5, g6, hlt, hlb, hw, hwd, hcm, h2] <;> (try refine ⟨by kernel_rfl, ?_⟩)))
          | with_reducible refine xTwo_intro ?_ ?_
          | (with_reducible refine WP.cond' ?_; simp -implicitDefEqProofs [hP, hN, g1, g2, hb2, g7, g5, g6, hlt, hlb, hw, hwd, hcm, h2])
          | (with_reducible refine xCond_split (fun hcd => ?_) (fun hcd => ?_) <;> (try (exfalso; clear hP hN; simp_all; done)) <;> (try (exfalso; simp at *; omega)))
          | with_reducible refine WP.block ?_
          | (with_reducible refine WP.skip ?_; simp [g1, g2, hb2, g7, g5, g6, hlt, hlb, hw, hwd, hcm, h2])
          | (with_reducible refine WP.exit ?_; simp [g1, g2, hb2, g7, g5, g6, hlt, hlb, hw, hwd, hcm, h2])
          | (with_reducible refine WP.ret ?_; simp [g1, g2, hb2, g7, g5, g6, hlt, hlb, hw, hwd, hcm, h2]))
        all_goals simp [hs]
    · have hi' : i = js.length := by omega
      subst hi'
      have hnb : ¬ js.length < b.length := by omega
      repeat' (first
        | with_reducible refine WP.seq ?_
        | (with_reducible refine WP.region (hn := []) ?_; simp -implicitDefEqProofs [hP, hN, g1, g2, hb2, g7, g5, g6, hnb])
        | (with_reducible refine WP.draw (hn := []) (by rw [hP]; kernel_rfl) (by kernel_rfl) ?_; simp -implicitDefEqProofs [hP, hN, g1, g2, hb2, g7, g5, g6, hnb]; (try refine ⟨by kernel_rfl, ?_⟩))
        | (with_reducible refine xB_split (by simp [g1, g2, hb2, g7, g5, g6, hnb]) (fun hgd => ?_) (fun hgd => ?_) <;> first | (exfalso; simp at hgd; done) | (exfalso; simp at hgd; omega) | simp -implicitDefEqProofs [hP, hN, g1, g2, hb2, g7, g5, g6, hnb])
        | (with_reducible refine yB_split (by simp [g1, g2, hb2, g7, g5, g6, hnb]) (fun hgd => ?_) (fun hgd => ?_) <;> first | (exfalso; simp at hgd; done) | (exfalso; simp at hgd; omega) | (simp -implicitDefEqProofs [hP, hN, g1, g2, hb2, g7, g5, g6, hnb] <;> (try refine ⟨by kernel_rfl, ?_⟩)))
        | with_reducible refine xTwo_intro ?_ ?_
        | (with_reducible refine WP.cond' ?_; simp -implicitDefEqProofs [hP, hN, g1, g2, hb2, g7, g5, g6, hnb])
        | (with_reducible refine xCond_split (fun hcd => ?_) (fun hcd => ?_) <;> (try (exfalso; clear hP hN; simp_all; done)) <;> (try (exfalso; simp at *; omega)))
        | with_reducible refine WP.block ?_
        | (with_reducible refine WP.skip ?_; simp [g1, g2, hb2, g7, g5, g6, hnb])
        | (with_reducible refine WP.exit ?_; simp [g1, g2, hb2, g7, g5, g6, hnb])
        | (with_reducible refine WP.ret ?_; simp [g1, g2, hb2, g7, g5, g6, hnb]))
end Go.Ab
