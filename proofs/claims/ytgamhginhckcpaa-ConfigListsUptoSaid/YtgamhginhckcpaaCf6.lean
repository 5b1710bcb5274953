/- Contracts: Halve, awake. -/
import Derived.Test.YtgamhginhckcpaaCf5
set_option linter.all false
namespace Go.Ab
open Go.Proofs
def widthI (x : Int × Int) : Int := if validB x.1 x.2 then wr (x.2 - x.1) else 0
def midI (x : Int × Int) : Int := if validB x.1 x.2 then (wr (x.1 + x.2)).fdiv 2 else 0
def halveOk (xs : List (Int × Int)) (j : Int) : Bool := decide (0 ≤ j) && allB vI xs && (match xs[j.toNat]? with | some x => decide (2 ≤ widthI x) | none => false)
def halveA (xs : List (Int × Int)) (j : Int) : List (Int × Int) := if halveOk xs j then (match xs[j.toNat]? with | some x => xs.set j.toNat (x.1, midI x) | none => []) else []
def halveZ (xs : List (Int × Int)) (j : Int) : List (Int × Int) := if halveOk xs j then (match xs[j.toNat]? with | some x => xs.set j.toNat (midI x, x.2) | none => []) else []
theorem d32 (xs : List (Int × Int)) (j : Int) (hl : xs.length ≤ 16777216) : DetH Try.prog 32 [.pv (iv xs), .pv (Z j)] [] [] (.pv (.tup [iv (halveA xs j), iv (halveZ xs j), B (halveOk xs j)])) := by
  refine detP_of Try.func32 rfl (by kernel_rfl) (by simp [Try.f32]) rfl ?_
  intro C hP hN
  simp only [Try.f32] at hN ⊢
  by_cases hj : 0 ≤ j
  · obtain ⟨n, rfl⟩ := Int.eq_ofNat_of_zero_le hj
    by_cases hlt : n < xs.length
    · cases hv : allB vI xs with
      | false =>
        repeat' (first
          | with_reducible refine WP.seq ?_
          | (with_reducible refine WP.region (hn := []) ?_; simp [hP, hN, hlt, hv])
          | (with_reducible refine WP.draw (hn := []) (by rw [hP]; kernel_rfl) (by kernel_rfl) ?_; simp [hP, hN, hlt, hv]; (try refine ⟨by kernel_rfl, ?_⟩))
          | (with_reducible refine xB_split (by simp [hlt, hv]) (fun hgd => ?_) (fun hgd => ?_) <;> first | (exfalso; simp at hgd; done) | (exfalso; simp at hgd; omega) | simp [hP, hN, hlt, hv])
          | (with_reducible refine yB_split (by simp [hlt, hv]) (fun hgd => ?_) (fun hgd => ?_) <;> first | (exfalso; simp at hgd; done) | (exfalso; simp at hgd; omega) | (simp [hP, hN, hlt, hv] <;> (try refine ⟨by kernel_rfl, ?_⟩)))
          | (with_reducible refine xC_intro (d56 _ (big hl)) ?_; simp [hP, hN, hlt, hv])
          | (with_reducible refine yC_intro (d56 _ (big hl)) ?_; simp [hP, hN, hlt, hv]; (try refine ⟨by kernel_rfl, ?_⟩))
          | with_reducible refine xTwo_intro ?_ ?_
          | (with_reducible refine WP.cond' ?_; simp [hP, hN, hlt, hv])
          | (with_reducible refine xCond_split (fun hcd => ?_) (fun hcd => ?_) <;> (try (exfalso; clear hP hN; simp_all; done)) <;> (try (exfalso; simp at *; omega)))
          | with_reducible refine WP.block ?_
          | (with_reducible refine WP.skip ?_; simp [hlt, hv])
          | (with_reducible refine WP.exit ?_; simp [hlt, hv])
          | (with_reducible refine WP.ret ?_; simp [hlt, hv]))
        all_goals simp [halveA, halveZ, halveOk, hv]
      | true =>
        have hx := List.getElem?_eq_getElem hlt
        generalize hxx : xs[n] = x at hx
        by_cases hwd : widthI x < 2
        · have hwd' := hwd
          simp only [widthI] at hwd'
          repeat' (first
            | with_reducible refine WP.seq ?_
            | (with_reducible refine WP.region (hn := []) ?_; simp [hP, hN, hlt, hv, hx, hxx, hwd'])
            | (with_reducible refine WP.draw (hn := []) (by rw [hP]; kernel_rfl) (by kernel_rfl) ?_; simp [hP, hN, hlt, hv, hx, hxx, hwd']; (try refine ⟨by kernel_rfl, ?_⟩))
            | (with_reducible refine xB_split (by simp [hlt, hv, hx, hxx, hwd']) (fun hgd => ?_) (fun hgd => ?_) <;> first | (exfalso; simp at hgd; done) | (exfalso; simp at hgd; omega) | simp [hP, hN, hlt, hv, hx, hxx, hwd'])
            | (with_reducible refine yB_split (by simp [hlt, hv, hx, hxx, hwd']) (fun hgd => ?_) (fun hgd => ?_) <;> first | (exfalso; simp at hgd; done) | (exfalso; simp at hgd; omega) | (simp [hP, hN, hlt, hv, hx, hxx, hwd'] <;> (try refine ⟨by kernel_rfl, ?_⟩)))
            | (with_reducible refine xC_intro (d56 _ (big hl)) ?_; simp [hP, hN, hlt, hv, hx, hxx, hwd'])
            | (with_reducible refine yC_intro (d56 _ (big hl)) ?_; simp [hP, hN, hlt, hv, hx, hxx, hwd']; (try refine ⟨by kernel_rfl, ?_⟩))
            | (with_reducible refine xC_intro (d66 _ _) ?_; simp [hP, hN, hlt, hv, hx, hxx, hwd'])
            | (with_reducible refine yC_intro (d66 _ _) ?_; simp [hP, hN, hlt, hv, hx, hxx, hwd']; (try refine ⟨by kernel_rfl, ?_⟩))
            | with_reducible refine xTwo_intro ?_ ?_
            | (with_reducible refine WP.cond' ?_; simp [hP, hN, hlt, hv, hx, hxx, hwd'])
            | (with_reducible refine xCond_split (fun hcd => ?_) (fun hcd => ?_) <;> (try (exfalso; clear hP hN; simp_all; done)) <;> (try (exfalso; simp at *; omega)))
            | with_reducible refine WP.block ?_
            | (with_reducible refine WP.skip ?_; simp [hlt, hv, hx, hxx, hwd'])
            | (with_reducible refine WP.exit ?_; simp [hlt, hv, hx, hxx, hwd'])
            | (with_reducible refine WP.ret ?_; simp [hlt, hv, hx, hxx, hwd']))
          all_goals simp [halveA, halveZ, halveOk, hv, hx, Int.not_le.2 hwd]
        · have hwd' := hwd
          simp only [widthI] at hwd'
          repeat' (first
            | with_reducible refine WP.seq ?_
            | (with_reducible refine WP.region (hn := []) ?_; simp [hP, hN, hlt, hv, hx, hxx, hwd', show (16 : Int) * xs.length ≤ 281474976710656 by omega, show (xs.length : Int) ≤ 9223372036854775807 by omega])
            | (with_reducible refine WP.draw (hn := []) (by rw [hP]; kernel_rfl) (by kernel_rfl) ?_; simp [hP, hN, hlt, hv, hx, hxx, hwd', show (16 : Int) * xs.length ≤ 281474976710656 by omega, show (xs.length : Int) ≤ 9223372036854775807 by omega]; (try refine ⟨by kernel_rfl, ?_⟩))
            | (with_reducible refine xB_split (by simp [hlt, hv, hx, hxx, hwd', show (16 : Int) * xs.length ≤ 281474976710656 by omega, show (xs.length : Int) ≤ 9223372036854775807 by omega]) (fun hgd => ?_) (fun hgd => ?_) <;> first | (exfalso; simp at hgd; done) | (exfalso; simp at hgd; omega) | simp [hP, hN, hlt, hv, hx, hxx, hwd', show (16 : Int) * xs.length ≤ 281474976710656 by omega, show (xs.length : Int) ≤ 9223372036854775807 by omega])
            | (with_reducible refine yB_split (by simp [hlt, hv, hx, hxx, hwd', show (16 : Int) * xs.length ≤ 281474976710656 by omega, show (xs.length : Int) ≤ 9223372036854775807 by omega]) (fun hgd => ?_) (fun hgd => ?_) <;> first | (exfalso; simp at hgd; done) | (exfalso; simp at hgd; omega) | (simp [hP, hN, hlt, hv, hx, hxx, hwd', show (16 : Int) * xs.length ≤ 281474976710656 by omega, show (xs.length : Int) ≤ 9223372036854775807 by omega] <;> (try refine ⟨by kernel_rfl, ?_⟩)))
            | (with_reducible refine xC_intro (d56 _ (big hl)) ?_; simp [hP, hN, hlt, hv, hx, hxx, hwd', show (16 : Int) * xs.length ≤ 281474976710656 by omega, show (xs.length : Int) ≤ 9223372036854775807 by omega])
            | (with_reducible refine yC_intro (d56 _ (big hl)) ?_; simp [hP, hN, hlt, hv, hx, hxx, hwd', show (16 : Int) * xs.length ≤ 281474976710656 by omega, show (xs.length : Int) ≤ 9223372036854775807 by omega]; (try refine ⟨by kernel_rfl, ?_⟩))
            | (with_reducible refine xC_intro (d66 _ _) ?_; simp [hP, hN, hlt, hv, hx, hxx, hwd', show (16 : Int) * xs.length ≤ 281474976710656 by omega, show (xs.length : Int) ≤ 9223372036854775807 by omega])
            | (with_reducible refine yC_intro (d66 _ _) ?_; simp [hP, hN, hlt, hv, hx, hxx, hwd', show (16 : Int) * xs.length ≤ 281474976710656 by omega, show (xs.length : Int) ≤ 9223372036854775807 by omega]; (try refine ⟨by kernel_rfl, ?_⟩))
            | (with_reducible refine xC_intro (d60 _ _) ?_; simp [hP, hN, hlt, hv, hx, hxx, hwd', show (16 : Int) * xs.length ≤ 281474976710656 by omega, show (xs.length : Int) ≤ 9223372036854775807 by omega])
            | (with_reducible refine yC_intro (d60 _ _) ?_; simp [hP, hN, hlt, hv, hx, hxx, hwd', show (16 : Int) * xs.length ≤ 281474976710656 by omega, show (xs.length : Int) ≤ 9223372036854775807 by omega]; (try refine ⟨by kernel_rfl, ?_⟩))
            | with_reducible refine xTwo_intro ?_ ?_
            | (with_reducible refine WP.cond' ?_; simp [hP, hN, hlt, hv, hx, hxx, hwd', show (16 : Int) * xs.length ≤ 281474976710656 by omega, show (xs.length : Int) ≤ 9223372036854775807 by omega])
            | (with_reducible refine xCond_split (fun hcd => ?_) (fun hcd => ?_) <;> (try (exfalso; clear hP hN; simp_all; done)) <;> (try (exfalso; simp at *; omega)))
            | with_reducible refine WP.block ?_
            | (with_reducible refine WP.skip ?_; simp [hlt, hv, hx, hxx, hwd', show (16 : Int) * xs.length ≤ 281474976710656 by omega, show (xs.length : Int) ≤ 9223372036854775807 by omega])
            | (with_reducible refine WP.exit ?_; simp [hlt, hv, hx, hxx, hwd', show (16 : Int) * xs.length ≤ 281474976710656 by omega, show (xs.length : Int) ≤ 9223372036854775807 by omega])
            | (with_reducible refine WP.ret ?_; simp [hlt, hv, hx, hxx, hwd', show (16 : Int) * xs.length ≤ 281474976710656 by omega, show (xs.length : Int) ≤ 9223372036854775807 by omega]))
          have hok : halveOk xs (n : Int) = true := by simp [halveOk, hv, hx, Int.not_lt.1 hwd]
          have ht : List.take xs.length (List.map encI xs) = List.map encI xs := List.take_of_length_le (by simp)
          simp [halveA, halveZ, hok, hx, ht, List.map_set, midI]
    · skip
      repeat' (first
        | with_reducible refine WP.seq ?_
        | (with_reducible refine WP.region (hn := []) ?_; simp [hP, hN, hlt])
        | (with_reducible refine WP.draw (hn := []) (by rw [hP]; kernel_rfl) (by kernel_rfl) ?_; simp [hP, hN, hlt]; (try refine ⟨by kernel_rfl, ?_⟩))
        | (with_reducible refine xB_split (by simp [hlt]) (fun hgd => ?_) (fun hgd => ?_) <;> first | (exfalso; simp at hgd; done) | (exfalso; simp at hgd; omega) | simp [hP, hN, hlt])
        | (with_reducible refine yB_split (by simp [hlt]) (fun hgd => ?_) (fun hgd => ?_) <;> first | (exfalso; simp at hgd; done) | (exfalso; simp at hgd; omega) | (simp [hP, hN, hlt] <;> (try refine ⟨by kernel_rfl, ?_⟩)))
        | (with_reducible refine xC_intro (d56 _ (big hl)) ?_; simp [hP, hN, hlt])
        | (with_reducible refine yC_intro (d56 _ (big hl)) ?_; simp [hP, hN, hlt]; (try refine ⟨by kernel_rfl, ?_⟩))
        | with_reducible refine xTwo_intro ?_ ?_
        | (with_reducible refine WP.cond' ?_; simp [hP, hN, hlt])
        | (with_reducible refine xCond_split (fun hcd => ?_) (fun hcd => ?_) <;> (try (exfalso; clear hP hN; simp_all; done)) <;> (try (exfalso; simp at *; omega)))
        | with_reducible refine WP.block ?_
        | (with_reducible refine WP.skip ?_; simp [hlt])
        | (with_reducible refine WP.exit ?_; simp [hlt])
        | (with_reducible refine WP.ret ?_; simp [hlt]))
      all_goals (have hx : xs[n]? = none := List.getElem?_eq_none (by omega)); simp [halveA, halveZ, halveOk, hx]
  · skip
    repeat' (first
      | with_reducible refine WP.seq ?_
      | (with_reducible refine WP.region (hn := []) ?_; simp [hP, hN, hj, show j < 0 by omega])
      | (with_reducible refine WP.draw (hn := []) (by rw [hP]; kernel_rfl) (by kernel_rfl) ?_; simp [hP, hN, hj, show j < 0 by omega]; (try refine ⟨by kernel_rfl, ?_⟩))
      | (with_reducible refine xB_split (by simp [hj, show j < 0 by omega]) (fun hgd => ?_) (fun hgd => ?_) <;> first | (exfalso; simp at hgd; done) | (exfalso; simp at hgd; omega) | simp [hP, hN, hj, show j < 0 by omega])
      | (with_reducible refine yB_split (by simp [hj, show j < 0 by omega]) (fun hgd => ?_) (fun hgd => ?_) <;> first | (exfalso; simp at hgd; done) | (exfalso; simp at hgd; omega) | (simp [hP, hN, hj, show j < 0 by omega] <;> (try refine ⟨by kernel_rfl, ?_⟩)))
      | (with_reducible refine xC_intro (d56 _ (big hl)) ?_; simp [hP, hN, hj, show j < 0 by omega])
      | (with_reducible refine yC_intro (d56 _ (big hl)) ?_; simp [hP, hN, hj, show j < 0 by omega]; (try refine ⟨by kernel_rfl, ?_⟩))
      | with_reducible refine xTwo_intro ?_ ?_
      | (with_reducible refine WP.cond' ?_; simp [hP, hN, hj, show j < 0 by omega])
      | (with_reducible refine xCond_split (fun hcd => ?_) (fun hcd => ?_) <;> (try (exfalso; clear hP hN; simp_all; done)) <;> (try (exfalso; simp at *; omega)))
      | with_reducible refine WP.block ?_
      | (with_reducible refine WP.skip ?_; simp [hj, show j < 0 by omega])
      | (with_reducible refine WP.exit ?_; simp [hj, show j < 0 by omega])
      | (with_reducible refine WP.ret ?_; simp [hj, show j < 0 by omega]))
    all_goals simp [halveA, halveZ, halveOk, hj]
theorem aw1 : pieceL [0] [3] 1 1 = ([(1, 3)], true) := by decide +kernel
theorem aw2 : halveA [(0, 5)] 0 = [(0, 2)] := by decide +kernel
theorem aw3 : halveZ [(0, 5)] 0 = [(2, 5)] := by decide +kernel
theorem aw4 : halveOk [(0, 5)] 0 = true := by decide +kernel
theorem d16 : DetH Try.prog 16 [] [] [] (.pv (B true)) := by
  have h1 := d14 [0] [3] 1 1 (by decide) (by decide)
  have h2 := d32 [(0, 5)] 0 (by decide)
  have h3 := d20 [(1, 3)] [(1, 3)] (by decide) (by decide)
  have h4 := d20 [(0, 2)] [(0, 2)] (by decide) (by decide)
  have h5 := d20 [(2, 5)] [(2, 5)] (by decide) (by decide)
  have e3 : sameX [((1 : Int), (3 : Int))] [(1, 3)] = true := by decide +kernel
  have e4 : sameX [((0 : Int), (2 : Int))] [(0, 2)] = true := by decide +kernel
  have e5 : sameX [((2 : Int), (5 : Int))] [(2, 5)] = true := by decide +kernel
  rw [aw1] at h1
  rw [aw2, aw3, aw4] at h2
  rw [e3] at h3
  rw [e4] at h4
  rw [e5] at h5
  simp only [zs, iv, List.map_cons, List.map_nil] at h1 h2 h3 h4 h5
  refine detP_of Try.func16 rfl (by kernel_rfl) (by simp [Try.f16]) rfl ?_
  intro C hP hN
  simp only [Try.f16] at hN ⊢
  repeat' (first
    | with_reducible refine WP.seq ?_
    | (with_reducible refine WP.region (hn := []) ?_; simp [hP, hN])
    | (with_reducible refine WP.draw (hn := []) (by rw [hP]; kernel_rfl) (by kernel_rfl) ?_; simp [hP, hN]; (try refine ⟨by kernel_rfl, ?_⟩))
    | (with_reducible refine xB_split (by simp) (fun hgd => ?_) (fun hgd => ?_) <;> first | (exfalso; simp at hgd; done) | (exfalso; simp at hgd; omega) | simp [hP, hN])
    | (with_reducible refine yB_split (by simp) (fun hgd => ?_) (fun hgd => ?_) <;> first | (exfalso; simp at hgd; done) | (exfalso; simp at hgd; omega) | (simp [hP, hN] <;> (try refine ⟨by kernel_rfl, ?_⟩)))
    | (with_reducible refine xC_intro (h1) ?_; simp [hP, hN])
    | (with_reducible refine yC_intro (h1) ?_; simp [hP, hN]; (try refine ⟨by kernel_rfl, ?_⟩))
    | (with_reducible refine xC_intro (h2) ?_; simp [hP, hN])
    | (with_reducible refine yC_intro (h2) ?_; simp [hP, hN]; (try refine ⟨by kernel_rfl, ?_⟩))
    | (with_reducible refine xC_intro (h3) ?_; simp [hP, hN])
    | (with_reducible refine yC_intro (h3) ?_; simp [hP, hN]; (try refine ⟨by kernel_rfl, ?_⟩))
    | (with_reducible refine xC_intro (h4) ?_; simp [hP, hN])
    | (with_reducible refine yC_intro (h4) ?_; simp [hP, hN]; (try refine ⟨by kernel_rfl, ?_⟩))
    | (with_reducible refine xC_intro (h5) ?_; simp [hP, hN])
    | (with_reducible refine yC_intro (h5) ?_; simp [hP, hN]; (try refine ⟨by kernel_rfl, ?_⟩))
    | with_reducible refine xTwo_intro ?_ ?_
    | (with_reducible refine WP.cond' ?_; simp [hP, hN])
    | (with_reducible refine xCond_split (fun hcd => ?_) (fun hcd => ?_) <;> (try (exfalso; clear hP hN; simp_all; done)) <;> (try (exfalso; simp at *; omega)))
    | with_reducible refine WP.block ?_
    | (with_reducible refine WP.skip ?_; simp)
    | (with_reducible refine WP.exit ?_; simp)
    | (with_reducible refine WP.ret ?_; simp))
end Go.Ab
