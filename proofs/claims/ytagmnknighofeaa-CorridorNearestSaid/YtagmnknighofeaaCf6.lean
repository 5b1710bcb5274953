/- Contracts: Halve, awake. -/
import Derived.Test.YtagmnknighofeaaCf5
set_option linter.all false
namespace Go.Ab
open Go.Proofs
def widthI (x : Int × Int) : Int := if validB x.1 x.2 then wr (x.2 - x.1) else 0
def midI (x : Int × Int) : Int := if validB x.1 x.2 then (wr (x.1 + x.2)).fdiv 2 else 0
def halveOk (xs : List (Int × Int)) (j : Int) : Bool := decide (0 ≤ j) && allB vI xs && (match xs[j.toNat]? with | some x => decide (2 ≤ widthI x) | none => false)
def halveA (xs : List (Int × Int)) (j : Int) : List (Int × Int) := if halveOk xs j then (match xs[j.toNat]? with | some x => xs.set j.toNat (x.1, midI x) | none => []) else []
def halveZ (xs : List (Int × Int)) (j : Int) : List (Int × Int) := if halveOk xs j then (match xs[j.toNat]? with | some x => xs.set j.toNat (midI x, x.2) | none => []) else []
theorem d93 (xs : List (Int × Int)) (j : Int) (hl : xs.length ≤ 16777216) : DetH Try.prog 93 [.pv (iv xs), .pv (Z j)] [] [] (.pv (.tup [iv (halveA xs j), iv (halveZ xs j), B (halveOk xs j)])) := by
  refine detP_of Try.func93 rfl (by kernel_rfl) (by simp [Try.f93]) rfl ?_
  intro C hP hN
  simp only [Try.f93] at hN ⊢
  by_cases hj : 0 ≤ j
  · obtain ⟨n, rfl⟩ := Int.eq_ofNat_of_zero_le hj
    by_cases hlt : n < xs.length
    · cases hv : allB vI xs with
      | false =>
        repeat' (first
          | with_reducible refine WP.seq ?_
          | (with_reducible refine WP.region (hn := []) ?_; simp -implicitDefEqProofs [hP, hN, hlt, hv])
          | (with_reducible refine WP.draw (hn := []) (by rw [hP]; kernel_rfl) (by kernel_rfl) ?_; simp -implicitDefEqProofs [hP, hN, hlt, hv]; (try refine ⟨by kernel_rfl, ?_⟩))
          | (with_reducible refine xB_split (by simp [hlt, hv]) (fun hgd => ?_) (fun hgd => ?_) <;> first | (exfalso; simp at hgd; done) | (exfalso; simp at hgd; omega) | simp -implicitDefEqProofs [hP, hN, hlt, hv])
          | (with_reducible refine yB_split (by simp [hlt, hv]) (fun hgd => ?_) (fun hgd => ?_) <;> first | (exfalso; simp at hgd; done) | (exfalso; simp at hgd; omega) | (simp -implicitDefEqProofs [hP, hN, hlt, hv] <;> (try refine ⟨by kernel_rfl, ?_⟩)))
          | (with_reducible refine xC_intro (d152 _ (big hl)) ?_; simp -implicitDefEqProofs [hP, hN, hlt, hv])
          | (with_reducible refine yC_intro (d152 _ (big hl)) ?_; simp -implicitDefEqProofs [hP, hN, hlt, hv]; (try refine ⟨by kernel_rfl, ?_⟩))
          | with_reducible refine xTwo_intro ?_ ?_
          | (with_reducible refine WP.cond' ?_; simp -implicitDefEqProofs [hP, hN, hlt, hv])
          | (with_reducible refine xCond_split (fun hcd => ?_) (fun hcd => ?_) <;> (try (exfalso; clear hP hN; simp_all; done)) <;> (try (exfalso; simp at *; omega)))
          | with_reducible refine WP.block ?_
          | (with_reducible refine WP.skip ?_; simp [hlt, hv])
          | (with_reducible refine WP.exit ?_; simp [hlt, hv])
          | (with_reducible refine WP.ret ?_; simp [hlt, hv]))
        all_goals simp [halveA, halveZ, halveOk, hv]
      | true =>
        have hx := List.getElem?_eq_getElem hlt
        generalize hxx : xs[n] = x at hx
        by_cases hwd : widthI x < 2
        · have hwd' := hwd
          simp only [widthI] at hwd'
          repeat' (first
            | with_reducible refine WP.seq ?_
            | (with_reducible refine WP.region (hn := []) ?_; simp -implicitDefEqProofs [hP, hN, hlt, hv, hx, hxx, hwd'])
            | (with_reducible refine WP.draw (hn := []) (by rw [hP]; kernel_rfl) (by kernel_rfl) ?_; simp -implicitDefEqProofs [hP, hN, hlt, hv, hx, hxx, hwd']; (try refine ⟨by kernel_rfl, ?_⟩))
            | (with_reducible refine xB_split (by simp [hlt, hv, hx, hxx, hwd']) (fun hgd => ?_) (fun hgd => ?_) <;> first | (exfalso; simp at hgd; done) | (exfalso; simp at hgd; omega) | simp -implicitDefEqProofs [hP, hN, hlt, hv, hx, hxx, hwd'])
            | (with_reducible refine yB_split (by simp [hlt, hv, hx, hxx, hwd']) (fun hgd => ?_) (fun hgd => ?_) <;> first | (exfalso; simp at hgd; done) | (exfalso; simp at hgd; omega) | (simp -implicitDefEqProofs [hP, hN, hlt, hv, hx, hxx, hwd'] <;> (try refine ⟨by kernel_rfl, ?_⟩)))
            | (with_reducible refine xC_intro (d152 _ (big hl)) ?_; simp -implicitDefEqProofs [hP, hN, hlt, hv, hx, hxx, hwd'])
            | (with_reducible refine yC_intro (d152 _ (big hl)) ?_; simp -implicitDefEqProofs [hP, hN, hlt, hv, hx, hxx, hwd']; (try refine ⟨by kernel_rfl, ?_⟩))
            | (with_reducible refine xC_intro (d153 _ _) ?_; simp -implicitDefEqProofs [hP, hN, hlt, hv, hx, hxx, hwd'])
            | (with_reducible refine yC_intro (d153 _ _) ?_; simp -implicitDefEqProofs [hP, hN, hlt, hv, hx, hxx, hwd']; (try refine ⟨by kernel_rfl, ?_⟩))
            | with_reducible refine xTwo_intro ?_ ?_
            | (with_reducible refine WP.cond' ?_; simp -implicitDefEqProofs [hP, hN, hlt, hv, hx, hxx, hwd'])
            | (with_reducible refine xCond_split (fun hcd => ?_) (fun hcd => ?_) <;> (try (exfalso; clear hP hN; simp_all; done)) <;> (try (exfalso; simp at *; omega)))
            | with_reducible refine WP.block ?_
            | (with_reducible refine WP.skip ?_; simp [hlt, hv, hx, hxx, hwd'])
            | (with_reducible refine WP.exit ?_; simp [hlt, hv, hx, hxx, hwd'])
            | (with_reducible refine WP.ret ?_; simp [hlt, hv, hx, hxx, hwd']))
          all_goals simp [halveA, halveZ, halveOk, hv, hx, Int.not_le.2 hwd]
        · have hwd' := hwd
          simp only [widthI] at hwd'
          repeat' (first
            | with_reducible refine WP.seq ?_
            | (with_reducible refine WP.region (hn := []) ?_; simp -implicitDefEqProofs [hP, hN, hlt, hv, hx, hxx, hwd', show (16 : Int) * xs.length ≤ 281474976710656 by omega, show (xs.length : Int) ≤ 9223372036854775807 by omega])
            | (with_reducible refine WP.draw (hn := []) (by rw [hP]; kernel_rfl) (by kernel_rfl) ?_; simp -implicitDefEqProofs [hP, hN, hlt, hv, hx, hxx, hwd', show (16 : Int) * xs.length ≤ 281474976710656 by omega, show (xs.length : Int) ≤ 9223372036854775807 by omega]; (try refine ⟨by kernel_rfl, ?_⟩))
            | (with_reducible refine xB_split (by simp [hlt, hv, hx, hxx, hwd', show (16 : Int) * xs.length ≤ 281474976710656 by omega, show (xs.length : Int) ≤ 9223372036854775807 by omega]) (fun hgd => ?_) (fun hgd => ?_) <;> first | (exfalso; simp at hgd; done) | (exfalso; simp at hgd; omega) | simp -implicitDefEqProofs [hP, hN, hlt, hv, hx, hxx, hwd', show (16 : Int) * xs.length ≤ 281474976710656 by omega, show (xs.length : Int) ≤ 9223372036854775807 by omega])
            | (with_reducible refine yB_split (by simp [hlt, hv, hx, hxx, hwd', show (16 : Int) * xs.length ≤ 281474976710656 by omega, show (xs.length : Int) ≤ 9223372036854775807 by omega]) (fun hgd => ?_) (fun hgd => ?_) <;> first | (exfalso; simp at hgd; done) | (exfalso; simp at hgd; omega) | (simp -implicitDefEqProofs [hP, hN, hlt, hv, hx, hxx, hwd', show (16 : Int) * xs.length ≤ 281474976710656 by omega, show (xs.length : Int) ≤ 9223372036854775807 by omega] <;> (try refine ⟨by kernel_rfl, ?_⟩)))
            | (with_reducible refine xC_intro (d152 _ (big hl)) ?_; simp -implicitDefEqProofs [hP, hN, hlt, hv, hx, hxx, hwd', show (16 : Int) * xs.length ≤ 281474976710656 by omega, show (xs.length : Int) ≤ 9223372036854775807 by omega])
            | (with_reducible refine yC_intro (d152 _ (big hl)) ?_; simp -implicitDefEqProofs [hP, hN, hlt, hv, hx, hxx, hwd', show (16 : Int) * xs.length ≤ 281474976710656 by omega, show (xs.length : Int) ≤ 9223372036854775807 by omega]; (try refine ⟨by kernel_rfl, ?_⟩))
            | (with_reducible refine xC_intro (d153 _ _) ?_; simp -implicitDefEqProofs [hP, hN, hlt, hv, hx, hxx, hwd', show (16 : Int) * xs.length ≤ 281474976710656 by omega, show (xs.length : Int) ≤ 9223372036854775807 by omega])
            | (with_reducible refine yC_intro (d153 _ _) ?_; simp -implicitDefEqProofs [hP, hN, hlt, hv, hx, hxx, hwd', show (16 : Int) * xs.length ≤ 281474976710656 by omega, show (xs.length : Int) ≤ 9223372036854775807 by omega]; (try refine ⟨by kernel_rfl, ?_⟩))
            | (with_reducible refine xC_intro (d154 _ _) ?_; simp -implicitDefEqProofs [hP, hN, hlt, hv, hx, hxx, hwd', show (16 : Int) * xs.length ≤ 281474976710656 by omega, show (xs.length : Int) ≤ 9223372036854775807 by omega])
            | (with_reducible refine yC_intro (d154 _ _) ?_; simp -implicitDefEqProofs [hP, hN, hlt, hv, hx, hxx, hwd', show (16 : Int) * xs.length ≤ 281474976710656 by omega, show (xs.length : Int) ≤ 9223372036854775807 by omega]; (try refine ⟨by kernel_rfl, ?_⟩))
            | with_reducible refine xTwo_intro ?_ ?_
            | (with_reducible refine WP.cond' ?_; simp -implicitDefEqProofs [hP, hN, hlt, hv, hx, hxx, hwd', show (16 : Int) * xs.length ≤ 281474976710656 by omega, show (xs.length : Int) ≤ 9223372036854775807 by omega])
            | (with_reducible refine xCond_split (fun hcd => ?_) (fun hcd => ?_) <;> (try (exfalso; clear hP hN; simp_all; done)) <;> (try (exfalso; simp at *; omega)))
            | with_reducible refine WP.block ?_
            | (with_reducible refine WP.skip ?_; simp [hlt, hv, hx, hxx, hwd', show (16 : Int) * xs.length ≤ 281474976710656 by omega, show (xs.length : Int) ≤ 9223372036854775807 by omega])
            | (with_reducible refine WP.exit ?_; simp [hlt, hv, hx, hxx, hwd', show (16 : Int) * xs.length ≤ 281474976710656 by omega, show (xs.length : Int) ≤ 9223372036854775807 by omega])
            | (with_reducible refine WP.ret ?_; simp [hlt, hv, hx, hxx, hwd', show (16 : Int) * xs.length ≤ 281474976710656 by omega, show (xs.length : Int) ≤ 9223372036854775807 by omega]))
          have hok : halveOk xs (n : Int) = true := by simp [halveOk, hv, hx, Int.not_lt.1 hwd]
          have ht : List.take xs.length (List.map encI xs) = List.map encI xs := List.take_of_length_le (by simp)
          simp [halveA, halveZ, hok, hx, ht, List.map_set, midI]
    · skip
      repeat' (first
        | with_reducible refine WP.seq ?_
        | (with_reducible refine WP.region (hn := []) ?_; simp -implicitDefEqProofs [hP, hN, hlt])
        | (with_reducible refine WP.draw (hn := []) (by rw [hP]; kernel_rfl) (by kernel_rfl) ?_; simp -implicitDefEqProofs [hP, hN, hlt]; (try refine ⟨by kernel_rfl, ?_⟩))
        | (with_reducible refine xB_split (by simp [hlt]) (fun hgd => ?_) (fun hgd => ?_) <;> first | (exfalso; simp at hgd; done) | (exfalso; simp at hgd; omega) | simp -implicitDefEqProofs [hP, hN, hlt])
        | (with_reducible refine yB_split (by simp [hlt]) (fun hgd => ?_) (fun hgd => ?_) <;> first | (exfalso; simp at hgd; done) | (exfalso; simp at hgd; omega) | (simp -implicitDefEqProofs [hP, hN, hlt] <;> (try refine ⟨by kernel_rfl, ?_⟩)))
        | (with_reducible refine xC_intro (d152 _ (big hl)) ?_; simp -implicitDefEqProofs [hP, hN, hlt])
        | (with_reducible refine yC_intro (d152 _ (big hl)) ?_; simp -implicitDefEqProofs [hP, hN, hlt]; (try refine ⟨by kernel_rfl, ?_⟩))
        | with_reducible refine xTwo_intro ?_ ?_
        | (with_reducible refine WP.cond' ?_; simp -implicitDefEqProofs [hP, hN, hlt])
        | (with_reducible refine xCond_split (fun hcd => ?_) (fun hcd => ?_) <;> (try (exfalso; clear hP hN; simp_all; done)) <;> (try (exfalso; simp at *; omega)))
        | with_reducible refine WP.block ?_
        | (with_reducible refine WP.skip ?_; simp [hlt])
        | (with_reducible refine WP.exit ?_; simp [hlt])
        | (with_reducible refine WP.ret ?_; simp [hlt]))
      all_goals (have hx : xs[n]? = none := List.getElem?_eq_none (by omega)); simp [halveA, halveZ, halveOk, hx]
  · skip
    repeat' (first
      | with_reducible refine WP.seq ?_
      | (with_reducible refine WP.region (hn := []) ?_; simp -implicitDefEqProofs [hP, hN, hj, show j < 0 by omega])
      | (with_reducible refine WP.draw (hn := []) (by rw [hP]; kernel_rfl) (by kernel_rfl) ?_; simp -implicitDefEqProofs [hP, hN, hj, show j < 0 by omega]; (try refine ⟨by kernel_rfl, ?_⟩))
      | (with_reducible refine xB_split (by simp [hj, show j < 0 by omega]) (fun hgd => ?_) (fun hgd => ?_) <;> first | (exfalso; simp at hgd; done) | (exfalso; simp at hgd; omega) | simp -implicitDefEqProofs [hP, hN, hj, show j < 0 by omega])
      | (with_reducible refine yB_split (by simp [hj, show j < 0 by omega]) (fun hgd => ?_) (fun hgd => ?_) <;> first | (exfalso; simp at hgd; done) | (exfalso; simp at hgd; omega) | (simp -implicitDefEqProofs [hP, hN, hj, show j < 0 by omega] <;> (try refine ⟨by kernel_rfl, ?_⟩)))
      | (with_reducible refine xC_intro (d152 _ (big hl)) ?_; simp -implicitDefEqProofs [hP, hN, hj, show j < 0 by omega])
      | (with_reducible refine yC_intro (d152 _ (big hl)) ?_; simp -implicitDefEqProofs [hP, hN, hj, show j < 0 by omega]; (try refine ⟨by kernel_rfl, ?_⟩))
      | with_reducible refine xTwo_intro ?_ ?_
      | (with_reducible refine WP.cond' ?_; simp -implicitDefEqProofs [hP, hN, hj, show j < 0 by omega])
      | (with_reducible refine xCond_split (fun hcd => ?_) (fun hcd => ?_) <;> (try (exfalso; clear hP hN; simp_all; done)) <;> (try (exfalso; simp at *; omega)))
      | with_reducible refine WP.block ?_
      | (with_reducible refine WP.skip ?_; simp [hj, show j < 0 by omega])
      | (with_reducible refine WP.exit ?_; simp [hj, show j < 0 by omega])
      | (with_reducible refine WP.ret ?_; simp [hj, show j < 0 by omega]))
    all_goals simp [halveA, halveZ, halveOk, hj]
theorem aw1 : pieceL [0] [3] 1 1 = ([(1, 3)], true) := by decide +kernel
theorem aw2 : halveA [(0, 5)] 0 = [(0, 2)] := by decide +kernel
theorem aw3 : halveZ [(0, 5)] 0 = [(2, 5)] := by decide +kernel
theorem aw4 : halveOk [(0, 5)] 0 = true := by decide +kernel
end Go.Ab
