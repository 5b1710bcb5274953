/- Cf12, L4, Pl1, Pl2, Pl3, Cf13, Cf14, Cf17, Cf18: as one text. -/
import Derived.Test.YtagmnknighofeaaCfA
set_option linter.all false
/- Contracts: made boxes. -/
namespace Go.Ab
open Go.Proofs
end Go.Ab

/- The walk of ConfigReverse. -/
namespace Go.Ab
open Go.Proofs
end Go.Ab

/- Plain facts about pieces of motions. -/
namespace Go.Ab
theorem ediv_bound {a N B : Int} (hN : 0 < N) (h1 : -B ≤ a) (h2 : a ≤ B) : -B ≤ a / N ∧ a / N ≤ B := by
  have hB : 0 ≤ B := by omega
  constructor
  · have : (-B) * N ≤ a := by
      have : (-B) * N ≤ (-B) * 1 := Int.mul_le_mul_of_nonpos_left (by omega) (by omega)
      omega
    exact (Int.le_ediv_iff_mul_le hN).2 this
  · have : a / N < B + 1 := (Int.ediv_lt_iff_lt_mul hN).2 (by
      have : (B + 1) * 1 ≤ (B + 1) * N := Int.mul_le_mul_of_nonneg_left (by omega) (by omega)
      omega)
    omega
def small (x : Int) : Prop := -2147483648 ≤ x ∧ x ≤ 2147483648
end Go.Ab

/- The plain law of ConfigReverse. -/
namespace Go.Ab
/-- What the laws know of the ends of a motion. -/
structure Mot (p q : List Int) (d i : Int) : Prop where
  len : p.length = q.length
  pos : 0 < p.length
  le : p.length ≤ 3
  sp : ∀ x ∈ p, -1000000 ≤ x ∧ x ≤ 1000000
  sq : ∀ x ∈ q, -1000000 ≤ x ∧ x ≤ 1000000
  d0 : 0 ≤ d
  d1 : d < 20
  i0 : 0 ≤ i
  i1 : i < 2 ^ d.toNat
end Go.Ab

/- The plain laws of ConfigNested and ConfigEnds. -/
namespace Go.Ab
theorem allB_iff {α : Type} {p : α → Bool} {xs : List α} : allB p xs = true ↔ ∀ x ∈ xs, p x = true := by simp [allB]
theorem allZ_iff {α β : Type} {f : α → β → Bool} {xs : List α} {ys : List β} : allZ f xs ys = true ↔ ∀ (i : Nat) (h : i < xs.length) (h' : i < ys.length), f xs[i] ys[i] = true := by
  unfold allZ
  rw [List.all_eq_true]
  constructor
  · intro h i hi hi'
    exact h (f xs[i] ys[i]) (by
      rw [List.mem_iff_getElem]
      exact ⟨i, by simp; omega, by simp⟩)
  · intro h x hx
    obtain ⟨i, hi, rfl⟩ := List.mem_iff_getElem.1 hx
    simp only [List.length_zipWith] at hi
    simpa using h i (by omega) (by omega)
section
variable {p q : List Int} {d i : Int}
end
end Go.Ab

/- Contracts: the reference's pieces. -/
namespace Go.Ab
open Go.Proofs
def floorI (a b : Int) : Int := if a.tmod b < 0 then wr (wr (a.tdiv b) - 1) else wr (a.tdiv b)
theorem d121 (a b : Int) (hb : b ≠ 0) : DetH Try.prog 121 [.pv (Z a), .pv (Z b)] [] [] (.pv (Z (floorI a b))) := by
  refine detP_of Try.func121 rfl (by kernel_rfl) (by simp [Try.f121]) rfl ?_
  intro C hP hN
  simp only [Try.f121] at hN ⊢
  repeat' (first
    | with_reducible refine WP.seq ?_
    | (with_reducible ((first | refine WP.region (hn := []) ?_ | refine WP.cond' ?_); simp -implicitDefEqProofs (maxSteps := 2000000) [hP, hN, hb]))
    | (with_reducible ((first | refine WP.draw (hn := []) (by rw [hP]; kernel_rfl) (by kernel_rfl) ?_); simp -implicitDefEqProofs (maxSteps := 2000000) [hP, hN, hb]; (try refine ⟨by kernel_rfl, ?_⟩)))
    | (with_reducible refine xB_split (by simp [hb]) (fun hgd => ?_) (fun hgd => ?_) <;> first | (exfalso; simp at hgd; done) | (exfalso; simp at hgd; omega) | simp -implicitDefEqProofs (maxSteps := 2000000) [hP, hN, hb])
    | (with_reducible refine yB_split (by simp [hb]) (fun hgd => ?_) (fun hgd => ?_) <;> first | (exfalso; simp at hgd; done) | (exfalso; simp at hgd; omega) | (simp -implicitDefEqProofs (maxSteps := 2000000) [hP, hN, hb] <;> (try refine ⟨by kernel_rfl, ?_⟩)))
    | with_reducible refine xTwo_intro ?_ ?_
    | (with_reducible refine xCond_split (fun hcd => ?_) (fun hcd => ?_) <;> (try (exfalso; clear hP hN; simp_all; done)) <;> (try (exfalso; simp at *; omega)))
    | with_reducible refine WP.block ?_
    | (with_reducible ((first | refine WP.skip ?_ | refine WP.exit ?_ | refine WP.ret ?_); simp [hb])))
  all_goals (first | (simp_all [floorI]; done) | ((try simp_all [floorI]) <;> (try omega) <;> grind))
end Go.Ab

/- ConfigPieces: the reference's pieces are the program's. -/
namespace Go.Ab
open Go.Proofs
theorem ediv_uniq {a b k : Int} (hb : 0 < b) (h1 : k * b ≤ a) (h2 : a < (k + 1) * b) : a / b = k := by
  have := (Int.le_ediv_iff_mul_le hb).2 h1
  have := (Int.ediv_lt_iff_lt_mul hb).2 h2
  omega
theorem floorI_eq {a b : Int} (hb : 0 < b) (h1 : -4611686018427387904 ≤ a) (h2 : a ≤ 4611686018427387904) : floorI a b = a / b := by
  have hq := Int.mul_tdiv_add_tmod a b
  have h3 : -b < a.tmod b := Int.lt_tmod_of_pos a hb
  have h4 : a.tmod b < b := Int.tmod_lt_of_pos a hb
  have hbd := ediv_bound (a := a) (N := b) (B := 4611686018427387904) hb h1 h2
  rw [Int.mul_comm] at hq
  unfold floorI
  split
  · have e : a / b = a.tdiv b - 1 := ediv_uniq hb (by rw [Int.sub_mul]; omega) (by rw [show a.tdiv b - 1 + 1 = a.tdiv b by omega]; omega)
    rw [wr_id (n := a.tdiv b) (by omega) (by omega), wr_id (by omega) (by omega), e]
  · have e : a / b = a.tdiv b := ediv_uniq hb (by omega) (by rw [Int.add_mul]; omega)
    rw [wr_id (n := a.tdiv b) (by omega) (by omega), e]
end Go.Ab

/- Contracts: the rest of config's reference; boxes and lists compared. -/
namespace Go.Ab
open Go.Proofs
theorem valid_range {x : Int × Int} (h : validB x.1 x.2 = true) : -2147483648 ≤ x.1 ∧ x.1 ≤ x.2 ∧ x.2 ≤ 2147483648 := by
  simp only [validB, Bool.and_eq_true, decide_eq_true_eq] at h; omega
theorem d105 (x : Int × Int) : DetH Try.prog 105 [.pv (encI x)] [] [] (.pv (Z (midI x))) := by
  cases hv : validB x.1 x.2 with
  | false =>
    have hr : midI x = 0 := by simp [midI, hv]
    rw [hr]
    refine detP_of Try.func105 rfl (by kernel_rfl) (by simp [Try.f105]) rfl ?_
    intro C hP hN
    simp only [Try.f105] at hN ⊢
    repeat' (first
      | with_reducible refine WP.seq ?_
      | (with_reducible ((first | refine WP.region (hn := []) ?_ | refine xC_intro (d115 _ _) ?_ | refine WP.cond' ?_); simp -implicitDefEqProofs (maxSteps := 2000000) [hP, hN, hv]))
      | (with_reducible ((first | refine WP.draw (hn := []) (by rw [hP]; kernel_rfl) (by kernel_rfl) ?_ | refine yC_intro (d115 _ _) ?_); simp -implicitDefEqProofs (maxSteps := 2000000) [hP, hN, hv]; (try refine ⟨by kernel_rfl, ?_⟩)))
      | (with_reducible refine xB_split (by simp [hv]) (fun hgd => ?_) (fun hgd => ?_) <;> first | (exfalso; simp at hgd; done) | (exfalso; simp at hgd; omega) | simp -implicitDefEqProofs (maxSteps := 2000000) [hP, hN, hv])
      | (with_reducible refine yB_split (by simp [hv]) (fun hgd => ?_) (fun hgd => ?_) <;> first | (exfalso; simp at hgd; done) | (exfalso; simp at hgd; omega) | (simp -implicitDefEqProofs (maxSteps := 2000000) [hP, hN, hv] <;> (try refine ⟨by kernel_rfl, ?_⟩)))
      | with_reducible refine xTwo_intro ?_ ?_
      | (with_reducible refine xCond_split (fun hcd => ?_) (fun hcd => ?_) <;> (try (exfalso; clear hP hN; simp_all; done)) <;> (try (exfalso; simp at *; omega)))
      | with_reducible refine WP.block ?_
      | (with_reducible ((first | refine WP.skip ?_ | refine WP.exit ?_ | refine WP.ret ?_); simp [hv])))
  | true =>
    have hb := valid_range hv
    have hr : midI x = floorI (wr (x.1 + x.2)) 2 := by
      rw [midI, hv]
      simp only [if_true]
      rw [wr_id (by omega) (by omega), floorI_eq (by decide) (by omega) (by omega), Int.fdiv_eq_ediv_of_nonneg _ (by decide)]
    rw [hr]
    refine detP_of Try.func105 rfl (by kernel_rfl) (by simp [Try.f105]) rfl ?_
    intro C hP hN
    simp only [Try.f105] at hN ⊢
    repeat' (first
      | with_reducible refine WP.seq ?_
      | (with_reducible ((first | refine WP.region (hn := []) ?_ | refine xC_intro (d115 _ _) ?_ | refine xC_intro (d121 _ _ (by decide)) ?_ | refine WP.cond' ?_); simp -implicitDefEqProofs (maxSteps := 2000000) [hP, hN, hv]))
      | (with_reducible ((first | refine WP.draw (hn := []) (by rw [hP]; kernel_rfl) (by kernel_rfl) ?_ | refine yC_intro (d115 _ _) ?_ | refine yC_intro (d121 _ _ (by decide)) ?_); simp -implicitDefEqProofs (maxSteps := 2000000) [hP, hN, hv]; (try refine ⟨by kernel_rfl, ?_⟩)))
      | (with_reducible refine xB_split (by simp [hv]) (fun hgd => ?_) (fun hgd => ?_) <;> first | (exfalso; simp at hgd; done) | (exfalso; simp at hgd; omega) | simp -implicitDefEqProofs (maxSteps := 2000000) [hP, hN, hv])
      | (with_reducible refine yB_split (by simp [hv]) (fun hgd => ?_) (fun hgd => ?_) <;> first | (exfalso; simp at hgd; done) | (exfalso; simp at hgd; omega) | (simp -implicitDefEqProofs (maxSteps := 2000000) [hP, hN, hv] <;> (try refine ⟨by kernel_rfl, ?_⟩)))
      | with_reducible refine xTwo_intro ?_ ?_
      | (with_reducible refine xCond_split (fun hcd => ?_) (fun hcd => ?_) <;> (try (exfalso; clear hP hN; simp_all; done)) <;> (try (exfalso; simp at *; omega)))
      | with_reducible refine WP.block ?_
      | (with_reducible ((first | refine WP.skip ?_ | refine WP.exit ?_ | refine WP.ret ?_); simp [hv])))
set_option maxHeartbeats 4000000 in
theorem d46 (xs : List (Int × Int)) (hl : xs.length ≤ 16777216) : DetH Try.prog 46 [.pv (iv xs)] [] [] (.pv (zs (middleL xs))) := by
  cases hv : allB vI xs with
  | false =>
    have hr : middleL xs = [] := by simp [middleL, hv]
    rw [hr]
    refine detP_of Try.func46 rfl (by kernel_rfl) (by simp [Try.f46]) rfl ?_
    intro C hP hN
    simp only [Try.f46] at hN ⊢
    repeat' (first
      | with_reducible refine WP.seq ?_
      | (with_reducible ((first | refine WP.region (hn := []) ?_ | refine xC_intro (d82 _ (big hl)) ?_ | refine WP.cond' ?_); simp -implicitDefEqProofs (maxSteps := 2000000) [hP, hN, hv]))
      | (with_reducible ((first | refine WP.draw (hn := []) (by rw [hP]; kernel_rfl) (by kernel_rfl) ?_ | refine yC_intro (d82 _ (big hl)) ?_); simp -implicitDefEqProofs (maxSteps := 2000000) [hP, hN, hv]; (try refine ⟨by kernel_rfl, ?_⟩)))
      | (with_reducible refine xB_split (by simp [hv]) (fun hgd => ?_) (fun hgd => ?_) <;> first | (exfalso; simp at hgd; done) | (exfalso; simp at hgd; omega) | simp -implicitDefEqProofs (maxSteps := 2000000) [hP, hN, hv])
      | (with_reducible refine yB_split (by simp [hv]) (fun hgd => ?_) (fun hgd => ?_) <;> first | (exfalso; simp at hgd; done) | (exfalso; simp at hgd; omega) | (simp -implicitDefEqProofs (maxSteps := 2000000) [hP, hN, hv] <;> (try refine ⟨by kernel_rfl, ?_⟩)))
      | with_reducible refine xTwo_intro ?_ ?_
      | (with_reducible refine xCond_split (fun hcd => ?_) (fun hcd => ?_) <;> (try (exfalso; clear hP hN; simp_all; done)) <;> (try (exfalso; simp at *; omega)))
      | with_reducible refine WP.block ?_
      | (with_reducible ((first | refine WP.skip ?_ | refine WP.exit ?_ | refine WP.ret ?_); simp [hv])))
  | true =>
    have hr : middleL xs = xs.map midI := by simp [middleL, hv]
    rw [hr]
    refine detP_of Try.func46 rfl (by kernel_rfl) (by simp [Try.f46]) rfl ?_
    intro C hP hN
    simp only [Try.f46] at hN ⊢
    repeat' (first
      | with_reducible refine WP.seq ?_
      | (with_reducible ((first | refine WP.region (hn := [3]) ?_ | refine xC_intro (d82 _ (big hl)) ?_ | refine WP.cond' ?_); simp -implicitDefEqProofs (maxSteps := 2000000) [hP, hN, hv]))
      | (with_reducible ((first | refine WP.draw (hn := [3]) (by rw [hP]; kernel_rfl) (by kernel_rfl) ?_ | refine yC_intro (d82 _ (big hl)) ?_); simp -implicitDefEqProofs (maxSteps := 2000000) [hP, hN, hv]; (try refine ⟨by kernel_rfl, ?_⟩)))
      | (with_reducible refine xB_split (by simp [hv]) (fun hgd => ?_) (fun hgd => ?_) <;> first | (exfalso; simp at hgd; done) | (exfalso; simp at hgd; omega) | simp -implicitDefEqProofs (maxSteps := 2000000) [hP, hN, hv])
      | (with_reducible refine yB_split (by simp [hv]) (fun hgd => ?_) (fun hgd => ?_) <;> first | (exfalso; simp at hgd; done) | (exfalso; simp at hgd; omega) | (simp -implicitDefEqProofs (maxSteps := 2000000) [hP, hN, hv] <;> (try refine ⟨by kernel_rfl, ?_⟩)))
      | with_reducible refine xTwo_intro ?_ ?_
      | (with_reducible refine xCond_split (fun hcd => ?_) (fun hcd => ?_) <;> (try (exfalso; clear hP hN; simp_all; done)) <;> (try (exfalso; simp at *; omega)))
      | with_reducible refine WP.block ?_
      | (with_reducible ((first | refine WP.skip ?_ | refine WP.exit ?_ | refine WP.ret ?_); simp [hv])))
    refine WP.loopN [] xs.length (fun i st => st.t 0 = .pv (iv xs) ∧ st.t 4 = .pv (Z i) ∧ st.t 3 = .arr 3 i ∧ st.h 3 = some (.row 2 1 ((xs.map fun x => Z (midI x)).take i) 0)) (by simp) ?_
    rintro i st hi ⟨g0, g4, g3, hb⟩
    by_cases hlt : i < xs.length
    · have hw := wr_succ hlt (big hl)
      have hz : min i xs.length = i := by omega
      have hs := take_map_step (f := fun x => Z (midI x)) hlt
      repeat' (first
        | with_reducible refine WP.seq ?_
        | (with_reducible ((first | refine WP.region (hn := []) ?_ | refine xC_intro (d105 _) ?_ | refine WP.cond' ?_); simp -implicitDefEqProofs (maxSteps := 2000000) [hP, hN, g0, g4, g3, hb, hlt, hw, hz, hs, show (i + 1) * 8 ≤ 140737488355328 by omega, show i + 1 ≤ 9223372036854775807 by omega]))
        | (with_reducible ((first | refine WP.draw (hn := []) (by rw [hP]; kernel_rfl) (by kernel_rfl) ?_ | refine yC_intro (d105 _) ?_); simp -implicitDefEqProofs (maxSteps := 2000000) [hP, hN, g0, g4, g3, hb, hlt, hw, hz, hs, show (i + 1) * 8 ≤ 140737488355328 by omega, show i + 1 ≤ 9223372036854775807 by omega]; (try refine ⟨by kernel_rfl, ?_⟩)))
        | (with_reducible refine xB_split (by simp [g0, g4, g3, hb, hlt, hw, hz, hs, show (i + 1) * 8 ≤ 140737488355328 by omega, show i + 1 ≤ 9223372036854775807 by omega]) (fun hgd => ?_) (fun hgd => ?_) <;> first | (exfalso; simp at hgd; done) | (exfalso; simp at hgd; omega) | simp -implicitDefEqProofs (maxSteps := 2000000) [hP, hN, g0, g4, g3, hb, hlt, hw, hz, hs, show (i + 1) * 8 ≤ 140737488355328 by omega, show i + 1 ≤ 9223372036854775807 by omega])
        | (with_reducible refine yB_split (by simp [g0, g4, g3, hb, hlt, hw, hz, hs, show (i + 1) * 8 ≤ 140737488355328 by omega, show i + 1 ≤ 9223372036854775807 by omega]) (fun hgd => ?_) (fun hgd => ?_) <;> first | (exfalso; simp at hgd; done) | (exfalso; simp at hgd; omega) | (simp -implicitDefEqProofs (maxSteps := 2000000) [hP, hN, g0, g4, g3, hb, hlt, hw, hz, hs, show (i + 1) * 8 ≤ 140737488355328 by omega, show i + 1 ≤ 9223372036854775807 by omega] <;> (try refine ⟨by kernel_rfl, ?_⟩)))
        | with_reducible refine xTwo_intro ?_ ?_
        | (with_reducible refine xCond_split (fun hcd => ?_) (fun hcd => ?_) <;> (try (exfalso; clear hP hN; simp_all; done)) <;> (try (exfalso; simp at *; omega)))
        | with_reducible refine WP.block ?_
        | (with_reducible ((first | refine WP.skip ?_ | refine WP.exit ?_ | refine WP.ret ?_); simp [g0, g4, g3, hb, hlt, hw, hz, hs, show (i + 1) * 8 ≤ 140737488355328 by omega, show i + 1 ≤ 9223372036854775807 by omega])))
    · have hz : min i xs.length = i := by omega
      repeat' (first
        | with_reducible refine WP.seq ?_
        | (with_reducible ((first | refine WP.region (hn := []) ?_ | refine WP.cond' ?_); simp -implicitDefEqProofs (maxSteps := 2000000) [hP, hN, g0, g4, g3, hb, hlt, hz]))
        | (with_reducible ((first | refine WP.draw (hn := []) (by rw [hP]; kernel_rfl) (by kernel_rfl) ?_); simp -implicitDefEqProofs (maxSteps := 2000000) [hP, hN, g0, g4, g3, hb, hlt, hz]; (try refine ⟨by kernel_rfl, ?_⟩)))
        | (with_reducible refine xB_split (by simp [g0, g4, g3, hb, hlt, hz]) (fun hgd => ?_) (fun hgd => ?_) <;> first | (exfalso; simp at hgd; done) | (exfalso; simp at hgd; omega) | simp -implicitDefEqProofs (maxSteps := 2000000) [hP, hN, g0, g4, g3, hb, hlt, hz])
        | (with_reducible refine yB_split (by simp [g0, g4, g3, hb, hlt, hz]) (fun hgd => ?_) (fun hgd => ?_) <;> first | (exfalso; simp at hgd; done) | (exfalso; simp at hgd; omega) | (simp -implicitDefEqProofs (maxSteps := 2000000) [hP, hN, g0, g4, g3, hb, hlt, hz] <;> (try refine ⟨by kernel_rfl, ?_⟩)))
        | with_reducible refine xTwo_intro ?_ ?_
        | (with_reducible refine xCond_split (fun hcd => ?_) (fun hcd => ?_) <;> (try (exfalso; clear hP hN; simp_all; done)) <;> (try (exfalso; simp at *; omega)))
        | with_reducible refine WP.block ?_
        | (with_reducible ((first | refine WP.skip ?_ | refine WP.exit ?_ | refine WP.ret ?_); simp [g0, g4, g3, hb, hlt, hz])))
      exact take_done (by simp) hlt
def touchL (xs ys : List (Int × Int)) : Bool := allB vI xs && allB vI ys && decide (xs.length = ys.length) && allZ touchI xs ys
set_option maxHeartbeats 4000000 in
theorem d55 (xs ys : List (Int × Int)) (hl : xs.length ≤ 9223372036854775807) (hm : ys.length ≤ 9223372036854775807) : DetH Try.prog 55 [.pv (iv xs), .pv (iv ys)] [] [] (.pv (B (touchL xs ys))) := by
  cases hv : allB vI xs with
  | false =>
    have hr : touchL xs ys = false := by simp [touchL, hv]
    rw [hr]
    refine detP_of Try.func55 rfl (by kernel_rfl) (by simp [Try.f55]) rfl ?_
    intro C hP hN
    simp only [Try.f55] at hN ⊢
    repeat' (first
      | with_reducible refine WP.seq ?_
      | (with_reducible ((first | refine WP.region (hn := []) ?_ | refine xC_intro (d82 _ hl) ?_ | refine xC_intro (d82 _ hm) ?_ | refine WP.cond' ?_); simp -implicitDefEqProofs (maxSteps := 2000000) [hP, hN, hv]))
      | (with_reducible ((first | refine WP.draw (hn := []) (by rw [hP]; kernel_rfl) (by kernel_rfl) ?_ | refine yC_intro (d82 _ hl) ?_ | refine yC_intro (d82 _ hm) ?_); simp -implicitDefEqProofs (maxSteps := 2000000) [hP, hN, hv]; (try refine ⟨by kernel_rfl, ?_⟩)))
      | (with_reducible refine xB_split (by simp [hv]) (fun hgd => ?_) (fun hgd => ?_) <;> first | (exfalso; simp at hgd; done) | (exfalso; simp at hgd; omega) | simp -implicitDefEqProofs (maxSteps := 2000000) [hP, hN, hv])
      | (with_reducible refine yB_split (by simp [hv]) (fun hgd => ?_) (fun hgd => ?_) <;> first | (exfalso; simp at hgd; done) | (exfalso; simp at hgd; omega) | (simp -implicitDefEqProofs (maxSteps := 2000000) [hP, hN, hv] <;> (try refine ⟨by kernel_rfl, ?_⟩)))
      | with_reducible refine xTwo_intro ?_ ?_
      | (with_reducible refine xCond_split (fun hcd => ?_) (fun hcd => ?_) <;> (try (exfalso; clear hP hN; simp_all; done)) <;> (try (exfalso; simp at *; omega)))
      | with_reducible refine WP.block ?_
      | (with_reducible ((first | refine WP.skip ?_ | refine WP.exit ?_ | refine WP.ret ?_); simp [hv])))
  | true =>
    cases hu : allB vI ys with
    | false =>
      have hr : touchL xs ys = false := by simp [touchL, hv, hu]
      rw [hr]
      refine detP_of Try.func55 rfl (by kernel_rfl) (by simp [Try.f55]) rfl ?_
      intro C hP hN
      simp only [Try.f55] at hN ⊢
      repeat' (first
        | with_reducible refine WP.seq ?_
        | (with_reducible ((first | refine WP.region (hn := []) ?_ | refine xC_intro (d82 _ hl) ?_ | refine xC_intro (d82 _ hm) ?_ | refine WP.cond' ?_); simp -implicitDefEqProofs (maxSteps := 2000000) [hP, hN, hv, hu]))
        | (with_reducible ((first | refine WP.draw (hn := []) (by rw [hP]; kernel_rfl) (by kernel_rfl) ?_ | refine yC_intro (d82 _ hl) ?_ | refine yC_intro (d82 _ hm) ?_); simp -implicitDefEqProofs (maxSteps := 2000000) [hP, hN, hv, hu]; (try refine ⟨by kernel_rfl, ?_⟩)))
        | (with_reducible refine xB_split (by simp [hv, hu]) (fun hgd => ?_) (fun hgd => ?_) <;> first | (exfalso; simp at hgd; done) | (exfalso; simp at hgd; omega) | simp -implicitDefEqProofs (maxSteps := 2000000) [hP, hN, hv, hu])
        | (with_reducible refine yB_split (by simp [hv, hu]) (fun hgd => ?_) (fun hgd => ?_) <;> first | (exfalso; simp at hgd; done) | (exfalso; simp at hgd; omega) | (simp -implicitDefEqProofs (maxSteps := 2000000) [hP, hN, hv, hu] <;> (try refine ⟨by kernel_rfl, ?_⟩)))
        | with_reducible refine xTwo_intro ?_ ?_
        | (with_reducible refine xCond_split (fun hcd => ?_) (fun hcd => ?_) <;> (try (exfalso; clear hP hN; simp_all; done)) <;> (try (exfalso; simp at *; omega)))
        | with_reducible refine WP.block ?_
        | (with_reducible ((first | refine WP.skip ?_ | refine WP.exit ?_ | refine WP.ret ?_); simp [hv, hu])))
    | true =>
      by_cases he : xs.length = ys.length
      · have he' : ((xs.length : Int) != ys.length) = false := by simp [he]
        have hr : touchL xs ys = allZ touchI xs ys := by simp [touchL, hv, hu, he]
        rw [hr]
        refine detP_of Try.func55 rfl (by kernel_rfl) (by simp [Try.f55]) rfl ?_
        intro C hP hN
        simp only [Try.f55] at hN ⊢
        repeat' (first
          | with_reducible refine WP.seq ?_
          | (with_reducible ((first | refine WP.region (hn := []) ?_ | refine xC_intro (d82 _ hl) ?_ | refine xC_intro (d82 _ hm) ?_ | refine WP.cond' ?_); simp -implicitDefEqProofs (maxSteps := 2000000) [hP, hN, hv, hu, he']))
          | (with_reducible ((first | refine WP.draw (hn := []) (by rw [hP]; kernel_rfl) (by kernel_rfl) ?_ | refine yC_intro (d82 _ hl) ?_ | refine yC_intro (d82 _ hm) ?_); simp -implicitDefEqProofs (maxSteps := 2000000) [hP, hN, hv, hu, he']; (try refine ⟨by kernel_rfl, ?_⟩)))
          | (with_reducible refine xB_split (by simp [hv, hu, he']) (fun hgd => ?_) (fun hgd => ?_) <;> first | (exfalso; simp at hgd; done) | (exfalso; simp at hgd; omega) | simp -implicitDefEqProofs (maxSteps := 2000000) [hP, hN, hv, hu, he'])
          | (with_reducible refine yB_split (by simp [hv, hu, he']) (fun hgd => ?_) (fun hgd => ?_) <;> first | (exfalso; simp at hgd; done) | (exfalso; simp at hgd; omega) | (simp -implicitDefEqProofs (maxSteps := 2000000) [hP, hN, hv, hu, he'] <;> (try refine ⟨by kernel_rfl, ?_⟩)))
          | with_reducible refine xTwo_intro ?_ ?_
          | (with_reducible refine xCond_split (fun hcd => ?_) (fun hcd => ?_) <;> (try (exfalso; clear hP hN; simp_all; done)) <;> (try (exfalso; simp at *; omega)))
          | with_reducible refine WP.block ?_
          | (with_reducible ((first | refine WP.skip ?_ | refine WP.exit ?_ | refine WP.ret ?_); simp [hv, hu, he'])))
        refine WP.loopN [6] xs.length (fun i st => st.t 0 = .pv (iv xs) ∧ st.t 1 = .pv (iv ys) ∧ st.t 5 = .pv (Z i) ∧ st.h 6 = none ∧ allZt touchI xs ys i = true) (by simp [allZt]) ?_
        rintro i st hi ⟨g0, g1, g5, hb, hq⟩
        by_cases hlt : i < xs.length
        · have hw := wr_succ hlt hl
          have hlt' : i < ys.length := by omega
          have hF : touchI xs[i] ys[i] = false → allZ touchI xs ys = false := allZ_false hlt hlt'
          have hS : touchI xs[i] ys[i] = true → allZt touchI xs ys (i + 1) = true := allZ_step hlt hlt' hq
          have cm := d127 xs[i].1 xs[i].2 ys[i].1 ys[i].2
          cases ht : touchI xs[i] ys[i] with
          | true =>
            have ht' : (validB xs[i].1 xs[i].2 && validB ys[i].1 ys[i].2 && decide (max xs[i].1 ys[i].1 ≤ min xs[i].2 ys[i].2)) = true := ht
            rw [if_pos ht'] at cm
            repeat' (first
              | with_reducible refine WP.seq ?_
              | (with_reducible ((first | refine WP.region (hn := []) ?_ | refine xC_intro (cm) ?_ | refine WP.cond' ?_); simp -implicitDefEqProofs (maxSteps := 2000000) [hP, hN, g0, g1, g5, hb, hlt, hlt', hw]))
              | (with_reducible ((first | refine WP.draw (hn := []) (by rw [hP]; kernel_rfl) (by kernel_rfl) ?_ | refine yC_intro (cm) ?_); simp -implicitDefEqProofs (maxSteps := 2000000) [hP, hN, g0, g1, g5, hb, hlt, hlt', hw]; (try refine ⟨by kernel_rfl, ?_⟩)))
              | (with_reducible refine xB_split (by simp [g0, g1, g5, hb, hlt, hlt', hw]) (fun hgd => ?_) (fun hgd => ?_) <;> first | (exfalso; simp at hgd; done) | (exfalso; simp at hgd; omega) | simp -implicitDefEqProofs (maxSteps := 2000000) [hP, hN, g0, g1, g5, hb, hlt, hlt', hw])
              | (with_reducible refine yB_split (by simp [g0, g1, g5, hb, hlt, hlt', hw]) (fun hgd => ?_) (fun hgd => ?_) <;> first | (exfalso; simp at hgd; done) | (exfalso; simp at hgd; omega) | (simp -implicitDefEqProofs (maxSteps := 2000000) [hP, hN, g0, g1, g5, hb, hlt, hlt', hw] <;> (try refine ⟨by kernel_rfl, ?_⟩)))
              | with_reducible refine xTwo_intro ?_ ?_
              | (with_reducible refine xCond_split (fun hcd => ?_) (fun hcd => ?_) <;> (try (exfalso; clear hP hN; simp_all; done)) <;> (try (exfalso; simp at *; omega)))
              | with_reducible refine WP.block ?_
              | (with_reducible ((first | refine WP.skip ?_ | refine WP.exit ?_ | refine WP.ret ?_); simp [g0, g1, g5, hb, hlt, hlt', hw])))
            all_goals simpa using hS ht
          | false =>
            have ht' : (validB xs[i].1 xs[i].2 && validB ys[i].1 ys[i].2 && decide (max xs[i].1 ys[i].1 ≤ min xs[i].2 ys[i].2)) = false := ht
            rw [if_neg (by simp [ht'])] at cm
            repeat' (first
              | with_reducible refine WP.seq ?_
              | (with_reducible ((first | refine WP.region (hn := []) ?_ | refine xC_intro (cm) ?_ | refine WP.cond' ?_); simp -implicitDefEqProofs (maxSteps := 2000000) [hP, hN, g0, g1, g5, hb, hlt, hlt', hw]))
              | (with_reducible ((first | refine WP.draw (hn := []) (by rw [hP]; kernel_rfl) (by kernel_rfl) ?_ | refine yC_intro (cm) ?_); simp -implicitDefEqProofs (maxSteps := 2000000) [hP, hN, g0, g1, g5, hb, hlt, hlt', hw]; (try refine ⟨by kernel_rfl, ?_⟩)))
              | (with_reducible refine xB_split (by simp [g0, g1, g5, hb, hlt, hlt', hw]) (fun hgd => ?_) (fun hgd => ?_) <;> first | (exfalso; simp at hgd; done) | (exfalso; simp at hgd; omega) | simp -implicitDefEqProofs (maxSteps := 2000000) [hP, hN, g0, g1, g5, hb, hlt, hlt', hw])
              | (with_reducible refine yB_split (by simp [g0, g1, g5, hb, hlt, hlt', hw]) (fun hgd => ?_) (fun hgd => ?_) <;> first | (exfalso; simp at hgd; done) | (exfalso; simp at hgd; omega) | (simp -implicitDefEqProofs (maxSteps := 2000000) [hP, hN, g0, g1, g5, hb, hlt, hlt', hw] <;> (try refine ⟨by kernel_rfl, ?_⟩)))
              | with_reducible refine xTwo_intro ?_ ?_
              | (with_reducible refine xCond_split (fun hcd => ?_) (fun hcd => ?_) <;> (try (exfalso; clear hP hN; simp_all; done)) <;> (try (exfalso; simp at *; omega)))
              | with_reducible refine WP.block ?_
              | (with_reducible ((first | refine WP.skip ?_ | refine WP.exit ?_ | refine WP.ret ?_); simp [g0, g1, g5, hb, hlt, hlt', hw])))
            all_goals simp [hF ht]
        · have hlt' : ¬ i < ys.length := by omega
          repeat' (first
            | with_reducible refine WP.seq ?_
            | (with_reducible ((first | refine WP.region (hn := []) ?_ | refine WP.cond' ?_); simp -implicitDefEqProofs (maxSteps := 2000000) [hP, hN, g0, g1, g5, hb, hlt]))
            | (with_reducible ((first | refine WP.draw (hn := []) (by rw [hP]; kernel_rfl) (by kernel_rfl) ?_); simp -implicitDefEqProofs (maxSteps := 2000000) [hP, hN, g0, g1, g5, hb, hlt]; (try refine ⟨by kernel_rfl, ?_⟩)))
            | (with_reducible refine xB_split (by simp [g0, g1, g5, hb, hlt]) (fun hgd => ?_) (fun hgd => ?_) <;> first | (exfalso; simp at hgd; done) | (exfalso; simp at hgd; omega) | simp -implicitDefEqProofs (maxSteps := 2000000) [hP, hN, g0, g1, g5, hb, hlt])
            | (with_reducible refine yB_split (by simp [g0, g1, g5, hb, hlt]) (fun hgd => ?_) (fun hgd => ?_) <;> first | (exfalso; simp at hgd; done) | (exfalso; simp at hgd; omega) | (simp -implicitDefEqProofs (maxSteps := 2000000) [hP, hN, g0, g1, g5, hb, hlt] <;> (try refine ⟨by kernel_rfl, ?_⟩)))
            | with_reducible refine xTwo_intro ?_ ?_
            | (with_reducible refine xCond_split (fun hcd => ?_) (fun hcd => ?_) <;> (try (exfalso; clear hP hN; simp_all; done)) <;> (try (exfalso; simp at *; omega)))
            | with_reducible refine WP.block ?_
            | (with_reducible ((first | refine WP.skip ?_ | refine WP.exit ?_ | refine WP.ret ?_); simp [g0, g1, g5, hb, hlt])))
          all_goals simp [allZ_done hlt hq]
      · have he' : ((xs.length : Int) != ys.length) = true := by simp; omega
        have hr : touchL xs ys = false := by simp [touchL, he]
        rw [hr]
        refine detP_of Try.func55 rfl (by kernel_rfl) (by simp [Try.f55]) rfl ?_
        intro C hP hN
        simp only [Try.f55] at hN ⊢
        repeat' (first
          | with_reducible refine WP.seq ?_
          | (with_reducible ((first | refine WP.region (hn := []) ?_ | refine xC_intro (d82 _ hl) ?_ | refine xC_intro (d82 _ hm) ?_ | refine WP.cond' ?_); simp -implicitDefEqProofs (maxSteps := 2000000) [hP, hN, hv, hu, he']))
          | (with_reducible ((first | refine WP.draw (hn := []) (by rw [hP]; kernel_rfl) (by kernel_rfl) ?_ | refine yC_intro (d82 _ hl) ?_ | refine yC_intro (d82 _ hm) ?_); simp -implicitDefEqProofs (maxSteps := 2000000) [hP, hN, hv, hu, he']; (try refine ⟨by kernel_rfl, ?_⟩)))
          | (with_reducible refine xB_split (by simp [hv, hu, he']) (fun hgd => ?_) (fun hgd => ?_) <;> first | (exfalso; simp at hgd; done) | (exfalso; simp at hgd; omega) | simp -implicitDefEqProofs (maxSteps := 2000000) [hP, hN, hv, hu, he'])
          | (with_reducible refine yB_split (by simp [hv, hu, he']) (fun hgd => ?_) (fun hgd => ?_) <;> first | (exfalso; simp at hgd; done) | (exfalso; simp at hgd; omega) | (simp -implicitDefEqProofs (maxSteps := 2000000) [hP, hN, hv, hu, he'] <;> (try refine ⟨by kernel_rfl, ?_⟩)))
          | with_reducible refine xTwo_intro ?_ ?_
          | (with_reducible refine xCond_split (fun hcd => ?_) (fun hcd => ?_) <;> (try (exfalso; clear hP hN; simp_all; done)) <;> (try (exfalso; simp at *; omega)))
          | with_reducible refine WP.block ?_
          | (with_reducible ((first | refine WP.skip ?_ | refine WP.exit ?_ | refine WP.ret ?_); simp [hv, hu, he'])))
end Go.Ab

/- ConfigBoxes and ConfigLists: contracts and walks. -/
namespace Go.Ab
open Go.Proofs
theorem touchL_eq (xs ys : List (Int × Int)) : touchL xs ys = touchC xs ys := by
  unfold touchL touchC
  by_cases he : xs.length = ys.length
  · cases hz : allZ touchI xs ys with
    | false => simp
    | true =>
      rw [allZ_iff] at hz
      have v1 : allB vI xs = true := by
        rw [allB_iff]; intro x hx
        obtain ⟨i, hi, rfl⟩ := List.mem_iff_getElem.1 hx
        have := hz i hi (by omega)
        simp only [touchI, Bool.and_eq_true] at this; exact this.1.1
      have v2 : allB vI ys = true := by
        rw [allB_iff]; intro x hx
        obtain ⟨i, hi, rfl⟩ := List.mem_iff_getElem.1 hx
        have := hz i (by omega) hi
        simp only [touchI, Bool.and_eq_true] at this; exact this.1.2
      simp [v1, v2, he]
  · simp [he]
theorem hasL_eq (xs : List (Int × Int)) (ys : List Int) : hasL xs ys = hasC xs ys := by
  unfold hasL hasC
  by_cases he : xs.length = ys.length
  · cases hz : allZ hasI xs ys with
    | false => simp
    | true =>
      rw [allZ_iff] at hz
      have v1 : allB vI xs = true := by
        rw [allB_iff]; intro x hx
        obtain ⟨i, hi, rfl⟩ := List.mem_iff_getElem.1 hx
        have := hz i hi (by omega)
        simp only [hasI, Bool.and_eq_true] at this; exact this.1.1
      simp [v1, he]
  · simp [he]
theorem hvF (xs : List (Int × Int)) (j : Int) (hl : xs.length ≤ 16777216) (hv : allB vI xs = false) : DetH Try.prog 119 [.pv (iv xs), .pv (Z j)] [] [] (.pv (.tup [iv [], iv [], B false])) := by
  refine detP_of Try.func119 rfl (by kernel_rfl) (by simp [Try.f119]) rfl ?_
  intro C hP hN
  simp only [Try.f119] at hN ⊢
  repeat' (first
    | with_reducible refine WP.seq ?_
    | (with_reducible ((first | refine WP.region (hn := []) ?_ | refine xC_intro (d82 _ (big hl)) ?_ | refine WP.cond' ?_); simp -implicitDefEqProofs (maxSteps := 2000000) [hP, hN, hv]))
    | (with_reducible ((first | refine WP.draw (hn := []) (by rw [hP]; kernel_rfl) (by kernel_rfl) ?_ | refine yC_intro (d82 _ (big hl)) ?_); simp -implicitDefEqProofs (maxSteps := 2000000) [hP, hN, hv]; (try refine ⟨by kernel_rfl, ?_⟩)))
    | (with_reducible refine xB_split (by simp [hv]) (fun hgd => ?_) (fun hgd => ?_) <;> first | (exfalso; simp at hgd; done) | (exfalso; simp at hgd; omega) | simp -implicitDefEqProofs (maxSteps := 2000000) [hP, hN, hv])
    | (with_reducible refine yB_split (by simp [hv]) (fun hgd => ?_) (fun hgd => ?_) <;> first | (exfalso; simp at hgd; done) | (exfalso; simp at hgd; omega) | (simp -implicitDefEqProofs (maxSteps := 2000000) [hP, hN, hv] <;> (try refine ⟨by kernel_rfl, ?_⟩)))
    | with_reducible refine xTwo_intro ?_ ?_
    | (with_reducible refine xCond_split (fun hcd => ?_) (fun hcd => ?_) <;> (try (exfalso; clear hP hN; simp_all; done)) <;> (try (exfalso; simp at *; omega)))
    | with_reducible refine WP.block ?_
    | (with_reducible ((first | refine WP.skip ?_ | refine WP.exit ?_ | refine WP.ret ?_); simp [hv])))
theorem hvN (xs : List (Int × Int)) (j : Int) (hl : xs.length ≤ 16777216) (hv : allB vI xs = true) (hj : j < 0) : DetH Try.prog 119 [.pv (iv xs), .pv (Z j)] [] [] (.pv (.tup [iv [], iv [], B false])) := by
  refine detP_of Try.func119 rfl (by kernel_rfl) (by simp [Try.f119]) rfl ?_
  intro C hP hN
  simp only [Try.f119] at hN ⊢
  repeat' (first
    | with_reducible refine WP.seq ?_
    | (with_reducible ((first | refine WP.region (hn := []) ?_ | refine xC_intro (d82 _ (big hl)) ?_ | refine WP.cond' ?_); simp -implicitDefEqProofs (maxSteps := 2000000) [hP, hN, hv, hj]))
    | (with_reducible ((first | refine WP.draw (hn := []) (by rw [hP]; kernel_rfl) (by kernel_rfl) ?_ | refine yC_intro (d82 _ (big hl)) ?_); simp -implicitDefEqProofs (maxSteps := 2000000) [hP, hN, hv, hj]; (try refine ⟨by kernel_rfl, ?_⟩)))
    | (with_reducible refine xB_split (by simp [hv, hj]) (fun hgd => ?_) (fun hgd => ?_) <;> first | (exfalso; simp at hgd; done) | (exfalso; simp at hgd; omega) | simp -implicitDefEqProofs (maxSteps := 2000000) [hP, hN, hv, hj])
    | (with_reducible refine yB_split (by simp [hv, hj]) (fun hgd => ?_) (fun hgd => ?_) <;> first | (exfalso; simp at hgd; done) | (exfalso; simp at hgd; omega) | (simp -implicitDefEqProofs (maxSteps := 2000000) [hP, hN, hv, hj] <;> (try refine ⟨by kernel_rfl, ?_⟩)))
    | with_reducible refine xTwo_intro ?_ ?_
    | (with_reducible refine xCond_split (fun hcd => ?_) (fun hcd => ?_) <;> (try (exfalso; clear hP hN; simp_all; done)) <;> (try (exfalso; simp at *; omega)))
    | with_reducible refine WP.block ?_
    | (with_reducible ((first | refine WP.skip ?_ | refine WP.exit ?_ | refine WP.ret ?_); simp [hv, hj])))
theorem hvO (xs : List (Int × Int)) (n : Nat) (hl : xs.length ≤ 16777216) (hv : allB vI xs = true) (hlt : xs.length ≤ n) : DetH Try.prog 119 [.pv (iv xs), .pv (Z n)] [] [] (.pv (.tup [iv [], iv [], B false])) := by
  have hnl : (xs.length : Int) ≤ (n : Int) := by omega
  refine detP_of Try.func119 rfl (by kernel_rfl) (by simp [Try.f119]) rfl ?_
  intro C hP hN
  simp only [Try.f119] at hN ⊢
  repeat' (first
    | with_reducible refine WP.seq ?_
    | (with_reducible ((first | refine WP.region (hn := []) ?_ | refine xC_intro (d82 _ (big hl)) ?_ | refine WP.cond' ?_); simp -implicitDefEqProofs (maxSteps := 2000000) [hP, hN, hv, hnl, hlt]))
    | (with_reducible ((first | refine WP.draw (hn := []) (by rw [hP]; kernel_rfl) (by kernel_rfl) ?_ | refine yC_intro (d82 _ (big hl)) ?_); simp -implicitDefEqProofs (maxSteps := 2000000) [hP, hN, hv, hnl, hlt]; (try refine ⟨by kernel_rfl, ?_⟩)))
    | (with_reducible refine xB_split (by simp [hv, hnl, hlt]) (fun hgd => ?_) (fun hgd => ?_) <;> first | (exfalso; simp at hgd; done) | (exfalso; simp at hgd; omega) | simp -implicitDefEqProofs (maxSteps := 2000000) [hP, hN, hv, hnl, hlt])
    | (with_reducible refine yB_split (by simp [hv, hnl, hlt]) (fun hgd => ?_) (fun hgd => ?_) <;> first | (exfalso; simp at hgd; done) | (exfalso; simp at hgd; omega) | (simp -implicitDefEqProofs (maxSteps := 2000000) [hP, hN, hv, hnl, hlt] <;> (try refine ⟨by kernel_rfl, ?_⟩)))
    | with_reducible refine xTwo_intro ?_ ?_
    | (with_reducible refine xCond_split (fun hcd => ?_) (fun hcd => ?_) <;> (try (exfalso; clear hP hN; simp_all; done)) <;> (try (exfalso; simp at *; omega)))
    | with_reducible refine WP.block ?_
    | (with_reducible ((first | refine WP.skip ?_ | refine WP.exit ?_ | refine WP.ret ?_); simp [hv, hnl, hlt])))
theorem hvS (xs : List (Int × Int)) (n : Nat) (hl : xs.length ≤ 16777216) (hv : allB vI xs = true) (hlt : n < xs.length) (hw : IntKind.i64.wrap (xs[n].2 - xs[n].1) = xs[n].2 - xs[n].1) (hs : xs[n].2 - xs[n].1 < 2) : DetH Try.prog 119 [.pv (iv xs), .pv (Z n)] [] [] (.pv (.tup [iv [], iv [], B false])) := by
  have hnl : ¬ (xs.length : Int) ≤ (n : Int) := by omega
  refine detP_of Try.func119 rfl (by kernel_rfl) (by simp [Try.f119]) rfl ?_
  intro C hP hN
  simp only [Try.f119] at hN ⊢
  repeat' (first
    | with_reducible refine WP.seq ?_
    | (with_reducible ((first | refine WP.region (hn := []) ?_ | refine xC_intro (d82 _ (big hl)) ?_ | refine WP.cond' ?_); simp -implicitDefEqProofs (maxSteps := 2000000) [hP, hN, hv, hlt, hw, hs, hnl, Nat.not_le.2 hlt]))
    | (with_reducible ((first | refine WP.draw (hn := []) (by rw [hP]; kernel_rfl) (by kernel_rfl) ?_ | refine yC_intro (d82 _ (big hl)) ?_); simp -implicitDefEqProofs (maxSteps := 2000000) [hP, hN, hv, hlt, hw, hs, hnl, Nat.not_le.2 hlt]; (try refine ⟨by kernel_rfl, ?_⟩)))
    | (with_reducible refine xB_split (by simp [hv, hlt, hw, hs, hnl, Nat.not_le.2 hlt]) (fun hgd => ?_) (fun hgd => ?_) <;> first | (exfalso; simp at hgd; done) | (exfalso; simp at hgd; omega) | simp -implicitDefEqProofs (maxSteps := 2000000) [hP, hN, hv, hlt, hw, hs, hnl, Nat.not_le.2 hlt])
    | (with_reducible refine yB_split (by simp [hv, hlt, hw, hs, hnl, Nat.not_le.2 hlt]) (fun hgd => ?_) (fun hgd => ?_) <;> first | (exfalso; simp at hgd; done) | (exfalso; simp at hgd; omega) | (simp -implicitDefEqProofs (maxSteps := 2000000) [hP, hN, hv, hlt, hw, hs, hnl, Nat.not_le.2 hlt] <;> (try refine ⟨by kernel_rfl, ?_⟩)))
    | with_reducible refine xTwo_intro ?_ ?_
    | (with_reducible refine xCond_split (fun hcd => ?_) (fun hcd => ?_) <;> (try (exfalso; clear hP hN; simp_all; done)) <;> (try (exfalso; simp at *; omega)))
    | with_reducible refine WP.block ?_
    | (with_reducible ((first | refine WP.skip ?_ | refine WP.exit ?_ | refine WP.ret ?_); simp [hv, hlt, hw, hs, hnl, Nat.not_le.2 hlt])))
set_option maxHeartbeats 4000000 in
theorem hvY (xs : List (Int × Int)) (n : Nat) (hl : xs.length ≤ 16777216) (hv : allB vI xs = true) (hlt : n < xs.length) (hw : IntKind.i64.wrap (xs[n].2 - xs[n].1) = xs[n].2 - xs[n].1) (hs : ¬ xs[n].2 - xs[n].1 < 2) : DetH Try.prog 119 [.pv (iv xs), .pv (Z n)] [] [] (.pv (.tup [iv (xs.set n (xs[n].1, midI xs[n])), iv (xs.set n (midI xs[n], xs[n].2)), B true])) := by
  have hnl : ¬ (xs.length : Int) ≤ (n : Int) := by omega
  generalize hm : midI xs[n] = m
  have cm := d105 xs[n]
  rw [hm] at cm
  refine detP_of Try.func119 rfl (by kernel_rfl) (by simp [Try.f119]) rfl ?_
  intro C hP hN
  simp only [Try.f119] at hN ⊢
  repeat' (first
    | with_reducible refine WP.seq ?_
    | (with_reducible ((first | refine WP.region (hn := []) ?_ | refine xC_intro (d82 _ (big hl)) ?_ | refine xC_intro (cm) ?_ | refine WP.cond' ?_); simp -implicitDefEqProofs (maxSteps := 2000000) [hP, hN, hv, hlt, hw, hs, hnl, Nat.not_le.2 hlt, show xs.length * 16 ≤ 140737488355328 by omega, show xs.length ≤ 9223372036854775807 by omega]))
    | (with_reducible ((first | refine WP.draw (hn := []) (by rw [hP]; kernel_rfl) (by kernel_rfl) ?_ | refine yC_intro (d82 _ (big hl)) ?_ | refine yC_intro (cm) ?_); simp -implicitDefEqProofs (maxSteps := 2000000) [hP, hN, hv, hlt, hw, hs, hnl, Nat.not_le.2 hlt, show xs.length * 16 ≤ 140737488355328 by omega, show xs.length ≤ 9223372036854775807 by omega]; (try refine ⟨by kernel_rfl, ?_⟩)))
    | (with_reducible refine xB_split (by simp [hv, hlt, hw, hs, hnl, Nat.not_le.2 hlt, show xs.length * 16 ≤ 140737488355328 by omega, show xs.length ≤ 9223372036854775807 by omega]) (fun hgd => ?_) (fun hgd => ?_) <;> first | (exfalso; simp at hgd; done) | (exfalso; simp at hgd; omega) | simp -implicitDefEqProofs (maxSteps := 2000000) [hP, hN, hv, hlt, hw, hs, hnl, Nat.not_le.2 hlt, show xs.length * 16 ≤ 140737488355328 by omega, show xs.length ≤ 9223372036854775807 by omega])
    | (with_reducible refine yB_split (by simp [hv, hlt, hw, hs, hnl, Nat.not_le.2 hlt, show xs.length * 16 ≤ 140737488355328 by omega, show xs.length ≤ 9223372036854775807 by omega]) (fun hgd => ?_) (fun hgd => ?_) <;> first | (exfalso; simp at hgd; done) | (exfalso; simp at hgd; omega) | (simp -implicitDefEqProofs (maxSteps := 2000000) [hP, hN, hv, hlt, hw, hs, hnl, Nat.not_le.2 hlt, show xs.length * 16 ≤ 140737488355328 by omega, show xs.length ≤ 9223372036854775807 by omega] <;> (try refine ⟨by kernel_rfl, ?_⟩)))
    | with_reducible refine xTwo_intro ?_ ?_
    | (with_reducible refine xCond_split (fun hcd => ?_) (fun hcd => ?_) <;> (try (exfalso; clear hP hN; simp_all; done)) <;> (try (exfalso; simp at *; omega)))
    | with_reducible refine WP.block ?_
    | (with_reducible ((first | refine WP.skip ?_ | refine WP.exit ?_ | refine WP.ret ?_); simp [hv, hlt, hw, hs, hnl, Nat.not_le.2 hlt, show xs.length * 16 ≤ 140737488355328 by omega, show xs.length ≤ 9223372036854775807 by omega])))
  all_goals simp [List.map_set]
theorem d119 (xs : List (Int × Int)) (j : Int) (hl : xs.length ≤ 16777216) : DetH Try.prog 119 [.pv (iv xs), .pv (Z j)] [] [] (.pv (.tup [iv (halveA xs j), iv (halveZ xs j), B (halveOk xs j)])) := by
  cases hv : allB vI xs with
  | false =>
    have hr : halveOk xs j = false := by simp [halveOk, hv]
    have hr1 : halveA xs j = [] := by simp [halveA, hr]
    have hr2 : halveZ xs j = [] := by simp [halveZ, hr]
    rw [hr, hr1, hr2]
    exact hvF xs j hl hv
  | true =>
    by_cases hj : 0 ≤ j
    · obtain ⟨n, rfl⟩ := Int.eq_ofNat_of_zero_le hj
      by_cases hlt : n < xs.length
      · have hx := List.getElem?_eq_getElem hlt
        have hvx : validB xs[n].1 xs[n].2 = true := allB_iff.1 hv _ (List.getElem_mem hlt)
        have hb := valid_range hvx
        have hwd : widthI xs[n] = xs[n].2 - xs[n].1 := by
          rw [widthI, hvx]; simp only [if_true]; exact wr_id (by omega) (by omega)
        have hw : IntKind.i64.wrap (xs[n].2 - xs[n].1) = xs[n].2 - xs[n].1 := wr_id (by omega) (by omega)
        by_cases hs : xs[n].2 - xs[n].1 < 2
        · have hr : halveOk xs (n : Int) = false := by simp [halveOk, hv, hx, hwd]; omega
          have hr1 : halveA xs (n : Int) = [] := by simp [halveA, hr]
          have hr2 : halveZ xs (n : Int) = [] := by simp [halveZ, hr]
          rw [hr, hr1, hr2]
          exact hvS xs n hl hv hlt hw hs
        · have hr : halveOk xs (n : Int) = true := by simp [halveOk, hv, hx, hwd]; omega
          have hr1 : halveA xs (n : Int) = xs.set n (xs[n].1, midI xs[n]) := by simp [halveA, hr, hx]
          have hr2 : halveZ xs (n : Int) = xs.set n (midI xs[n], xs[n].2) := by simp [halveZ, hr, hx]
          rw [hr, hr1, hr2]
          exact hvY xs n hl hv hlt hw hs
      · have hx : xs[n]? = none := List.getElem?_eq_none (by omega)
        have hr : halveOk xs (n : Int) = false := by simp [halveOk, hx]
        have hr1 : halveA xs (n : Int) = [] := by simp [halveA, hr]
        have hr2 : halveZ xs (n : Int) = [] := by simp [halveZ, hr]
        rw [hr, hr1, hr2]
        exact hvO xs n hl hv (Nat.not_lt.1 hlt)
    · have hr : halveOk xs j = false := by simp [halveOk, hj]
      have hr1 : halveA xs j = [] := by simp [halveA, hr]
      have hr2 : halveZ xs j = [] := by simp [halveZ, hr]
      rw [hr, hr1, hr2]
      exact hvN xs j hl hv (by omega)
end Go.Ab
