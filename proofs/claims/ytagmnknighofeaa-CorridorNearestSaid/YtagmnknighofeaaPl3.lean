/- The plain laws of ConfigNested and ConfigEnds. -/
import Derived.Test.YtagmnknighofeaaPl2
set_option linter.all false
namespace Go.Ab
theorem mul_nonneg' {a b : Int} (ha : 0 ≤ a) (hb : 0 ≤ b) : 0 ≤ a * b := Int.mul_nonneg ha hb
/-- floor and ceiling of a product's parts -/
theorem ediv_le_ceil {a b N : Int} (hN : 0 < N) (h : a ≤ b) : a / N ≤ -(-b / N) := by
  have h1 : a / N * N ≤ a := Int.ediv_mul_le a (by omega)
  have h2 : -b / N * N ≤ -b := Int.ediv_mul_le (-b) (by omega)
  have h3 : (a / N + -b / N) * N ≤ 0 := by rw [Int.add_mul]; omega
  have h4 : a / N + -b / N ≤ 0 := by
    rcases Int.lt_or_le 0 (a / N + -b / N) with h | h
    · have := Int.mul_pos h hN; omega
    · exact h
  omega
theorem ediv_scale {a N K : Int} (hK : 0 < K) : (K * a) / (N * K) = a / N := by
  rw [Int.mul_comm N K, Int.mul_ediv_mul_of_pos _ _ hK]
theorem pieceP_nest {N K i j f t : Int} (hN : 0 < N) (hK : 0 < K) (h1 : i * K ≤ j) (h2 : j + 1 ≤ (i + 1) * K) :
    (pieceP N i f t).1 ≤ (pieceP (N * K) j f t).1 ∧ (pieceP (N * K) j f t).2 ≤ (pieceP N i f t).2 := by
  unfold pieceP
  simp only
  generalize t - f = D
  have hNK : 0 < N * K := Int.mul_pos hN hK
  have key : K * min (i * D) ((i + 1) * D) ≤ min (j * D) ((j + 1) * D) ∧ max (j * D) ((j + 1) * D) ≤ K * max (i * D) ((i + 1) * D) := by
    have e1 : K * (i * D) = (i * K) * D := by rw [← Int.mul_assoc, Int.mul_comm K i]
    have e2 : K * ((i + 1) * D) = ((i + 1) * K) * D := by rw [← Int.mul_assoc, Int.mul_comm K (i + 1)]
    rcases Int.le_total 0 D with hD | hD
    · have a1 : i * D ≤ (i + 1) * D := Int.mul_le_mul_of_nonneg_right (by omega) hD
      have a2 : j * D ≤ (j + 1) * D := Int.mul_le_mul_of_nonneg_right (by omega) hD
      have a3 : (i * K) * D ≤ j * D := Int.mul_le_mul_of_nonneg_right h1 hD
      have a4 : (j + 1) * D ≤ ((i + 1) * K) * D := Int.mul_le_mul_of_nonneg_right h2 hD
      rw [Int.min_eq_left a1, Int.min_eq_left a2, Int.max_eq_right a1, Int.max_eq_right a2, e1, e2]
      exact ⟨a3, a4⟩
    · have a1 : (i + 1) * D ≤ i * D := Int.mul_le_mul_of_nonpos_right (by omega) hD
      have a2 : (j + 1) * D ≤ j * D := Int.mul_le_mul_of_nonpos_right (by omega) hD
      have a3 : j * D ≤ (i * K) * D := Int.mul_le_mul_of_nonpos_right h1 hD
      have a4 : ((i + 1) * K) * D ≤ (j + 1) * D := Int.mul_le_mul_of_nonpos_right h2 hD
      rw [Int.min_eq_right a1, Int.min_eq_right a2, Int.max_eq_left a1, Int.max_eq_left a2, e1, e2]
      exact ⟨a4, a3⟩
  generalize min (i * D) ((i + 1) * D) = m at key ⊢
  generalize max (i * D) ((i + 1) * D) = M at key ⊢
  generalize min (j * D) ((j + 1) * D) = m' at key ⊢
  generalize max (j * D) ((j + 1) * D) = M' at key ⊢
  have b1 : m / N ≤ m' / (N * K) := by rw [← ediv_scale (a := m) (N := N) hK]; exact Int.ediv_le_ediv hNK key.1
  have b2 : -M / N ≤ -M' / (N * K) := by
    rw [← ediv_scale (a := -M) (N := N) hK]
    refine Int.ediv_le_ediv hNK ?_
    have : K * -M = -(K * M) := Int.mul_neg K M
    omega
  omega
theorem pieceP_ord {N i f t : Int} (hN : 0 < N) : (pieceP N i f t).1 ≤ (pieceP N i f t).2 := by
  unfold pieceP
  simp only
  have := ediv_le_ceil (a := min (i * (t - f)) ((i + 1) * (t - f))) (b := max (i * (t - f)) ((i + 1) * (t - f))) hN (by omega)
  omega
theorem pieceP_one (f t : Int) : pieceP 1 0 f t = (min f t, max f t) := by
  unfold pieceP
  refine Prod.ext ?_ ?_ <;> simp <;> omega
theorem pieceP_in {N i f t : Int} (hN : 0 < N) (h0 : 0 ≤ i) (h1 : i < N) : min f t ≤ (pieceP N i f t).1 ∧ (pieceP N i f t).2 ≤ max f t := by
  have := pieceP_nest (N := 1) (K := N) (i := 0) (j := i) (f := f) (t := t) (by decide) hN (by omega) (by omega)
  rw [pieceP_one, Int.one_mul] at this
  exact this
/-- What a piece is. -/
theorem piece_valid {N i f t : Int} (hN : 0 < N) (h0 : 0 ≤ i) (h1 : i < N) (hf : -1000000 ≤ f ∧ f ≤ 1000000) (ht : -1000000 ≤ t ∧ t ≤ 1000000) : validB (pieceP N i f t).1 (pieceP N i f t).2 = true := by
  have a := pieceP_in (f := f) (t := t) hN h0 h1
  have b := pieceP_ord (i := i) (f := f) (t := t) hN
  simp only [validB, Bool.and_eq_true, decide_eq_true_eq]; omega
theorem allB_iff {α : Type} {p : α → Bool} {xs : List α} : allB p xs = true ↔ ∀ x ∈ xs, p x = true := by simp [allB]
theorem allZ_iff {α β : Type} {f : α → β → Bool} {xs : List α} {ys : List β} : allZ f xs ys = true ↔ ∀ (i : Nat) (h : i < xs.length) (h' : i < ys.length), f xs[i] ys[i] = true := by
  unfold allZ
  rw [List.all_eq_true]
  constructor
  · intro h i hi hi'
    exact h (f xs[i] ys[i]) (by
      rw [List.mem_iff_getElem]
      exact ⟨i, by simp; omega, by simp⟩)
  · intro h x hx
    obtain ⟨i, hi, rfl⟩ := List.mem_iff_getElem.1 hx
    simp only [List.length_zipWith] at hi
    simpa using h i (by omega) (by omega)
theorem within_iff {xs ys : List (Int × Int)} : withinL xs ys = true ↔ (∀ x ∈ xs, validB x.1 x.2 = true) ∧ (∀ y ∈ ys, validB y.1 y.2 = true) ∧ xs.length = ys.length ∧ ∀ (i : Nat) (h : i < xs.length) (h' : i < ys.length), ys[i].1 ≤ xs[i].1 ∧ xs[i].2 ≤ ys[i].2 := by
  unfold withinL
  simp only [Bool.and_eq_true, decide_eq_true_eq, allB_iff, allZ_iff, vI]
  constructor
  · rintro ⟨⟨⟨h1, h2⟩, h3⟩, h4⟩
    refine ⟨h1, h2, h3, fun i h h' => ?_⟩
    have := h4 i h h'
    simp only [withinI, Bool.and_eq_true, decide_eq_true_eq] at this
    exact ⟨this.1.2, this.2⟩
  · rintro ⟨h1, h2, h3, h4⟩
    refine ⟨⟨⟨h1, h2⟩, h3⟩, fun i h h' => ?_⟩
    simp only [withinI, Bool.and_eq_true, decide_eq_true_eq]
    exact ⟨⟨⟨h1 _ (List.getElem_mem h), h2 _ (List.getElem_mem h')⟩, (h4 i h h').1⟩, (h4 i h h').2⟩
theorem mem_zip {α β γ : Type} {f : α → β → γ} {xs : List α} {ys : List β} {z : γ} (h : z ∈ List.zipWith f xs ys) : ∃ (i : Nat) (h1 : i < xs.length) (h2 : i < ys.length), z = f xs[i] ys[i] := by
  obtain ⟨i, hi, rfl⟩ := List.mem_iff_getElem.1 h
  simp only [List.length_zipWith] at hi
  exact ⟨i, by omega, by omega, by simp⟩
section
variable {p q : List Int} {d i : Int}
theorem piece_all (h : Mot p q d i) {N j : Int} (hN : 0 < N) (h0 : 0 ≤ j) (h1 : j < N) : ∀ x ∈ List.zipWith (pieceP N j) p q, validB x.1 x.2 = true := by
  intro x hx
  obtain ⟨k, hk, hk', rfl⟩ := mem_zip hx
  exact piece_valid hN h0 h1 (h.sp _ (List.getElem_mem hk)) (h.sq _ (List.getElem_mem hk'))
theorem nest_within (h : Mot p q d i) {N K j : Int} (hN : 0 < N) (hi : 0 ≤ i) (hi1 : i < N) (hK : 0 < K) (h1 : i * K ≤ j) (h2 : j + 1 ≤ (i + 1) * K) : withinL (List.zipWith (pieceP (N * K) j) p q) (List.zipWith (pieceP N i) p q) = true := by
  have hj : 0 ≤ j := by have := Int.mul_nonneg hi (Int.le_of_lt hK); omega
  have hj1 : j < N * K := by
    have : (i + 1) * K ≤ N * K := Int.mul_le_mul_of_nonneg_right (by omega) (by omega)
    omega
  rw [within_iff]
  refine ⟨piece_all h (Int.mul_pos hN hK) hj hj1, piece_all h hN hi hi1, by simp, fun k hk hk' => ?_⟩
  simp only [List.getElem_zipWith]
  exact pieceP_nest hN hK h1 h2
theorem box_of (hp : ∀ x ∈ p, -1000000 ≤ x ∧ x ≤ 1000000) : boxL p = p.map fun x => (x, x) := by rw [boxL, allSmall hp]; rfl
theorem hull_box (h : Mot p q d i) : hullL (boxL p) (boxL q) = List.zipWith (fun a b => (min a b, max a b)) p q := by
  rw [box_of h.sp, box_of h.sq, hullL]
  have v1 : allB vI (p.map fun x => (x, x)) = true := by
    rw [allB_iff]; intro x hx
    obtain ⟨y, hy, rfl⟩ := List.mem_map.1 hx
    have := h.sp y hy
    simp [vI, validB]; omega
  have v2 : allB vI (q.map fun x => (x, x)) = true := by
    rw [allB_iff]; intro x hx
    obtain ⟨y, hy, rfl⟩ := List.mem_map.1 hx
    have := h.sq y hy
    simp [vI, validB]; omega
  rw [v1, v2]
  simp only [List.length_map, h.len, Bool.true_and, decide_true, if_true]
  refine List.ext_getElem (by simp) (fun k h1 h2 => ?_)
  simp only [List.length_zipWith, List.length_map] at h1
  have a := h.sp p[k] (List.getElem_mem (by omega))
  have b := h.sq q[k] (List.getElem_mem (by omega))
  simp only [List.getElem_zipWith, List.getElem_map, hullI, validB]
  rw [if_pos (by simp; omega)]
theorem in_hull (h : Mot p q d i) {N : Int} (hN : 0 < N) (hi : 0 ≤ i) (hi1 : i < N) : withinL (List.zipWith (pieceP N i) p q) (hullL (boxL p) (boxL q)) = true := by
  rw [hull_box h, within_iff]
  refine ⟨piece_all h hN hi hi1, fun y hy => ?_, by simp, fun k hk hk' => ?_⟩
  · obtain ⟨k, hk, hk', rfl⟩ := mem_zip hy
    have a := h.sp _ (List.getElem_mem hk)
    have b := h.sq _ (List.getElem_mem hk')
    simp [validB]; omega
  · simp only [List.getElem_zipWith]
    exact pieceP_in hN hi hi1
end
def nestB (p q : List Int) (d i k at_ : Int) : Bool :=
  (pieceL p q d i).2 && (pieceL p q (d + 1) (2 * i)).2 && (pieceL p q (d + 1) (2 * i + 1)).2 && (pieceL p q (d + k) (i * 2 ^ k.toNat + at_)).2 &&
  withinL (pieceL p q (d + 1) (2 * i)).1 (pieceL p q d i).1 && withinL (pieceL p q (d + 1) (2 * i + 1)).1 (pieceL p q d i).1 && withinL (pieceL p q (d + k) (i * 2 ^ k.toNat + at_)).1 (pieceL p q d i).1 &&
  withinL (pieceL p q d i).1 (hullL (boxL p) (boxL q)) && decide ((pieceL p q d i).1.length = p.length)
theorem nest_true {p q : List Int} {d i k at_ : Int} (h : Mot p q d i) (hk : 0 ≤ k) (hk' : d + k ≤ 20) (ha : 0 ≤ at_) (ha' : at_ < 2 ^ k.toNat) : nestB p q d i k at_ = true := by
  have hd1 := h.d1
  have hd0 := h.d0
  have hi0 := h.i0
  have hi1 := h.i1
  have hN : (0 : Int) < 2 ^ d.toNat := pow_pos2 _
  have hK : (0 : Int) < 2 ^ k.toNat := pow_pos2 _
  have e1 : (2 : Int) ^ (d + 1).toNat = 2 ^ d.toNat * 2 := by
    rw [show (d + 1).toNat = d.toNat + 1 by omega, Int.pow_succ]
  have ek : (2 : Int) ^ (d + k).toNat = 2 ^ d.toNat * 2 ^ k.toNat := by
    rw [show (d + k).toNat = d.toNat + k.toNat by omega, Int.pow_add]
  have b1 : i * 2 ^ k.toNat + at_ < 2 ^ d.toNat * 2 ^ k.toNat := by
    have : (i + 1) * 2 ^ k.toNat ≤ 2 ^ d.toNat * 2 ^ k.toNat := Int.mul_le_mul_of_nonneg_right (by omega) (by omega)
    rw [Int.add_mul] at this
    omega
  have b0 : 0 ≤ i * 2 ^ k.toNat + at_ := by
    have := Int.mul_nonneg hi0 (Int.le_of_lt hK); omega
  rw [nestB, piece_of h.len h.sp h.sq hd0 (by omega) hi0 hi1, piece_of h.len h.sp h.sq (d := d + 1) (i := 2 * i) (by omega) (by omega) (by omega) (by omega),
    piece_of h.len h.sp h.sq (d := d + 1) (i := 2 * i + 1) (by omega) (by omega) (by omega) (by omega), piece_of h.len h.sp h.sq (d := d + k) (i := i * 2 ^ k.toNat + at_) (by omega) (by omega) b0 (by rw [ek]; exact b1)]
  simp only [e1, ek, Bool.true_and]
  rw [nest_within h hN hi0 hi1 (K := 2) (by decide) (by omega) (by omega), nest_within h hN hi0 hi1 (K := 2) (by decide) (by omega) (by omega),
    nest_within h hN hi0 hi1 hK (by omega) (by rw [Int.add_mul]; omega), in_hull h hN hi0 hi1]
  simp [h.len]
def atP (N i f t : Int) : Int := f + (i * (t - f)) / N
theorem atI_eq {i d f t : Int} (hi : 0 ≤ i) (hi' : i ≤ 1048576) (hf : small f) (ht : small t) : atI i d f t = atP (2 ^ d.toNat) i f t := by
  unfold small at hf ht
  have e1 : wr (t - f) = t - f := wr_id (by omega) (by omega)
  have b1 := mul_bound (i := i) (D := t - f) (A := 1048577) (B := 4294967296) hi (by omega) (by omega) (by omega)
  have e2 : wr (i * (t - f)) = i * (t - f) := wr_id (by omega) (by omega)
  simp only [atI, atP, e1, e2, fdiv_ediv]
  have c1 := ediv_bound (a := i * (t - f)) (N := 2 ^ d.toNat) (B := 1048577 * 4294967296) (pow_pos2 _) (by omega) (by omega)
  rw [wr_id (by omega) (by omega)]
theorem at_of {p q : List Int} {d i : Int} (hl : p.length = q.length) (hp : ∀ x ∈ p, -1000000 ≤ x ∧ x ≤ 1000000) (hq : ∀ x ∈ q, -1000000 ≤ x ∧ x ≤ 1000000) (h0 : 0 ≤ d) (h1 : d ≤ 20) (hi : 0 ≤ i) (hi' : i ≤ 2 ^ d.toNat) :
    atL p q d i = (List.zipWith (atP (2 ^ d.toNat) i) p q, true) := by
  have hm : motionB p q d = true := by simp [motionB, hl, allSmall hp, allSmall hq, h0, h1]
  have hb := pow_le20 h1
  rw [atL, hm]
  simp only [Bool.true_and, hi, hi', decide_true, if_true]
  refine Prod.ext ?_ rfl
  refine List.ext_getElem (by simp) (fun k h1 h2 => ?_)
  simp only [List.getElem_zipWith]
  have hk : k < p.length := by simp at h1; omega
  have hk' : k < q.length := by omega
  have a := hp _ (List.getElem_mem hk)
  have b := hq _ (List.getElem_mem hk')
  exact atI_eq hi (by omega) (by unfold small; omega) (by unfold small; omega)
theorem atP_in {N i f t : Int} (hN : 0 < N) : ((pieceP N i f t).1 ≤ atP N i f t ∧ atP N i f t ≤ (pieceP N i f t).2) ∧ ((pieceP N i f t).1 ≤ atP N (i + 1) f t ∧ atP N (i + 1) f t ≤ (pieceP N i f t).2) := by
  unfold pieceP atP
  simp only
  generalize i * (t - f) = a
  generalize (i + 1) * (t - f) = b
  have h1 : min a b / N ≤ a / N := Int.ediv_le_ediv hN (by omega)
  have h2 : min a b / N ≤ b / N := Int.ediv_le_ediv hN (by omega)
  have h3 := ediv_le_ceil (a := a) (b := max a b) hN (by omega)
  have h4 := ediv_le_ceil (a := b) (b := max a b) hN (by omega)
  omega
theorem atP_zero {N f t : Int} : atP N 0 f t = f := by simp [atP]
theorem atP_end {N f t : Int} (hN : 0 < N) : atP N N f t = t := by rw [atP, Int.mul_ediv_cancel_left _ (by omega)]; omega
theorem has_iff {xs : List (Int × Int)} {ys : List Int} : hasL xs ys = true ↔ (∀ x ∈ xs, validB x.1 x.2 = true) ∧ xs.length = ys.length ∧ ∀ (i : Nat) (h : i < xs.length) (h' : i < ys.length), xs[i].1 ≤ ys[i] ∧ ys[i] ≤ xs[i].2 := by
  unfold hasL
  simp only [Bool.and_eq_true, decide_eq_true_eq, allB_iff, allZ_iff, vI]
  constructor
  · rintro ⟨⟨h1, h2⟩, h3⟩
    refine ⟨h1, h2, fun i h h' => ?_⟩
    have := h3 i h h'
    simp only [hasI, Bool.and_eq_true, decide_eq_true_eq] at this
    exact ⟨this.1.2, this.2⟩
  · rintro ⟨h1, h2, h3⟩
    refine ⟨⟨h1, h2⟩, fun i h h' => ?_⟩
    simp only [hasI, Bool.and_eq_true, decide_eq_true_eq]
    exact ⟨⟨h1 _ (List.getElem_mem h), (h3 i h h').1⟩, (h3 i h h').2⟩
theorem zipWith_left {α β : Type} {f : α → β → α} (h : ∀ a b, f a b = a) : ∀ {xs : List α} {ys : List β}, xs.length = ys.length → List.zipWith f xs ys = xs
  | [], [], _ => rfl
  | a :: xs, b :: ys, hl => by simp [h, zipWith_left h (xs := xs) (ys := ys) (by simpa using hl)]
theorem zipWith_right {α β : Type} {f : α → β → β} (h : ∀ a b, f a b = b) : ∀ {xs : List α} {ys : List β}, xs.length = ys.length → List.zipWith f xs ys = ys
  | [], [], _ => rfl
  | a :: xs, b :: ys, hl => by simp [h, zipWith_right h (xs := xs) (ys := ys) (by simpa using hl)]
def endsB (p q : List Int) (d i : Int) : Bool :=
  (pieceL p q d i).2 && (atL p q d i).2 && (atL p q d (i + 1)).2 && (atL p q d 0).2 && (atL p q d (2 ^ d.toNat)).2 && hasL (pieceL p q d i).1 (atL p q d i).1 && hasL (pieceL p q d i).1 (atL p q d (i + 1)).1 &&
  sameX (atL p q d 0).1 p && sameX (atL p q d (2 ^ d.toNat)).1 q
theorem ends_true {p q : List Int} {d i : Int} (h : Mot p q d i) : endsB p q d i = true := by
  have hd1 := h.d1
  have hd0 := h.d0
  have hi0 := h.i0
  have hi1 := h.i1
  have hN : (0 : Int) < 2 ^ d.toNat := pow_pos2 _
  rw [endsB, piece_of h.len h.sp h.sq hd0 (by omega) hi0 hi1, at_of h.len h.sp h.sq hd0 (by omega) hi0 (by omega), at_of h.len h.sp h.sq (i := i + 1) hd0 (by omega) (by omega) (by omega),
    at_of h.len h.sp h.sq (i := 0) hd0 (by omega) (by omega) (by omega), at_of h.len h.sp h.sq (i := 2 ^ d.toNat) hd0 (by omega) (by omega) (by omega)]
  have a1 : hasL (List.zipWith (pieceP (2 ^ d.toNat) i) p q) (List.zipWith (atP (2 ^ d.toNat) i) p q) = true := by
    rw [has_iff]; exact ⟨piece_all h hN hi0 hi1, by simp, fun k hk hk' => by simpa using (atP_in hN).1⟩
  have a2 : hasL (List.zipWith (pieceP (2 ^ d.toNat) i) p q) (List.zipWith (atP (2 ^ d.toNat) (i + 1)) p q) = true := by
    rw [has_iff]; exact ⟨piece_all h hN hi0 hi1, by simp, fun k hk hk' => by simpa using (atP_in hN).2⟩
  rw [a1, a2, zipWith_left (fun a b => atP_zero) h.len, zipWith_right (fun a b => atP_end hN) h.len, same_refl, same_refl]
  rfl
end Go.Ab
