/- Plain facts about boxes: ConfigTouches, ConfigHalves. -/
import Derived.Test.YtagmnknighofeaaPl3
import Derived.Test.YtagmnknighofeaaCf12
set_option linter.all false
namespace Go.Ab
def bxOk (x : Int × Int) : Prop := -1000000 ≤ x.1 ∧ x.1 ≤ x.2 ∧ x.2 ≤ 1000000
def BoxOk (xs : List (Int × Int)) : Prop := ∀ x ∈ xs, bxOk x
theorem bxOk.valid {x : Int × Int} (h : bxOk x) : validB x.1 x.2 = true := by
  unfold bxOk at h; simp [validB]; omega
theorem BoxOk.valid {xs : List (Int × Int)} (h : BoxOk xs) : allB vI xs = true := by rw [allB_iff]; exact fun x hx => (h x hx).valid
theorem mkBoxL_len (l : List Int) (js : List J) : (mkBoxL l js).length = js.length := by simp [mkBoxL]
theorem mkBox_ok {l : List Int} {js : List J} (hj : ∀ j ∈ js, jOk j) : BoxOk (mkBoxL l js) := by
  intro x hx
  simp only [mkBoxL, List.mem_mapIdx] at hx
  obtain ⟨i, hi, rfl⟩ := hx
  have h := hj js[i] (List.getElem_mem hi)
  unfold jOk at h
  have := bVal_range (l := l) (m := bSt l i) h.1 h.2.1 h.2.2
  unfold bxOk; omega
theorem mid_eq {x : Int × Int} (h : bxOk x) : midI x = (x.1 + x.2) / 2 := by
  have hv := h.valid
  unfold bxOk at h
  rw [midI, hv]
  simp only [if_true]
  rw [wr_id (by omega) (by omega), Int.fdiv_eq_ediv_of_nonneg _ (by decide)]
theorem mid_range {x : Int × Int} (h : bxOk x) : x.1 ≤ midI x ∧ midI x ≤ x.2 := by
  rw [mid_eq h]; unfold bxOk at h; omega
theorem hasI_iff {x : Int × Int} {c : Int} (h : bxOk x) : hasI x c = true ↔ x.1 ≤ c ∧ c ≤ x.2 := by
  simp [hasI, h.valid]
theorem touchI_iff {x y : Int × Int} (h : bxOk x) (h' : bxOk y) : touchI x y = true ↔ x.1 ≤ y.2 ∧ y.1 ≤ x.2 := by
  have a := h.2.1
  have b := h'.2.1
  simp [touchI, h.valid, h'.valid]; omega
theorem touch_has {x y : Int × Int} (h : bxOk x) (h' : bxOk y) : touchI x y = hasI x (clampI y (clampI x (midI y))) := by
  have e : (touchI x y = true) ↔ (hasI x (clampI y (clampI x (midI y))) = true) := by
    rw [touchI_iff h h', hasI_iff h]
    have := mid_range h'
    have := h.2.1
    unfold clampI; omega
  cases a : touchI x y <;> cases b : hasI x (clampI y (clampI x (midI y))) <;> simp_all
theorem allZ_congr {α β α' β' : Type} {f : α → β → Bool} {g : α' → β' → Bool} {xs : List α} {ys : List β} {us : List α'} {vs : List β'} (h1 : xs.length = us.length) (h2 : ys.length = vs.length)
    (h : ∀ (i : Nat) (a : i < xs.length) (b : i < ys.length) (c : i < us.length) (d : i < vs.length), f xs[i] ys[i] = g us[i] vs[i]) : allZ f xs ys = allZ g us vs := by
  have e : allZ f xs ys = true ↔ allZ g us vs = true := by
    rw [allZ_iff, allZ_iff]
    constructor
    · intro H i a b; rw [← h i (by omega) (by omega) a b]; exact H i (by omega) (by omega)
    · intro H i a b; rw [h i a b (by omega) (by omega)]; exact H i (by omega) (by omega)
  cases a : allZ f xs ys <;> cases b : allZ g us vs <;> simp_all
section
variable {a b : List (Int × Int)}
theorem clamp_of {xs : List (Int × Int)} {ys : List Int} (h : BoxOk xs) (hl : xs.length = ys.length) : clampL xs ys = List.zipWith clampI xs ys := by rw [clampL, h.valid]; simp [hl]
theorem middle_of {xs : List (Int × Int)} (h : BoxOk xs) : middleL xs = xs.map midI := by rw [middleL, h.valid]; rfl
theorem clamp_mid (ha : BoxOk a) (hb : BoxOk b) (hl : a.length = b.length) : clampL b (clampL a (middleL b)) = List.zipWith clampI b (List.zipWith clampI a (b.map midI)) := by
  rw [middle_of hb, clamp_of ha (by simp [hl]), clamp_of hb (by simp; omega)]
theorem has_clamp (ha : BoxOk a) (hb : BoxOk b) (hl : a.length = b.length) : hasC b (clampL b (clampL a (middleL b))) = true := by
  rw [clamp_mid ha hb hl, hasC]
  simp only [Bool.and_eq_true, decide_eq_true_eq, allZ_iff]
  refine ⟨by simp; omega, fun i h h' => ?_⟩
  have hok := hb b[i] (List.getElem_mem h)
  simp only [List.getElem_zipWith, List.getElem_map]
  rw [hasI_iff hok]
  have := hok.2.1
  unfold clampI; omega
theorem touch_eq (ha : BoxOk a) (hb : BoxOk b) (hl : a.length = b.length) : touchC a b = hasC a (clampL b (clampL a (middleL b))) := by
  rw [clamp_mid ha hb hl, hasC, touchC]
  congr 1
  · simp; omega
  · refine allZ_congr rfl (by simp; omega) (fun i h1 h2 h3 h4 => ?_)
    simp only [List.getElem_zipWith, List.getElem_map]
    exact touch_has (ha _ (List.getElem_mem h1)) (hb _ (List.getElem_mem h2))
theorem touch_comm (ha : BoxOk a) (hb : BoxOk b) (hl : a.length = b.length) : touchC a b = touchC b a := by
  rw [touchC, touchC]
  have e : allZ touchI a b = allZ touchI b a := by
    have e : allZ touchI a b = true ↔ allZ touchI b a = true := by
      rw [allZ_iff, allZ_iff]
      constructor
      · intro H i x y
        have := H i y x
        rw [touchI_iff (ha _ (List.getElem_mem y)) (hb _ (List.getElem_mem x))] at this
        rw [touchI_iff (hb _ (List.getElem_mem x)) (ha _ (List.getElem_mem y))]; exact ⟨this.2, this.1⟩
      · intro H i x y
        have := H i y x
        rw [touchI_iff (hb _ (List.getElem_mem y)) (ha _ (List.getElem_mem x))] at this
        rw [touchI_iff (ha _ (List.getElem_mem x)) (hb _ (List.getElem_mem y))]; exact ⟨this.2, this.1⟩
    cases x : allZ touchI a b <;> cases y : allZ touchI b a <;> simp_all
  rw [e]; simp [hl]
theorem touch_self (ha : BoxOk a) : touchC a a = true := by
  rw [touchC]
  simp only [decide_true, Bool.true_and, allZ_iff]
  intro i h _
  rw [touchI_iff (ha _ (List.getElem_mem h)) (ha _ (List.getElem_mem h))]
  have := (ha _ (List.getElem_mem h)).2.1
  omega
end

/-! ## Halves -/
theorem width_eq {x : Int × Int} (h : bxOk x) : widthI x = x.2 - x.1 := by
  have hv := h.valid
  unfold bxOk at h
  rw [widthI, hv]
  simp only [if_true]
  exact wr_id (by omega) (by omega)
section
variable {b : List (Int × Int)} {k : Nat}
theorem BoxOk.set {v : Int × Int} (hb : BoxOk b) (hv : bxOk v) : BoxOk (b.set k v) := by
  intro x hx
  rcases List.mem_or_eq_of_mem_set hx with h | h
  · exact hb x h
  · rw [h]; exact hv
theorem halveOk_iff (hb : BoxOk b) (hk : k < b.length) : halveOk b (k : Int) = decide (2 ≤ b[k].2 - b[k].1) := by
  simp only [halveOk, hb.valid, Int.toNat_natCast, List.getElem?_eq_getElem hk, width_eq (hb _ (List.getElem_mem hk))]
  simp
theorem halve_no (hb : BoxOk b) (hk : k < b.length) (h : b[k].2 - b[k].1 < 2) : halveOk b (k : Int) = false ∧ halveA b (k : Int) = [] ∧ halveZ b (k : Int) = [] := by
  have e : halveOk b (k : Int) = false := by rw [halveOk_iff hb hk]; simp; omega
  exact ⟨e, by simp [halveA, e], by simp [halveZ, e]⟩
theorem halve_yes (hb : BoxOk b) (hk : k < b.length) (h : ¬ b[k].2 - b[k].1 < 2) : halveOk b (k : Int) = true ∧ halveA b (k : Int) = b.set k (b[k].1, midI b[k]) ∧ halveZ b (k : Int) = b.set k (midI b[k], b[k].2) := by
  have e : halveOk b (k : Int) = true := by rw [halveOk_iff hb hk]; simp; omega
  exact ⟨e, by simp [halveA, e, List.getElem?_eq_getElem hk], by simp [halveZ, e, List.getElem?_eq_getElem hk]⟩
theorem lo_ok (hb : BoxOk b) (hk : k < b.length) : bxOk (b[k].1, midI b[k]) := by
  have h := hb _ (List.getElem_mem hk)
  have := mid_range h
  unfold bxOk at h ⊢; simp only; omega
theorem hi_ok (hb : BoxOk b) (hk : k < b.length) : bxOk (midI b[k], b[k].2) := by
  have h := hb _ (List.getElem_mem hk)
  have := mid_range h
  unfold bxOk at h ⊢; simp only; omega
theorem halves_touch (hb : BoxOk b) (hk : k < b.length) : touchC (b.set k (b[k].1, midI b[k])) (b.set k (midI b[k], b[k].2)) = true := by
  rw [touchC]
  simp only [Bool.and_eq_true, decide_eq_true_eq, allZ_iff]
  refine ⟨by simp, fun i h h' => ?_⟩
  simp only [List.length_set] at h
  have hm := mid_range (hb _ (List.getElem_mem hk))
  by_cases e : k = i
  · subst e
    simp only [List.getElem_set_self]
    rw [touchI_iff (lo_ok hb hk) (hi_ok hb hk)]; simp only; omega
  · simp only [List.getElem_set_ne e]
    have := hb _ (List.getElem_mem h)
    rw [touchI_iff this this]; have := this.2.1; omega
theorem hullI_of {x y : Int × Int} (hx : bxOk x) (hy : bxOk y) : hullI x y = (min x.1 y.1, max x.2 y.2) := by simp [hullI, hx.valid, hy.valid]
theorem halves_hull (hb : BoxOk b) (hk : k < b.length) : hullL (b.set k (b[k].1, midI b[k])) (b.set k (midI b[k], b[k].2)) = b := by
  rw [hullL, (hb.set (lo_ok hb hk)).valid, (hb.set (hi_ok hb hk)).valid]
  simp only [List.length_set, decide_true, Bool.true_and, if_true]
  refine List.ext_getElem (by simp) (fun i h1 h2 => ?_)
  simp only [List.getElem_zipWith]
  have hm := mid_range (hb _ (List.getElem_mem hk))
  by_cases e : k = i
  · subst e
    simp only [List.getElem_set_self]
    rw [hullI_of (lo_ok hb hk) (hi_ok hb hk)]
    refine Prod.ext ?_ ?_ <;> simp <;> omega
  · simp only [List.getElem_set_ne e]
    have h := hb _ (List.getElem_mem h2)
    rw [hullI_of h h]; simp
theorem set_within {v : Int × Int} (hb : BoxOk b) (hk : k < b.length) (hv : bxOk v) (h1 : b[k].1 ≤ v.1) (h2 : v.2 ≤ b[k].2) : withinC (b.set k v) b = true := by
  rw [withinC]
  simp only [Bool.and_eq_true, decide_eq_true_eq, allZ_iff]
  refine ⟨by simp, fun i h h' => ?_⟩
  by_cases e : k = i
  · subst e
    simp [withinI, hv.valid, (hb _ (List.getElem_mem hk)).valid, h1, h2]
  · simp only [List.getElem_set_ne e]
    simp [withinI, (hb _ (List.getElem_mem h')).valid]
theorem hasC_iff (hb : BoxOk b) {c : List Int} : hasC b c = true ↔ b.length = c.length ∧ ∀ (i : Nat) (h : i < b.length) (h' : i < c.length), b[i].1 ≤ c[i] ∧ c[i] ≤ b[i].2 := by
  rw [hasC]
  simp only [Bool.and_eq_true, decide_eq_true_eq, allZ_iff]
  constructor
  · rintro ⟨h1, h2⟩
    exact ⟨h1, fun i h h' => (hasI_iff (hb _ (List.getElem_mem h))).1 (h2 i h h')⟩
  · rintro ⟨h1, h2⟩
    exact ⟨h1, fun i h h' => (hasI_iff (hb _ (List.getElem_mem h))).2 (h2 i h h')⟩
theorem part_ok {x : Int × Int} (h : bxOk x) (m n : Int) : x.1 ≤ (partI x m n).1 ∧ (partI x m n).1 ≤ (partI x m n).2 ∧ (partI x m n).2 ≤ x.2 := by
  unfold bxOk at h
  have r1 := round_range m (k := x.2 - x.1 + 1) (by omega) (by omega)
  have r2 := round_range (n / 2) (k := x.2 - x.1 + 1) (by omega) (by omega)
  unfold partI; simp only
  split <;> simp only <;> omega
theorem mkWithinL_len (l : List Int) : (mkWithinL b l).length = b.length := by simp [mkWithinL]
theorem mkWithin_ok (hb : BoxOk b) (l : List Int) : BoxOk (mkWithinL b l) := by
  intro x hx
  simp only [mkWithinL, List.mem_mapIdx] at hx
  obtain ⟨i, hi, rfl⟩ := hx
  have h := hb b[i] (List.getElem_mem hi)
  have := part_ok h (nx l (mwSt l i) 1073741824) (nx l (nn l (mwSt l i)) 1073741824)
  unfold bxOk at h ⊢; omega
theorem mid_in (hb : BoxOk b) (l : List Int) : hasC b (middleL (mkWithinL b l)) = true := by
  rw [middle_of (mkWithin_ok hb l), hasC_iff hb]
  refine ⟨by simp [mkWithinL], fun i h h' => ?_⟩
  have hx : i < (mkWithinL b l).length := by simpa [mkWithinL] using h
  have hm := mid_range (mkWithin_ok hb l _ (List.getElem_mem hx))
  have hp := part_ok (hb _ (List.getElem_mem h)) (nx l (mwSt l i) 1073741824) (nx l (nn l (mwSt l i)) 1073741824)
  have e : (mkWithinL b l)[i] = partI b[i] (nx l (mwSt l i) 1073741824) (nx l (nn l (mwSt l i)) 1073741824) := by simp [mkWithinL]
  simp only [List.getElem_map]
  rw [e] at hm ⊢
  omega
theorem one_half (hb : BoxOk b) (hk : k < b.length) {c : List Int} (hc : hasC b c = true) : (hasC (b.set k (b[k].1, midI b[k])) c || hasC (b.set k (midI b[k], b[k].2)) c) = true := by
  rw [hasC_iff hb] at hc
  obtain ⟨hl, hc⟩ := hc
  have hkc : k < c.length := by omega
  have hck := hc k hk hkc
  rw [Bool.or_eq_true, hasC_iff (hb.set (lo_ok hb hk)), hasC_iff (hb.set (hi_ok hb hk))]
  rcases Int.le_total c[k] (midI b[k]) with h | h
  · left
    refine ⟨by simp [hl], fun i h1 h2 => ?_⟩
    by_cases e : k = i
    · subst e; simp only [List.getElem_set_self]; exact ⟨hck.1, h⟩
    · simp only [List.getElem_set_ne e]; exact hc i (by simpa using h1) h2
  · right
    refine ⟨by simp [hl], fun i h1 h2 => ?_⟩
    by_cases e : k = i
    · subst e; simp only [List.getElem_set_self]; exact ⟨h, hck.2⟩
    · simp only [List.getElem_set_ne e]; exact hc i (by simpa using h1) h2
end
end Go.Ab
