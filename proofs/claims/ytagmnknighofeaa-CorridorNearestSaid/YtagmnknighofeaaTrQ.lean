/- Plain facts: portals. -/
import Derived.Test.YtagmnknighofeaaTrM
set_option linter.all false
namespace Go.Ab
open Go.Proofs
theorem allZ_get {α β : Type} {f : α → β → Bool} {xs : List α} {ys : List β} : allZ f xs ys = true ↔ ∀ (i : Nat) x y, xs[i]? = some x → ys[i]? = some y → f x y = true := by
  unfold allZ
  rw [List.all_eq_true]
  constructor
  · intro h i x y hx hy
    have : (List.zipWith f xs ys)[i]? = some (f x y) := by simp [List.getElem?_zipWith, hx, hy]
    exact h _ (List.mem_of_getElem? this)
  · intro h z hz
    obtain ⟨i, hi⟩ := List.getElem?_of_mem hz
    rw [List.getElem?_zipWith] at hi
    cases hx : xs[i]? with
    | none => simp [hx] at hi
    | some x =>
      cases hy : ys[i]? with
      | none => simp [hx, hy] at hi
      | some y =>
        simp [hx, hy] at hi
        rw [← hi]; exact h i x y hx hy
theorem hasC_vi {b : Bx} {c : List Int} (hv : allB vI b = true) : hasC b c = true ↔ b.length = c.length ∧ ∀ (i : Nat) x y, b[i]? = some x → c[i]? = some y → x.1 ≤ y ∧ y ≤ x.2 := by
  simp only [hasC, Bool.and_eq_true, decide_eq_true_eq, allZ_get]
  constructor
  · rintro ⟨h1, h2⟩
    refine ⟨h1, fun i x y hx hy => ?_⟩
    have := h2 i x y hx hy
    simp only [hasI, Bool.and_eq_true, decide_eq_true_eq] at this
    exact ⟨this.1.2, this.2⟩
  · rintro ⟨h1, h2⟩
    refine ⟨h1, fun i x y hx hy => ?_⟩
    simp only [hasI, Bool.and_eq_true, decide_eq_true_eq]
    exact ⟨⟨allV_iff.1 hv _ (List.mem_of_getElem? hx), (h2 i x y hx hy).1⟩, (h2 i x y hx hy).2⟩
theorem touchC_vi {a b : Bx} (ha : allB vI a = true) (hb : allB vI b = true) : touchC a b = true ↔ a.length = b.length ∧ ∀ (i : Nat) x y, a[i]? = some x → b[i]? = some y → x.1 ≤ y.2 ∧ y.1 ≤ x.2 := by
  simp only [touchC, Bool.and_eq_true, decide_eq_true_eq, allZ_get]
  constructor
  · rintro ⟨h1, h2⟩
    refine ⟨h1, fun i x y hx hy => ?_⟩
    have := h2 i x y hx hy
    simp only [touchI, Bool.and_eq_true, decide_eq_true_eq] at this
    omega
  · rintro ⟨h1, h2⟩
    refine ⟨h1, fun i x y hx hy => ?_⟩
    have vx : validB x.1 x.2 = true := allV_iff.1 ha _ (List.mem_of_getElem? hx)
    have vy : validB y.1 y.2 = true := allV_iff.1 hb _ (List.mem_of_getElem? hy)
    simp only [touchI, vx, vy, Bool.and_eq_true, decide_eq_true_eq, true_and]
    have := h2 i x y hx hy
    have := validB_iff.1 vx
    have := validB_iff.1 vy
    omega
theorem touchC_valid {a b : Bx} (h : touchC a b = true) : a.length = b.length ∧ allB vI a = true ∧ allB vI b = true := by
  simp only [touchC, Bool.and_eq_true, decide_eq_true_eq, allZ_get] at h
  obtain ⟨h1, h2⟩ := h
  refine ⟨h1, allV_iff.2 fun x hx => ?_, allV_iff.2 fun y hy => ?_⟩
  · obtain ⟨i, hi⟩ := List.getElem?_of_mem hx
    have hlt := (List.getElem?_eq_some_iff.1 hi).1
    have := h2 i x (b[i]'(by omega)) hi (List.getElem?_eq_getElem _)
    simp only [touchI, Bool.and_eq_true] at this
    exact this.1.1
  · obtain ⟨i, hi⟩ := List.getElem?_of_mem hy
    have hlt := (List.getElem?_eq_some_iff.1 hi).1
    have := h2 i (a[i]'(by omega)) y (List.getElem?_eq_getElem _) hi
    simp only [touchI, Bool.and_eq_true] at this
    exact this.1.2
def comI (x y : Int × Int) : Int × Int := (max x.1 y.1, min x.2 y.2)
def commonL (a b : Bx) : Bx := List.zipWith comI a b
def portalOk (a b : Bx) (q : List Int) : Bool := touchC a b && decide (q.length = a.length)
def portalL (a b : Bx) (q : List Int) : List Int := if portalOk a b q then clampL (commonL a b) q else []
theorem common_len {a b : Bx} (h : a.length = b.length) : (commonL a b).length = a.length := by simp [commonL]; omega
theorem common_get {a b : Bx} {i : Nat} {z : Int × Int} (h : (commonL a b)[i]? = some z) : ∃ x y, a[i]? = some x ∧ b[i]? = some y ∧ z = comI x y := by
  rw [commonL, List.getElem?_zipWith] at h
  cases hx : a[i]? with
  | none => simp [hx] at h
  | some x =>
    cases hy : b[i]? with
    | none => simp [hx, hy] at h
    | some y => simp [hx, hy] at h; exact ⟨x, y, rfl, rfl, h.symm⟩
theorem common_valid {a b : Bx} (h : touchC a b = true) : allB vI (commonL a b) = true := by
  obtain ⟨h1, ha, hb⟩ := touchC_valid h
  have ht := (touchC_vi ha hb).1 h
  refine allV_iff.2 fun z hz => ?_
  obtain ⟨i, hi⟩ := List.getElem?_of_mem hz
  obtain ⟨x, y, hx, hy, rfl⟩ := common_get hi
  have vx := validB_iff.1 (allV_iff.1 ha _ (List.mem_of_getElem? hx))
  have vy := validB_iff.1 (allV_iff.1 hb _ (List.mem_of_getElem? hy))
  have := ht.2 i x y hx hy
  exact validB_iff.2 ⟨by simp only [comI]; omega, by simp only [comI]; omega, by simp only [comI]; omega⟩
theorem portal_eq {a b : Bx} {q : List Int} (h : touchC a b = true) (hq : q.length = a.length) : portalL a b q = List.zipWith clampI (commonL a b) q := by
  obtain ⟨h1, ha, hb⟩ := touchC_valid h
  simp [portalL, portalOk, h, hq, clampL, common_valid h, common_len h1]
theorem portal_len {a b : Bx} {q : List Int} (h : touchC a b = true) (hq : q.length = a.length) : (portalL a b q).length = a.length := by
  rw [portal_eq h hq]; simp [common_len (touchC_valid h).1, hq]
theorem portal_get {a b : Bx} {q : List Int} (h : touchC a b = true) (hq : q.length = a.length) {i : Nat} {p : Int} (hp : (portalL a b q)[i]? = some p) : ∃ x y c, a[i]? = some x ∧ b[i]? = some y ∧ q[i]? = some c ∧ p = clampI (comI x y) c ∧ x.1 ≤ y.2 ∧ y.1 ≤ x.2 ∧ x.1 ≤ x.2 ∧ y.1 ≤ y.2 := by
  obtain ⟨h1, ha, hb⟩ := touchC_valid h
  have ht := (touchC_vi ha hb).1 h
  rw [portal_eq h hq, List.getElem?_zipWith] at hp
  cases hz : (commonL a b)[i]? with
  | none => simp [hz] at hp
  | some z =>
    cases hc : q[i]? with
    | none => simp [hz, hc] at hp
    | some c =>
      simp [hz, hc] at hp
      obtain ⟨x, y, hx, hy, rfl⟩ := common_get hz
      have vx := validB_iff.1 (allV_iff.1 ha _ (List.mem_of_getElem? hx))
      have vy := validB_iff.1 (allV_iff.1 hb _ (List.mem_of_getElem? hy))
      have := ht.2 i x y hx hy
      exact ⟨x, y, c, hx, hy, rfl, hp.symm, this.1, this.2, vx.2.1, vy.2.1⟩
theorem portal_in {a b : Bx} {q : List Int} (h : touchC a b = true) (hq : q.length = a.length) : hasC a (portalL a b q) = true ∧ hasC b (portalL a b q) = true := by
  obtain ⟨h1, ha, hb⟩ := touchC_valid h
  have hl := portal_len h hq
  constructor
  · refine (hasC_vi ha).2 ⟨hl.symm, fun i x p hx hp => ?_⟩
    obtain ⟨x', y, c, hx', hy, hc, rfl, e1, e2, e3, e4⟩ := portal_get h hq hp
    rw [hx] at hx'; injection hx' with hx'; subst hx'
    simp only [clampI, comI]; omega
  · refine (hasC_vi hb).2 ⟨by omega, fun i y p hy hp => ?_⟩
    obtain ⟨x, y', c, hx, hy', hc, rfl, e1, e2, e3, e4⟩ := portal_get h hq hp
    rw [hy] at hy'; injection hy' with hy'; subst hy'
    simp only [clampI, comI]; omega
theorem portal_near {a b : Bx} {q x : List Int} (h : touchC a b = true) (hq : q.length = a.length) (hx : hasC a x = true) (hx' : hasC b x = true) {i : Nat} {p c y : Int} (e1 : (portalL a b q)[i]? = some p) (e2 : q[i]? = some c) (e3 : x[i]? = some y) : max (p - c) (c - p) ≤ max (y - c) (c - y) := by
  obtain ⟨h1, ha, hb⟩ := touchC_valid h
  obtain ⟨u, v, c', hu, hv, hc, rfl, f1, f2, f3, f4⟩ := portal_get h hq e1
  rw [e2] at hc; injection hc with hc; subst hc
  have g1 := ((hasC_vi ha).1 hx).2 i u y hu e3
  have g2 := ((hasC_vi hb).1 hx').2 i v y hv e3
  simp only [clampI, comI]; omega
theorem has_rng {b : Bx} {c : List Int} (h : hasC b c = true) {i : Nat} {y : Int} (hy : c[i]? = some y) : -2147483648 ≤ y ∧ y ≤ 2147483648 := by
  simp only [hasC, Bool.and_eq_true, decide_eq_true_eq, allZ_get] at h
  obtain ⟨h1, h2⟩ := h
  have hlt := (List.getElem?_eq_some_iff.1 hy).1
  have := h2 i (b[i]'(by omega)) y (List.getElem?_eq_getElem _) hy
  simp only [hasI, Bool.and_eq_true, decide_eq_true_eq] at this
  have := validB_iff.1 this.1.1
  omega
theorem clamp_has {b : Bx} {c : List Int} (hv : allB vI b = true) (hl : b.length = c.length) : hasC b (clampL b c) = true := by
  rw [clampL, hv]
  simp only [hl, decide_true, Bool.and_self, if_true]
  refine (hasC_vi hv).2 ⟨by simp [hl], fun i x y hx hy => ?_⟩
  rw [List.getElem?_zipWith, hx] at hy
  cases hc : c[i]? with
  | none => simp [hc] at hy
  | some d =>
    simp [hc] at hy
    have := validB_iff.1 (allV_iff.1 hv _ (List.mem_of_getElem? hx))
    subst hy
    simp only [clampI]; omega
theorem clamp_length {b : Bx} {c : List Int} (hv : allB vI b = true) (hl : b.length = c.length) : (clampL b c).length = b.length := by
  simp [clampL, hv, hl]
theorem in_has {b : Bx} {l : List Int} (hv : allB vI b = true) : hasC b (inL b l) = true := by
  refine (hasC_vi hv).2 ⟨(inL_len b l).symm, fun i x y hx hy => ?_⟩
  obtain ⟨hi, rfl⟩ := List.getElem?_eq_some_iff.1 hx
  obtain ⟨hi', rfl⟩ := List.getElem?_eq_some_iff.1 hy
  exact inL_rng hv hi
end Go.Ab
