/- Plain facts: a tree that separates is met by every polyline. -/
import Derived.Test.YtagmnknighofeaaCu16
set_option linter.all false
namespace Go.Ab
open Go.Proofs
theorem mRun_none {t : Tr} {p q : List Int} : ∀ {n : Nat}, mRun t p q n = none → ∀ i, i < n → colT t i = true → entC (boxAt t (i : Int)) p q = none
  | 0, _, i, hi, _ => by omega
  | n + 1, h, i, hi, hc => by
    simp only [mRun, mCell] at h
    split at h
    · split at h
      · rename_i he
        by_cases e : i = n
        · subst e; exact he
        · exact mRun_none h i (by omega) hc
      · split at h
        · cases h
        · split at h <;> cases h
    · rename_i hn
      by_cases e : i = n
      · subst e; exact absurd hc hn
      · exact mRun_none h i (by omega) hc
structure MOk (t : Tr) (p q : List Int) (n : Nat) (g : Fr × Nat) : Prop where
  lt : g.2 < n
  col : colT t g.2 = true
  ent : entC (boxAt t (g.2 : Int)) p q = some g.1
  min : ∀ i, i < n → colT t i = true → ∀ f, entC (boxAt t (i : Int)) p q = some f → ltF f g.1 = false
theorem ltF_irr (f : Fr) : ltF f f = false := by simp [ltF]
theorem ltF_trans {f g h : Fr} (pg : 0 < g.2) (ph : 0 < h.2) (pf : 0 < f.2) (h1 : ltF f g = true) (h2 : ltF h g = false) : ltF h f = false := by
  simp only [ltF, decide_eq_true_eq, decide_eq_false_iff_not, Int.not_lt] at *
  exact fr_trans pf pg ph (Int.le_of_lt h1) h2
theorem mRun_some {t : Tr} {p q : List Int} : ∀ {n : Nat} {g : Fr × Nat}, mRun t p q n = some g → MOk t p q n g
  | 0, g, h => by simp [mRun] at h
  | n + 1, g, h => by
    simp only [mRun, mCell] at h
    split at h
    · rename_i hc
      split at h
      · rename_i he
        have ih := mRun_some h
        refine ⟨by have := ih.lt; omega, ih.col, ih.ent, fun i hi hci f hf => ?_⟩
        by_cases e : i = n
        · subst e; rw [he] at hf; cases hf
        · exact ih.min i (by omega) hci f hf
      · rename_i f0 he
        split at h
        · rename_i hn
          injection h with h; subst h
          refine ⟨by simp, hc, he, fun i hi hci f hf => ?_⟩
          by_cases e : i = n
          · subst e; rw [he] at hf; injection hf with hf; subst hf; exact ltF_irr _
          · rw [mRun_none hn i (by omega) hci] at hf; cases hf
        · rename_i g0 hg
          have ih := mRun_some hg
          have p0 := (entC_some he).1.pos
          have pg := (entC_some ih.ent).1.pos
          split at h
          · rename_i hl
            injection h with h; subst h
            refine ⟨by simp, hc, he, fun i hi hci f hf => ?_⟩
            by_cases e : i = n
            · subst e; rw [he] at hf; injection hf with hf; subst hf; exact ltF_irr _
            · exact ltF_trans pg (entC_some hf).1.pos p0 hl (ih.min i (by omega) hci f hf)
          · rename_i hl
            injection h with h; subst h
            refine ⟨by have := ih.lt; omega, ih.col, ih.ent, fun i hi hci f hf => ?_⟩
            by_cases e : i = n
            · subst e; rw [he] at hf; injection hf with hf; subst hf; simpa using hl
            · exact ih.min i (by omega) hci f hf
    · rename_i hn
      have ih := mRun_some h
      refine ⟨by have := ih.lt; omega, ih.col, ih.ent, fun i hi hci f hf => ?_⟩
      by_cases e : i = n
      · subst e; exact absurd hci hn
      · exact ih.min i (by omega) hci f hf
theorem mFind_none {t : Tr} {line : List (List Int)} : ∀ {k m : Nat}, mFind t line k m = none → ∀ i, m ≤ i → i < m + k → meetM t line i = none
  | 0, m, _, i, h1, h2 => by omega
  | k + 1, m, h, i, h1, h2 => by
    simp only [mFind] at h
    split at h
    · cases h
    · rename_i hn
      by_cases e : i = m
      · subst e; exact hn
      · exact mFind_none h i (by omega) (by omega)
theorem mFind_some {t : Tr} {line : List (List Int)} : ∀ {k m : Nat} {r : Nat × Fr × Nat}, mFind t line k m = some r → m ≤ r.1 ∧ r.1 < m + k ∧ (∃ g, meetM t line r.1 = some g ∧ r.2 = (lowF g.1, g.2)) ∧ ∀ i, m ≤ i → i < r.1 → meetM t line i = none
  | 0, m, r, h => by simp [mFind] at h
  | k + 1, m, r, h => by
    simp only [mFind] at h
    split at h
    · rename_i g hg
      injection h with h; subst h
      exact ⟨Nat.le_refl _, by simp, ⟨g, hg, rfl⟩, fun i h1 h2 => by simp only at h2; omega⟩
    · rename_i hn
      obtain ⟨h1, h2, h3, h4⟩ := mFind_some h
      refine ⟨by omega, by omega, h3, fun i hi hi2 => ?_⟩
      by_cases e : i = m
      · subst e; exact hn
      · exact h4 i (by omega) hi2
/-- No fraction of motion m lies in a Colliding leaf. -/
def clear1 (t : Tr) (p q : List Int) : Prop := ∀ i n d, i < t.cells.length → colT t i = true → Frac n d → ¬ ptP (boxAt t (i : Int)) p q n d
theorem meetM_none {t : Tr} {line : List (List Int)} {m : Nat} (h : meetM t line m = none) : clear1 t (lineAt line m) (lineAt line (m + 1)) :=
  fun i _ _ hi hc hf => entC_none hf (mRun_none h i hi hc)
theorem meetC_none {t : Tr} {line : List (List Int)} (hok : meetOk t line = true) (h : meetC t line = none) {m : Nat} (hm : m + 1 < line.length) : clear1 t (lineAt line m) (lineAt line (m + 1)) := by
  rw [meetC, if_pos hok] at h
  exact meetM_none (mFind_none h m (by omega) (by omega))
/-! fractions in lowest terms -/
theorem lowF_mul {f : Fr} (h : 0 < f.2) : ∃ g, 0 < g ∧ f.1 = g * (lowF f).1 ∧ f.2 = g * (lowF f).2 := by
  refine ⟨gcdZ f.1 f.2, gcdZ_pos h, ?_, ?_⟩
  · simp only [lowF, gcdZ]
    exact (Int.mul_ediv_cancel' (Int.gcd_dvd_left _ _)).symm
  · simp only [lowF, gcdZ]
    exact (Int.mul_ediv_cancel' (Int.gcd_dvd_right _ _)).symm
theorem frac_low {f : Fr} (h : Frac f.1 f.2) : Frac (lowF f).1 (lowF f).2 ∧ (lowF f).2 ≤ f.2 := by
  obtain ⟨g, hg, e1, e2⟩ := lowF_mul h.pos
  have h1 := h.nn; have h2 := h.le; have h3 := h.pos
  rw [e2] at h3
  have hp : 0 < (lowF f).2 := Int.lt_of_mul_lt_mul_left (by rw [Int.mul_zero]; exact h3) (Int.le_of_lt hg)
  have hn : 0 ≤ (lowF f).1 := by
    rw [e1] at h1
    exact Int.nonneg_of_mul_nonneg_right h1 hg
  refine ⟨⟨hn, ?_, hp⟩, ?_⟩
  · rw [e1, e2] at h2
    exact Int.le_of_mul_le_mul_left h2 hg
  · rw [e2]
    have := Int.mul_le_mul_of_nonneg_right (show 1 ≤ g by omega) (Int.le_of_lt hp)
    omega
theorem in_scale {x : Int × Int} {p q n d g : Int} (hg : 0 < g) : inAt x p q (g * n) (g * d) ↔ inAt x p q n d := by
  have e1 : ∀ a : Int, a * (g * d) = g * (a * d) := fun a => by ac_rfl
  have e2 : (q - p) * (g * n) = g * ((q - p) * n) := by ac_rfl
  unfold inAt
  rw [e1, e1, e1, e2, ← Int.mul_add]
  constructor
  · rintro ⟨h1, h2⟩
    exact ⟨Int.le_of_mul_le_mul_left h1 hg, Int.le_of_mul_le_mul_left h2 hg⟩
  · rintro ⟨h1, h2⟩
    exact ⟨Int.mul_le_mul_of_nonneg_left h1 (Int.le_of_lt hg), Int.mul_le_mul_of_nonneg_left h2 (Int.le_of_lt hg)⟩
theorem pt_low {b : Bx} {p q : List Int} {f : Fr} (h : 0 < f.2) : ptP b p q f.1 f.2 ↔ ptP b p q (lowF f).1 (lowF f).2 := by
  obtain ⟨g, hg, e1, e2⟩ := lowF_mul h
  rw [ptP_iff, ptP_iff, e1, e2]
  constructor
  · exact fun h i x u v hx hu hv => (in_scale hg).1 (h i x u v hx hu hv)
  · exact fun h i x u v hx hu hv => (in_scale hg).2 (h i x u v hx hu hv)
theorem le_low {f : Fr} {n d : Int} (h : 0 < f.2) (hh : f.1 * d ≤ n * f.2) : (lowF f).1 * d ≤ n * (lowF f).2 := by
  obtain ⟨g, hg, e1, e2⟩ := lowF_mul h
  rw [e1, e2] at hh
  have k1 : g * (lowF f).1 * d = g * ((lowF f).1 * d) := by ac_rfl
  have k2 : n * (g * (lowF f).2) = g * (n * (lowF f).2) := by ac_rfl
  rw [k1, k2] at hh
  exact Int.le_of_mul_le_mul_left hh hg
/-- What a meeting is. -/
structure MeetS (t : Tr) (line : List (List Int)) (r : Nat × Fr × Nat) : Prop where
  mot : r.1 + 1 < line.length
  leaf : r.2.2 < t.cells.length
  col : colT t r.2.2 = true
  fr : Frac r.2.1.1 r.2.1.2
  small : r.2.1.2 ≤ 4294967296
  at_ : ptP (boxAt t (r.2.2 : Int)) (lineAt line r.1) (lineAt line (r.1 + 1)) r.2.1.1 r.2.1.2
  first : ∀ i n d, i < t.cells.length → colT t i = true → Frac n d → ptP (boxAt t (i : Int)) (lineAt line r.1) (lineAt line (r.1 + 1)) n d → r.2.1.1 * d ≤ n * r.2.1.2
  before : ∀ m, m < r.1 → clear1 t (lineAt line m) (lineAt line (m + 1))
theorem meetC_some {t : Tr} {line : List (List Int)} {r : Nat × Fr × Nat} (h : meetC t line = some r) : MeetS t line r := by
  unfold meetC at h
  split at h
  · rename_i hok
    obtain ⟨h1, h2, ⟨g, hg, e⟩, h4⟩ := mFind_some h
    have hM := mRun_some hg
    obtain ⟨f1, f2, f3⟩ := entC_some hM.ent
    have hv : validT t = true := by simp only [meetOk, Bool.and_eq_true] at hok; exact hok.1.1.1
    have hS := fun i hi => sm_of hv (meet_sm hok (show r.1 < line.length by omega)) (meet_sm hok (show r.1 + 1 < line.length by omega)) (i := i) hi
    have ho := (mRun_ok hS (Nat.le_refl _) hg).1
    have hlw := frac_low f1
    obtain ⟨m, f, k⟩ := r
    simp only [Prod.mk.injEq] at e
    obtain ⟨rfl, rfl⟩ := e
    refine ⟨by simp only at h2 ⊢; omega, hM.lt, hM.col, hlw.1, by have := ho.2.2.2; have := hlw.2; simp only; omega, (pt_low f1.pos).1 f2, fun i n d hi hc hf ha => ?_, fun m' hm' => meetM_none (h4 m' (by omega) hm')⟩
    have hne : entC (boxAt t (i : Int)) (lineAt line m) (lineAt line (m + 1)) ≠ none := fun hn => entC_none hf hn ha
    obtain ⟨f', hf'⟩ := Option.ne_none_iff_exists'.1 hne
    have hmin := hM.min i hi hc f' hf'
    simp only [ltF, decide_eq_false_iff_not, Int.not_lt] at hmin
    have he := entC_some hf'
    exact le_low f1.pos (fr_trans f1.pos he.1.pos hf.pos hmin (he.2.2 n d hf ha))
  · cases h
/-! the topology -/
theorem root_pt {t : Tr} (hv : validT t = true) {p q : List Int} (hp : hasC t.root p = true) (hq : hasC t.root q = true) {n d : Int} (hf : Frac n d) : ptP t.root p q n d := by
  have vr := (sizeOk_iff.1 (valid_size hv)).2.2.2.2
  obtain ⟨_, m1⟩ := (hasC_vi vr).1 hp
  obtain ⟨_, m2⟩ := (hasC_vi vr).1 hq
  rw [ptP_iff]
  intro i x u v hx hu hv'
  have a := m1 i x u hx hu
  have b := m2 i x v hx hv'
  have k1 := Int.mul_le_mul_of_nonneg_right a.1 (Int.le_of_lt hf.pos)
  have k2 := Int.mul_le_mul_of_nonneg_right a.2 (Int.le_of_lt hf.pos)
  have k3 := Int.mul_le_mul_of_nonneg_right b.1 (Int.le_of_lt hf.pos)
  have k4 := Int.mul_le_mul_of_nonneg_right b.2 (Int.le_of_lt hf.pos)
  have e : (v - u) * d = v * d - u * d := Int.sub_mul _ _ _
  unfold inAt
  by_cases h : u ≤ v
  · have m1 : 0 ≤ (v - u) * n := Int.mul_nonneg (by omega) hf.nn
    have m2 : (v - u) * n ≤ (v - u) * d := Int.mul_le_mul_of_nonneg_left hf.le (by omega)
    omega
  · have m1 : 0 ≤ (u - v) * n := Int.mul_nonneg (by omega) hf.nn
    have m2 : (u - v) * n ≤ (u - v) * d := Int.mul_le_mul_of_nonneg_left hf.le (by omega)
    have e2 : (u - v) * n = -((v - u) * n) := by rw [← Int.neg_mul]; congr 1; omega
    have e3 : (u - v) * d = u * d - v * d := Int.sub_mul _ _ _
    omega
theorem half_pt {b : Bx} {j : Int} (h : halveOk b j = true) {p q : List Int} {n d : Int} (hp : ptP b p q n d) : ptP (halveA b j) p q n d ∨ ptP (halveZ b j) p q n d := by
  obtain ⟨x, hx, hv, h3, ea, ez⟩ := halve_eq h
  have hlt := (List.getElem?_eq_some_iff.1 hx).1
  rw [ptP_iff] at hp
  have key : ∀ (y : Int × Int), (∀ u v, p[j.toNat]? = some u → q[j.toNat]? = some v → inAt y u v n d) → ptP (b.set j.toNat y) p q n d := by
    intro y hy
    rw [ptP_iff]
    intro i z u v hz hu hv'
    rw [List.getElem?_set] at hz
    split at hz
    · rename_i e; subst e
      simp [hlt] at hz; subst hz
      exact hy u v hu hv'
    · exact hp i z u v hz hu hv'
  rw [ea, ez]
  cases hu : p[j.toNat]? with
  | none => exact .inl (key _ (fun u v h1 => by rw [hu] at h1; cases h1))
  | some u =>
    cases hw : q[j.toNat]? with
    | none => exact .inl (key _ (fun u' v _ h2 => by rw [hw] at h2; cases h2))
    | some v =>
      have hin := hp j.toNat x u v hx hu hw
      unfold inAt at hin
      by_cases hc : u * d + (v - u) * n ≤ (x.1 + x.2) / 2 * d
      · exact .inl (key _ (fun u' v' h1 h2 => by
          rw [hu] at h1; rw [hw] at h2; injection h1 with h1; injection h2 with h2; subst h1; subst h2
          exact ⟨hin.1, hc⟩))
      · exact .inr (key _ (fun u' v' h1 h2 => by
          rw [hu] at h1; rw [hw] at h2; injection h1 with h1; injection h2 with h2; subst h1; subst h2
          exact ⟨by simp only; omega, hin.2⟩))
theorem leaf_pt {t : Tr} (hv : validT t = true) {p q : List Int} {n d : Int} : ∀ (k i : Nat), t.cells.length - i = k → i < t.cells.length → ptP (boxAt t (i : Int)) p q n d → ∃ (j : Nat) (c : Cel), t.cells[j]? = some c ∧ leafB c = true ∧ ptP (boxAt t (j : Int)) p q n d := by
  intro k
  induction k using Nat.strongRecOn with
  | ind k ih =>
    intro i hk hi hp
    have hc : t.cells[i]? = some t.cells[i] := List.getElem?_eq_getElem hi
    cases hl : leafB t.cells[i] with
    | true => exact ⟨i, _, hc, hl, hp⟩
    | false =>
      obtain ⟨h1, h2, h3, h4⟩ := inner_facts hv hc hl
      obtain ⟨i1, i2, i3, i4, _⟩ := innerB_iff.1 h1
      rcases half_pt h2 hp with h | h
      · rw [← h3, ← Int.toNat_of_nonneg (show 0 ≤ t.cells[i].low by omega)] at h
        exact ih _ (by omega) _ rfl (by omega) h
      · rw [← h4, ← Int.toNat_of_nonneg (show 0 ≤ t.cells[i].high by omega)] at h
        exact ih _ (by omega) _ rfl (by omega) h
theorem cover {t : Tr} (hv : validT t = true) {p q : List Int} (hp : hasC t.root p = true) (hq : hasC t.root q = true) {n d : Int} (hf : Frac n d) : ∃ (j : Nat) (c : Cel), t.cells[j]? = some c ∧ leafB c = true ∧ ptP (boxAt t (j : Int)) p q n d := by
  have hz := sizeOk_iff.1 (valid_size hv)
  refine leaf_pt hv _ 0 rfl (by omega) ?_
  rw [show ((0 : Nat) : Int) = 0 from rfl, root_box hv]
  exact root_pt hv hp hq hf
theorem pt_touch {a b : Bx} (va : allB vI a = true) (vb : allB vI b = true) {p q : List Int} (la : a.length = p.length) (lb : b.length = p.length) (lq : q.length = p.length) {n d : Int} (hd : 0 < d) (ha : ptP a p q n d) (hb : ptP b p q n d) : touchC a b = true := by
  rw [touchC_vi va vb]
  rw [ptP_iff] at ha hb
  refine ⟨by omega, fun i x y hx hy => ?_⟩
  have hi := (List.getElem?_eq_some_iff.1 hx).1
  have hu : p[i]? = some (p[i]'(by omega)) := List.getElem?_eq_getElem _
  have hv : q[i]? = some (q[i]'(by omega)) := List.getElem?_eq_getElem _
  obtain ⟨a1, a2⟩ := ha i x _ _ hx hu hv
  obtain ⟨b1, b2⟩ := hb i y _ _ hy hu hv
  exact ⟨Int.le_of_mul_le_mul_right (by omega) hd, Int.le_of_mul_le_mul_right (by omega) hd⟩
/-- A common multiple of all that the motion moves. -/
theorem common_den : ∀ (p q : List Int), ∃ D : Int, 0 < D ∧ ∀ (i : Nat) u v, p[i]? = some u → q[i]? = some v → u = v ∨ ∃ M, D = (v - u) * M
  | [], _ => ⟨1, by decide, fun i u v h => by simp at h⟩
  | _ :: _, [] => ⟨1, by decide, fun i u v _ h => by simp at h⟩
  | a :: p, b :: q => by
    obtain ⟨D, hD, hh⟩ := common_den p q
    by_cases e : a = b
    · refine ⟨D, hD, fun i u v hu hv => ?_⟩
      cases i with
      | zero => simp at hu hv; subst hu; subst hv; exact .inl e
      | succ i => exact hh i u v (by simpa using hu) (by simpa using hv)
    · by_cases hl : a < b
      · refine ⟨(b - a) * D, Int.mul_pos (by omega) hD, fun i u v hu hv => ?_⟩
        cases i with
        | zero => simp at hu hv; subst hu; subst hv; exact .inr ⟨D, rfl⟩
        | succ i =>
          rcases hh i u v (by simpa using hu) (by simpa using hv) with h | ⟨M, h⟩
          · exact .inl h
          · exact .inr ⟨(b - a) * M, by rw [h]; ac_rfl⟩
      · refine ⟨(a - b) * D, Int.mul_pos (by omega) hD, fun i u v hu hv => ?_⟩
        cases i with
        | zero => simp at hu hv; subst hu; subst hv; exact .inr ⟨-D, by rw [Int.mul_neg, ← Int.neg_mul]; congr 1; omega⟩
        | succ i =>
          rcases hh i u v (by simpa using hu) (by simpa using hv) with h | ⟨M, h⟩
          · exact .inl h
          · exact .inr ⟨(a - b) * M, by rw [h]; ac_rfl⟩
theorem mid_step {e W k : Int} (he : e ≠ 0) (h : e * (2 * W) ≤ e * (2 * k + 1)) : e * W ≤ e * k ∧ e * W ≤ e * (k + 1) := by
  rcases Int.lt_or_gt_of_ne he with hn | hp
  · have h1 : (-e) * (2 * k + 1) ≤ (-e) * (2 * W) := by rw [Int.neg_mul, Int.neg_mul]; omega
    have h2 := Int.le_of_mul_le_mul_left h1 (show 0 < -e by omega)
    have h3 := Int.mul_le_mul_of_nonneg_left (show k + 1 ≤ W by omega) (show 0 ≤ -e by omega)
    have h4 := Int.mul_le_mul_of_nonneg_left (show k ≤ W by omega) (show 0 ≤ -e by omega)
    rw [Int.neg_mul, Int.neg_mul] at h3 h4
    omega
  · have h2 := Int.le_of_mul_le_mul_left h hp
    have h3 := Int.mul_le_mul_of_nonneg_left (show W ≤ k by omega) (Int.le_of_lt hp)
    have h4 := Int.mul_le_mul_of_nonneg_left (show W ≤ k + 1 by omega) (Int.le_of_lt hp)
    exact ⟨h3, h4⟩
theorem mid_in {x : Int × Int} {u v D k : Int} (hD : 0 < D) (hd : u = v ∨ ∃ M, D = (v - u) * M) (h : inAt x u v (2 * k + 1) (2 * D)) : inAt x u v k D ∧ inAt x u v (k + 1) D := by
  unfold inAt at h ⊢
  rcases hd with rfl | ⟨M, hM⟩
  · have e : u - u = 0 := by omega
    rw [e] at h ⊢
    rw [Int.zero_mul] at *
    have e1 : ∀ a : Int, a * (2 * D) = 2 * (a * D) := fun a => by ac_rfl
    rw [e1, e1, e1] at h
    omega
  · have he : v - u ≠ 0 := by intro h0; rw [h0, Int.zero_mul] at hM; omega
    have key : ∀ a : Int, a * D - u * D = (v - u) * ((a - u) * M) := fun a => by rw [← Int.sub_mul, hM]; ac_rfl
    have e1 : ∀ a : Int, a * (2 * D) = 2 * (a * D) := fun a => by ac_rfl
    have e2 : ∀ W : Int, (v - u) * (2 * W) = 2 * ((v - u) * W) := fun W => by ac_rfl
    rw [e1, e1, e1] at h
    have a1 := mid_step (k := k) (W := (x.1 - u) * M) he (by rw [e2, ← key]; omega)
    have a2 := mid_step (e := -(v - u)) (k := k) (W := (x.2 - u) * M) (by omega) (by rw [Int.neg_mul, Int.neg_mul, e2, ← key]; omega)
    rw [Int.neg_mul, Int.neg_mul, Int.neg_mul] at a2
    have k1 := key x.1
    have k2 := key x.2
    omega
theorem motion_reach {t : Tr} (hv : validT t = true) {p0 : List Int} {U : List Bool} (hF : IsF t p0 U) {p q : List Int} (hp : hasC t.root p = true) (hq : hasC t.root q = true) (hno : clear1 t p q) (h0 : ∃ i, mk1 U i ∧ hasT t p i = true) : ∃ i, mk1 U i ∧ hasT t q i = true := by
  obtain ⟨D, hD, hdv⟩ := common_den p q
  have lp := has_len hp
  have lq := has_len hq
  have hbx : ∀ {i : Nat}, i < t.cells.length → (boxAt t (i : Int)).length = t.root.length ∧ allB vI (boxAt t (i : Int)) = true := fun {i} hi => (boxAt_ok hv (c := (i : Int)) (by simpa using hi)).2
  have main : ∀ k : Nat, (k : Int) ≤ D → ∃ i, mk1 U i ∧ ptP (boxAt t (i : Int)) p q k D := by
    intro k
    induction k with
    | zero =>
      intro _
      obtain ⟨i, hm, hh⟩ := h0
      have hi := mk1_lt hF.len hm
      refine ⟨i, hm, ?_⟩
      obtain ⟨_, m1⟩ := (hasC_vi (hbx hi).2).1 hh
      rw [ptP_iff]
      intro j x u v hx hu _
      have := m1 j x u hx hu
      have k1 := Int.mul_le_mul_of_nonneg_right this.1 (Int.le_of_lt hD)
      have k2 := Int.mul_le_mul_of_nonneg_right this.2 (Int.le_of_lt hD)
      unfold inAt
      rw [show ((0 : Nat) : Int) = 0 from rfl, Int.mul_zero]
      omega
    | succ k ih =>
      intro hk
      obtain ⟨i, hm, hi⟩ := ih (by omega)
      have hf : Frac (2 * (k : Int) + 1) (2 * D) := ⟨by omega, by omega, by omega⟩
      obtain ⟨j, c, hc, hl, hj⟩ := cover hv hp hq hf
      have hjl := (List.getElem?_eq_some_iff.1 hc).1
      have hin := mk1_lt hF.len hm
      have hopn : opnT t j = true := by
        have hnc : colB c = false := by
          cases hcb : colB c with
          | false => rfl
          | true => exact absurd hj (hno j _ _ hjl (by simp [colT, hc, hcb]) hf)
        simp [opnT, hc, opnB, hl, hnc]
      rw [ptP_iff] at hj
      have h1 : ptP (boxAt t (j : Int)) p q k D := ptP_iff.2 fun m x u v hx hu hv' => (mid_in hD (hdv m u v hu hv') (hj m x u v hx hu hv')).1
      have h2 : ptP (boxAt t (j : Int)) p q ((k : Int) + 1) D := ptP_iff.2 fun m x u v hx hu hv' => (mid_in hD (hdv m u v hu hv') (hj m x u v hx hu hv')).2
      have ht : tchT t i j = true := pt_touch (hbx hin).2 (hbx hjl).2 (by rw [(hbx hin).1]; exact lp) (by rw [(hbx hjl).1]; exact lp) (by omega) hD hi h1
      have hmj : mk1 U j := (hF.iff j hjl).2 (.step ((hF.iff i hin).1 hm) hjl hopn ht)
      exact ⟨j, hmj, by rw [show ((k + 1 : Nat) : Int) = (k : Int) + 1 by omega]; exact h2⟩
  obtain ⟨i, hm, hi⟩ := main D.toNat (by omega)
  have hin := mk1_lt hF.len hm
  refine ⟨i, hm, (hasC_vi (hbx hin).2).2 ⟨by rw [(hbx hin).1]; exact lq, fun j x v hx hv' => ?_⟩⟩
  rw [ptP_iff] at hi
  have hjl := (List.getElem?_eq_some_iff.1 hv').1
  have hu : p[j]? = some (p[j]'(by omega)) := List.getElem?_eq_getElem _
  obtain ⟨a1, a2⟩ := hi j x _ v hx hu hv'
  rw [Int.toNat_of_nonneg (by omega), Int.sub_mul] at a1 a2
  exact ⟨Int.le_of_mul_le_mul_right (by omega) hD, Int.le_of_mul_le_mul_right (by omega) hD⟩
theorem sep_meets {t : Tr} {p q : List Int} {U : List Bool} {line : List (List Int)} (hF : IsF t p U) (hs : sepOk t p q U = true) (hok : meetOk t line = true) (h0 : lineAt line 0 = p) (h1 : lineAt line (line.length - 1) = q) : ∃ r, meetC t line = some r := by
  cases hm : meetC t line with
  | some r => exact ⟨r, rfl⟩
  | none =>
    exfalso
    have hcl := fun {m : Nat} (h : m + 1 < line.length) => meetC_none hok hm h
    have hroot := fun {m : Nat} (h : m < line.length) => meet_sm hok h
    have hlen : 2 ≤ line.length := by simp only [meetOk, Bool.and_eq_true, decide_eq_true_eq] at hok; exact hok.1.1.2
    have hv : validT t = true := by simp only [meetOk, Bool.and_eq_true] at hok; exact hok.1.1.1
    have main : ∀ m, m < line.length → ∃ i, mk1 U i ∧ hasT t (lineAt line m) i = true := by
      intro m
      induction m with
      | zero =>
        intro _
        have hp := hroot (show 0 < line.length by omega)
        have hf : Frac 0 1 := ⟨by decide, by decide, by decide⟩
        obtain ⟨j, c, hc, hl, hj⟩ := cover hv hp (hroot (show 1 < line.length by omega)) hf
        have hjl := (List.getElem?_eq_some_iff.1 hc).1
        have hnc : colB c = false := by
          cases hcb : colB c with
          | false => rfl
          | true => exact absurd hj (hcl (m := 0) (by omega) j _ _ hjl (by simp [colT, hc, hcb]) hf)
        have hopn : opnT t j = true := by simp [opnT, hc, opnB, hl, hnc]
        obtain ⟨_, b2, b3⟩ := boxAt_ok hv (c := (j : Int)) (by simpa using hjl)
        have lp := has_len hp
        have lq := has_len (hroot (show 1 < line.length by omega))
        have hh : hasT t (lineAt line 0) j = true := by
          refine (hasC_vi b3).2 ⟨by omega, fun k x u hx hu => ?_⟩
          rw [ptP_iff] at hj
          have hkl := (List.getElem?_eq_some_iff.1 hu).1
          have hw : (lineAt line 1)[k]? = some ((lineAt line 1)[k]'(by omega)) := List.getElem?_eq_getElem _
          have := hj k x u _ hx hu hw
          unfold inAt at this
          omega
        rw [h0] at hh ⊢
        exact ⟨j, (hF.iff j hjl).2 (.base ⟨hjl, by rw [hopn, hh]; rfl⟩), hh⟩
      | succ m ih =>
        intro hm'
        exact motion_reach hv hF (hroot (by omega)) (hroot hm') (hcl hm') (ih (by omega))
    obtain ⟨i, hmi, hh⟩ := main (line.length - 1) (by omega)
    rw [h1] at hh
    have hin := mk1_lt hF.len hmi
    have hsb : sepB t U q = true := by simp only [sepOk, Bool.and_eq_true] at hs; exact hs.2
    have := List.all_eq_true.1 hsb i (List.mem_range.2 hin)
    unfold mk1 at hmi
    simp [hmi, hh] at this
end Go.Ab
