/- Plain facts: where a motion is in a box. -/
import Derived.Test.YtagmnknighofeaaCu11
import Derived.Test.YtagmnknighofeaaTrN
set_option linter.all false
namespace Go.Ab
open Go.Proofs
theorem fr_trans {a b c d e f : Int} (hb : 0 < b) (hd : 0 < d) (hf : 0 < f) (h1 : a * d ≤ c * b) (h2 : c * f ≤ e * d) : a * f ≤ e * b := by
  have k1 := Int.mul_le_mul_of_nonneg_right h1 (Int.le_of_lt hf)
  have k2 := Int.mul_le_mul_of_nonneg_right h2 (Int.le_of_lt hb)
  have e1 : a * f * d = a * d * f := by ac_rfl
  have e2 : c * b * f = c * f * b := by ac_rfl
  have e3 : e * b * d = e * d * b := by ac_rfl
  exact Int.le_of_mul_le_mul_right (by rw [e1, e3]; omega) hd
def leF (f : Fr) (n d : Int) : Prop := f.1 * d ≤ n * f.2
def geF (f : Fr) (n d : Int) : Prop := n * f.2 ≤ f.1 * d
def inAt (x : Int × Int) (p q n d : Int) : Prop := x.1 * d ≤ p * d + (q - p) * n ∧ p * d + (q - p) * n ≤ x.2 * d
structure Frac (n d : Int) : Prop where
  nn : 0 ≤ n
  le : n ≤ d
  pos : 0 < d
structure EnS (s : Fr × Fr) : Prop where
  nn : 0 ≤ s.1.1
  le : s.1.1 ≤ s.1.2
  pos : 0 < s.1.2
  pos2 : 0 < s.2.2
theorem entStep_none {s : Fr × Fr} {a b lo hi n d : Int} (hab : a ≤ b) (hf : Frac n d) (h : entStep s a b lo hi = none) : ¬ (lo * d ≤ a * d + (b - a) * n ∧ a * d + (b - a) * n ≤ hi * d) := by
  have m1 : 0 ≤ (b - a) * n := Int.mul_nonneg (by omega) hf.nn
  have m2 : (b - a) * n ≤ (b - a) * d := Int.mul_le_mul_of_nonneg_left hf.le (by omega)
  rw [Int.sub_mul b a d] at m2
  unfold entStep at h
  split at h
  · rename_i hr
    rcases hr with hr | hr
    · have := Int.mul_lt_mul_of_pos_right hr hf.pos
      omega
    · have := Int.mul_lt_mul_of_pos_right hr hf.pos
      omega
  · cases h
theorem entStep_iff {s s' : Fr × Fr} {a b lo hi n d : Int} (hab : a ≤ b) (hs : EnS s) (hf : Frac n d) (h : entStep s a b lo hi = some s') : EnS s' ∧ ((leF s'.1 n d ∧ geF s'.2 n d) ↔ (leF s.1 n d ∧ geF s.2 n d) ∧ (lo * d ≤ a * d + (b - a) * n ∧ a * d + (b - a) * n ≤ hi * d)) := by
  have hd := hf.pos
  have m1 : 0 ≤ (b - a) * n := Int.mul_nonneg (by omega) hf.nn
  have m2 : (b - a) * n ≤ (b - a) * d := Int.mul_le_mul_of_nonneg_left hf.le (by omega)
  rw [Int.sub_mul b a d] at m2
  unfold entStep at h
  split at h
  · cases h
  · rename_i hr
    injection h with h
    subst h
    have A : (lo * d ≤ a * d + (b - a) * n) ↔ (lo - a) * d ≤ n * (b - a) := by rw [Int.sub_mul lo a d, Int.mul_comm n (b - a)]; omega
    have Z1 : (a * d + (b - a) * n ≤ hi * d) ↔ n * (b - a) ≤ (hi - a) * d := by rw [Int.sub_mul hi a d, Int.mul_comm n (b - a)]; omega
    have k1 : leF (if a < lo ∧ ltF s.1 (lo - a, b - a) = true then (lo - a, b - a) else s.1) n d ↔ leF s.1 n d ∧ lo * d ≤ a * d + (b - a) * n := by
      split
      · rename_i hc
        obtain ⟨u, v⟩ := hc
        simp only [ltF, decide_eq_true_eq] at v
        rw [A]
        unfold leF
        simp only
        constructor
        · intro h1
          exact ⟨fr_trans hs.pos (show 0 < b - a by omega) hd (Int.le_of_lt v) h1, h1⟩
        · exact fun h1 => h1.2
      · rename_i hc
        constructor
        · intro h1
          refine ⟨h1, ?_⟩
          by_cases u : a < lo
          · have v : ¬ ltF s.1 (lo - a, b - a) = true := fun v => hc ⟨u, v⟩
            simp only [ltF, decide_eq_true_eq, Int.not_lt] at v
            rw [A]
            exact fr_trans (show 0 < b - a by omega) hs.pos hd v h1
          · have := Int.mul_le_mul_of_nonneg_right (show lo ≤ a by omega) (Int.le_of_lt hd)
            omega
        · exact fun h1 => h1.1
    have k2 : geF (if hi < b ∧ ltF (hi - a, b - a) s.2 = true then (hi - a, b - a) else s.2) n d ↔ geF s.2 n d ∧ a * d + (b - a) * n ≤ hi * d := by
      split
      · rename_i hc
        obtain ⟨u, v⟩ := hc
        simp only [ltF, decide_eq_true_eq] at v
        rw [Z1]
        unfold geF
        simp only
        constructor
        · intro h1
          exact ⟨fr_trans hd (show 0 < b - a by omega) hs.pos2 h1 (Int.le_of_lt v), h1⟩
        · exact fun h1 => h1.2
      · rename_i hc
        constructor
        · intro h1
          refine ⟨h1, ?_⟩
          by_cases u : hi < b
          · have v : ¬ ltF (hi - a, b - a) s.2 = true := fun v => hc ⟨u, v⟩
            simp only [ltF, decide_eq_true_eq, Int.not_lt] at v
            rw [Z1]
            exact fr_trans hd hs.pos2 (show 0 < b - a by omega) h1 v
          · have := Int.mul_le_mul_of_nonneg_right (show b ≤ hi by omega) (Int.le_of_lt hd)
            omega
        · exact fun h1 => h1.1
    refine ⟨?_, ?_⟩
    · obtain ⟨s1, s2, s3, s4⟩ := hs
      constructor <;> dsimp only <;> split <;> (try dsimp only) <;> omega
    · dsimp only
      rw [k1, k2]
      constructor
      · rintro ⟨⟨h1, h2⟩, h3, h4⟩; exact ⟨⟨h1, h3⟩, h2, h4⟩
      · rintro ⟨⟨h1, h3⟩, h2, h4⟩; exact ⟨⟨h1, h2⟩, h3, h4⟩
theorem in_neg {x : Int × Int} {p q n d : Int} : (-x.2 * d ≤ -p * d + (-q - -p) * n ∧ -p * d + (-q - -p) * n ≤ -x.1 * d) ↔ inAt x p q n d := by
  have e : (-q - -p) * n = -((q - p) * n) := by rw [show -q - -p = -(q - p) by omega, Int.neg_mul]
  unfold inAt
  rw [e, Int.neg_mul, Int.neg_mul, Int.neg_mul]
  omega
theorem entAt_none {s : Fr × Fr} {p q n d : Int} {x : Int × Int} (hf : Frac n d) (h : entAt s p q x = none) : ¬ inAt x p q n d := by
  unfold entAt at h
  split at h
  · rw [← in_neg]; exact entStep_none (by omega) hf h
  · exact entStep_none (by omega) hf h
theorem entAt_iff {s s' : Fr × Fr} {p q n d : Int} {x : Int × Int} (hs : EnS s) (hf : Frac n d) (h : entAt s p q x = some s') : EnS s' ∧ ((leF s'.1 n d ∧ geF s'.2 n d) ↔ (leF s.1 n d ∧ geF s.2 n d) ∧ inAt x p q n d) := by
  unfold entAt at h
  split at h
  · rw [← in_neg]; exact entStep_iff (by omega) hs hf h
  · exact entStep_iff (by omega) hs hf h
def ptP : Bx → List Int → List Int → Int → Int → Prop
  | x :: b, p :: ps, q :: qs, n, d => inAt x p q n d ∧ ptP b ps qs n d
  | _, _, _, _, _ => True
theorem ptP_iff : ∀ {b : Bx} {p q : List Int} {n d : Int}, ptP b p q n d ↔ ∀ (i : Nat) x u v, b[i]? = some x → p[i]? = some u → q[i]? = some v → inAt x u v n d
  | [], p, q, n, d => by simp [ptP]
  | _ :: _, [], q, n, d => by simp [ptP]
  | _ :: _, _ :: _, [], n, d => by simp [ptP]
  | x :: b, p :: ps, q :: qs, n, d => by
    simp only [ptP, ptP_iff (b := b)]
    constructor
    · rintro ⟨h1, h2⟩ i y u v hy hu hv
      cases i with
      | zero => simp at hy hu hv; subst hy; subst hu; subst hv; exact h1
      | succ i => exact h2 i y u v (by simpa using hy) (by simpa using hu) (by simpa using hv)
    · intro h
      exact ⟨h 0 x p q rfl rfl rfl, fun i y u v hy hu hv => h (i + 1) y u v (by simpa using hy) (by simpa using hu) (by simpa using hv)⟩
theorem entRun_none : ∀ {b : Bx} {p q : List Int} {s : Fr × Fr} {n d : Int}, EnS s → Frac n d → entRun b p q s = none → leF s.1 n d → geF s.2 n d → ¬ ptP b p q n d
  | [], _, _, _, _, _, _, _, h, _, _ => by simp [entRun] at h
  | _ :: _, [], _, _, _, _, _, _, h, _, _ => by simp [entRun] at h
  | _ :: _, _ :: _, [], _, _, _, _, _, h, _, _ => by simp [entRun] at h
  | x :: b, p :: ps, q :: qs, s, n, d, hs, hf, h, h1, h2 => by
    simp only [entRun] at h
    simp only [ptP]
    rintro ⟨h3, h4⟩
    split at h
    · rename_i he; exact entAt_none hf he h3
    · rename_i s' he
      obtain ⟨hs', hi⟩ := entAt_iff hs hf he
      have := hi.2 ⟨⟨h1, h2⟩, h3⟩
      exact entRun_none hs' hf h this.1 this.2 h4
theorem entRun_iff : ∀ {b : Bx} {p q : List Int} {s s' : Fr × Fr}, EnS s → entRun b p q s = some s' → EnS s' ∧ ∀ n d, Frac n d → ((leF s'.1 n d ∧ geF s'.2 n d) ↔ (leF s.1 n d ∧ geF s.2 n d) ∧ ptP b p q n d)
  | [], _, _, s, s', hs, h => by simp [entRun] at h; subst h; exact ⟨hs, fun n d _ => by simp [ptP]⟩
  | _ :: _, [], _, s, s', hs, h => by simp [entRun] at h; subst h; exact ⟨hs, fun n d _ => by simp [ptP]⟩
  | _ :: _, _ :: _, [], s, s', hs, h => by simp [entRun] at h; subst h; exact ⟨hs, fun n d _ => by simp [ptP]⟩
  | x :: b, p :: ps, q :: qs, s, s', hs, h => by
    simp only [entRun] at h
    split at h
    · cases h
    · rename_i s1 he
      have h1 := entAt_iff (n := 0) (d := 1) hs ⟨by decide, by decide, by decide⟩ he
      have ih := entRun_iff h1.1 h
      refine ⟨ih.1, fun n d hf => ?_⟩
      rw [ih.2 n d hf, (entAt_iff hs hf he).2, ptP, and_assoc]
theorem ens0 : EnS ent0 := ⟨by decide, by decide, by decide, by decide⟩
theorem ent0_le {n d : Int} (hf : Frac n d) : leF ent0.1 n d ∧ geF ent0.2 n d := by
  have := hf.nn; have := hf.le
  simp only [leF, geF, ent0]; omega
theorem entC_none {b : Bx} {p q : List Int} {n d : Int} (hf : Frac n d) (h : entC b p q = none) : ¬ ptP b p q n d := by
  unfold entC at h
  split at h
  · rename_i hr
    exact entRun_none ens0 hf hr (ent0_le hf).1 (ent0_le hf).2
  · rename_i s hr
    split at h
    · rename_i hl
      obtain ⟨hs, hi⟩ := entRun_iff ens0 hr
      intro ha
      obtain ⟨k1, k2⟩ := (hi n d hf).2 ⟨ent0_le hf, ha⟩
      simp only [ltF, decide_eq_true_eq] at hl
      unfold leF at k1
      unfold geF at k2
      have := fr_trans hs.pos hf.pos hs.pos2 k1 k2
      omega
    · cases h
theorem entC_some {b : Bx} {p q : List Int} {f : Fr} (h : entC b p q = some f) : Frac f.1 f.2 ∧ ptP b p q f.1 f.2 ∧ ∀ n d, Frac n d → ptP b p q n d → f.1 * d ≤ n * f.2 := by
  unfold entC at h
  split at h
  · cases h
  · rename_i s hr
    split at h
    · cases h
    · rename_i hl
      injection h with h
      subst h
      obtain ⟨hs, hi⟩ := entRun_iff ens0 hr
      have hfr : Frac s.1.1 s.1.2 := ⟨hs.nn, hs.le, hs.pos⟩
      simp only [ltF, decide_eq_true_eq, Int.not_lt] at hl
      refine ⟨hfr, ((hi _ _ hfr).1 ⟨Int.le_refl _, hl⟩).2, fun n d hf ha => ?_⟩
      exact ((hi n d hf).2 ⟨ent0_le hf, ha⟩).1
end Go.Ab
