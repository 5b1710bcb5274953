/- Contracts: the first meeting of a polyline with Colliding leaves. -/
import Derived.Test.YtagmnknighofeaaCu10
set_option linter.all false
namespace Go.Ab
open Go.Proofs
def colT (t : Tr) (i : Nat) : Bool := match t.cells[i]? with
  | some c => colB c
  | none => false
def mCell (t : Tr) (p q : List Int) (i : Nat) (s : Option (Fr × Nat)) : Option (Fr × Nat) :=
  if colT t i then
    match entC (boxAt t (i : Int)) p q with
    | none => s
    | some f => match s with
      | none => some (f, i)
      | some g => if ltF f g.1 then some (f, i) else some g
  else s
def mRun (t : Tr) (p q : List Int) : Nat → Option (Fr × Nat)
  | 0 => none
  | i + 1 => mCell t p q i (mRun t p q i)
def lineAt (line : List (List Int)) (m : Nat) : List Int := line[m]?.getD []
def meetM (t : Tr) (line : List (List Int)) (m : Nat) : Option (Fr × Nat) := mRun t (lineAt line m) (lineAt line (m + 1)) t.cells.length
def mFind (t : Tr) (line : List (List Int)) : Nat → Nat → Option (Nat × Fr × Nat)
  | 0, _ => none
  | k + 1, m => match meetM t line m with
    | some g => some (m, lowF g.1, g.2)
    | none => mFind t line k (m + 1)
def meetOk (t : Tr) (line : List (List Int)) : Bool := validT t && decide (2 ≤ line.length) && decide (line.length ≤ 1024) && allB (hasC t.root) line
def meetC (t : Tr) (line : List (List Int)) : Option (Nat × Fr × Nat) := if meetOk t line then mFind t line (line.length - 1) 0 else none
abbrev encMt (x : Nat × Fr × Nat) : PV := .val (.agg #[.int .i64 (x.1 : Int), .int .i64 x.2.1.1, .int .i64 x.2.1.2, .int .i64 (x.2.2 : Int)])
def mt0 : Nat × Fr × Nat := (0, (0, 0), 0)
def okR (f : Fr) : Prop := 0 ≤ f.1 ∧ f.1 ≤ 4294967296 ∧ 0 < f.2 ∧ f.2 ≤ 4294967296
theorem okR_F {f : Fr} (h : okR f) : okF f := by obtain ⟨h1, h2, h3, h4⟩ := h; exact ⟨h1, by omega, by omega, by omega⟩
theorem entRun_ok : ∀ {b : Bx} {p q : List Int} {s s' : Fr × Fr}, (∀ x ∈ b, validB x.1 x.2 = true) → (∀ y ∈ p, -2147483648 ≤ y ∧ y ≤ 2147483648) → (∀ y ∈ q, -2147483648 ≤ y ∧ y ≤ 2147483648) → okS s → entRun b p q s = some s' → okS s'
  | [], _, _, s, s', _, _, _, hs, h => by simp [entRun] at h; subst h; exact hs
  | _ :: _, [], _, s, s', _, _, _, hs, h => by simp [entRun] at h; subst h; exact hs
  | _ :: _, _ :: _, [], s, s', _, _, _, hs, h => by simp [entRun] at h; subst h; exact hs
  | x :: b, p :: ps, q :: qs, s, s', hb, hp, hq, hs, h => by
    simp only [entRun] at h
    split at h
    · cases h
    · rename_i s1 h1
      exact entRun_ok (fun y hy => hb y (List.mem_cons_of_mem _ hy)) (fun y hy => hp y (List.mem_cons_of_mem _ hy)) (fun y hy => hq y (List.mem_cons_of_mem _ hy)) (entAt_ok hs h1 (hb _ (by simp)) (hp _ (by simp)) (hq _ (by simp))) h
theorem entC_ok {b : Bx} {p q : List Int} {f : Fr} (hS : Sm b p q) (h : entC b p q = some f) : okR f := by
  unfold entC at h
  split at h
  · cases h
  · rename_i s hs
    split at h
    · cases h
    · injection h with h
      subst h
      have := entRun_ok (fun x hx => allV_iff.1 hS.v x hx) hS.sp hS.sq (entI_zero b p q).ok hs
      exact ⟨this.1, this.2.1, this.2.2.1, this.2.2.2.1⟩
theorem mRun_ok {t : Tr} {p q : List Int} (hS : ∀ i, i < t.cells.length → Sm (boxAt t (i : Int)) p q) : ∀ {i : Nat} {g : Fr × Nat}, i ≤ t.cells.length → mRun t p q i = some g → okR g.1 ∧ g.2 < i
  | 0, g, _, h => by simp [mRun] at h
  | i + 1, g, hi, h => by
    have ih := fun g => mRun_ok hS (i := i) (g := g) (by omega)
    simp only [mRun, mCell] at h
    split at h
    · split at h
      · have := ih g h; exact ⟨this.1, by omega⟩
      · rename_i f hf
        have hfk := entC_ok (hS i (by omega)) hf
        split at h
        · injection h with h; subst h; exact ⟨hfk, by simp⟩
        · rename_i g' hg'
          split at h
          · injection h with h; subst h; exact ⟨hfk, by simp⟩
          · injection h with h; subst h
            have := ih g' hg'; exact ⟨this.1, by omega⟩
    · have := ih g h; exact ⟨this.1, by omega⟩
theorem meet_sm {t : Tr} {line : List (List Int)} (h : meetOk t line = true) {m : Nat} (hm : m < line.length) : hasC t.root (lineAt line m) = true := by
  simp only [meetOk, Bool.and_eq_true] at h
  exact allV_iff.1 h.2 _ (by simp [lineAt, List.getElem?_eq_getElem hm])
theorem has_len {b : Bx} {c : List Int} (h : hasC b c = true) : b.length = c.length := by
  simp only [hasC, Bool.and_eq_true, decide_eq_true_eq] at h
  exact h.1
theorem sm_of {t : Tr} (hv : validT t = true) {p q : List Int} (hp : hasC t.root p = true) (hq : hasC t.root q = true) {i : Nat} (hi : i < t.cells.length) : Sm (boxAt t (i : Int)) p q := by
  obtain ⟨_, l, v⟩ := boxAt_ok hv (c := (i : Int)) (by simpa using hi)
  have hz := sizeOk_iff.1 (valid_size hv)
  have l1 := has_len hp
  have l2 := has_len hq
  refine ⟨v, by omega, by omega, by omega, fun y hy => ?_, fun y hy => ?_⟩
  · obtain ⟨k, hk⟩ := List.mem_iff_getElem?.1 hy
    exact has_rng hp hk
  · obtain ⟨k, hk⟩ := List.mem_iff_getElem?.1 hy
    exact has_rng hq hk
set_option maxHeartbeats 2000000 in
theorem d132 (b : Bx) (line : List (List Int)) (hb : b.length ≤ 9223372036854775807) (hl : line.length ≤ 9223372036854775807) : DetH Try.prog 132 [.pv (iv b), .pv (.sl (line.map zs))] [] [] (.pv (B (allB (hasC b) line))) := by
  refine detP_of Try.func132 rfl (by kernel_rfl) (by simp [Try.f132]) rfl ?_
  intro C hP hN
  simp only [Try.f132] at hN ⊢
  repeat' (first
    | with_reducible refine WP.seq ?_
    | (with_reducible ((first | refine WP.region (hn := []) ?_ | refine WP.cond' ?_); simp -implicitDefEqProofs (maxSteps := 2000000) [hP, hN]))
    | (with_reducible ((first | refine WP.draw (hn := []) (by rw [hP]; kernel_rfl) (by kernel_rfl) ?_); simp -implicitDefEqProofs (maxSteps := 2000000) [hP, hN]; (try refine ⟨by kernel_rfl, ?_⟩)))
    | (with_reducible refine xB_split (by simp) (fun hgd => ?_) (fun hgd => ?_) <;> first | (exfalso; simp at hgd; done) | (exfalso; simp at hgd; omega) | simp -implicitDefEqProofs (maxSteps := 2000000) [hP, hN])
    | (with_reducible refine yB_split (by simp) (fun hgd => ?_) (fun hgd => ?_) <;> first | (exfalso; simp at hgd; done) | (exfalso; simp at hgd; omega) | (simp -implicitDefEqProofs (maxSteps := 2000000) [hP, hN] <;> (try refine ⟨by kernel_rfl, ?_⟩)))
    | with_reducible refine xTwo_intro ?_ ?_
    | (with_reducible refine xCond_split (fun hcd => ?_) (fun hcd => ?_) <;> (try (exfalso; clear hP hN; simp_all; done)) <;> (try (exfalso; simp at *; omega)))
    | with_reducible refine WP.block ?_
    | (with_reducible ((first | refine WP.skip ?_ | refine WP.exit ?_ | refine WP.ret ?_); simp)))
  refine WP.loopN [] line.length (fun i st => st.t 0 = .pv (iv b) ∧ st.t 7 = .pv (.sl (line.map zs)) ∧ st.t 8 = .pv (Z line.length) ∧ st.t 9 = .pv (Z i) ∧ allB (hasC b) (line.take i) = true) (by simp [allB]) ?_
  rintro i st hi ⟨g0, g7, g8, g9, hq⟩
  by_cases hlt : i < line.length
  · have hw := wr_succ hlt (by omega)
    have hF : hasC b line[i] = false → allB (hasC b) line = false := all_false hlt
    have hS : hasC b line[i] = true → allB (hasC b) (line.take (i + 1)) = true := all_step hlt hq
    have ch := d86 b line[i] hb
    cases hh : hasC b line[i] with
    | false =>
      rw [hh] at ch hF
      rw [hF rfl]
      repeat' (first
        | with_reducible refine WP.seq ?_
        | (with_reducible ((first | refine WP.region (hn := []) ?_ | refine xC_intro (ch) ?_ | refine WP.cond' ?_); simp -implicitDefEqProofs (maxSteps := 2000000) [hP, hN, g0, g7, g8, g9, hlt, hw]))
        | (with_reducible ((first | refine WP.draw (hn := []) (by rw [hP]; kernel_rfl) (by kernel_rfl) ?_ | refine yC_intro (ch) ?_); simp -implicitDefEqProofs (maxSteps := 2000000) [hP, hN, g0, g7, g8, g9, hlt, hw]; (try refine ⟨by kernel_rfl, ?_⟩)))
        | (with_reducible refine xB_split (by simp [g0, g7, g8, g9, hlt, hw]) (fun hgd => ?_) (fun hgd => ?_) <;> first | (exfalso; simp at hgd; done) | (exfalso; simp at hgd; omega) | simp -implicitDefEqProofs (maxSteps := 2000000) [hP, hN, g0, g7, g8, g9, hlt, hw])
        | (with_reducible refine yB_split (by simp [g0, g7, g8, g9, hlt, hw]) (fun hgd => ?_) (fun hgd => ?_) <;> first | (exfalso; simp at hgd; done) | (exfalso; simp at hgd; omega) | (simp -implicitDefEqProofs (maxSteps := 2000000) [hP, hN, g0, g7, g8, g9, hlt, hw] <;> (try refine ⟨by kernel_rfl, ?_⟩)))
        | with_reducible refine xTwo_intro ?_ ?_
        | (with_reducible refine xCond_split (fun hcd => ?_) (fun hcd => ?_) <;> (try (exfalso; clear hP hN; simp_all; done)) <;> (try (exfalso; simp at *; omega)))
        | with_reducible refine WP.block ?_
        | (with_reducible ((first | refine WP.skip ?_ | refine WP.exit ?_ | refine WP.ret ?_); simp [g0, g7, g8, g9, hlt, hw])))
    | true =>
      rw [hh] at ch hS
      have := hS rfl
      repeat' (first
        | with_reducible refine WP.seq ?_
        | (with_reducible ((first | refine WP.region (hn := []) ?_ | refine xC_intro (ch) ?_ | refine WP.cond' ?_); simp -implicitDefEqProofs (maxSteps := 2000000) [hP, hN, g0, g7, g8, g9, hlt, hw]))
        | (with_reducible ((first | refine WP.draw (hn := []) (by rw [hP]; kernel_rfl) (by kernel_rfl) ?_ | refine yC_intro (ch) ?_); simp -implicitDefEqProofs (maxSteps := 2000000) [hP, hN, g0, g7, g8, g9, hlt, hw]; (try refine ⟨by kernel_rfl, ?_⟩)))
        | (with_reducible refine xB_split (by simp [g0, g7, g8, g9, hlt, hw]) (fun hgd => ?_) (fun hgd => ?_) <;> first | (exfalso; simp at hgd; done) | (exfalso; simp at hgd; omega) | simp -implicitDefEqProofs (maxSteps := 2000000) [hP, hN, g0, g7, g8, g9, hlt, hw])
        | (with_reducible refine yB_split (by simp [g0, g7, g8, g9, hlt, hw]) (fun hgd => ?_) (fun hgd => ?_) <;> first | (exfalso; simp at hgd; done) | (exfalso; simp at hgd; omega) | (simp -implicitDefEqProofs (maxSteps := 2000000) [hP, hN, g0, g7, g8, g9, hlt, hw] <;> (try refine ⟨by kernel_rfl, ?_⟩)))
        | with_reducible refine xTwo_intro ?_ ?_
        | (with_reducible refine xCond_split (fun hcd => ?_) (fun hcd => ?_) <;> (try (exfalso; clear hP hN; simp_all; done)) <;> (try (exfalso; simp at *; omega)))
        | with_reducible refine WP.block ?_
        | (with_reducible ((first | refine WP.skip ?_ | refine WP.exit ?_ | refine WP.ret ?_); simp [g0, g7, g8, g9, hlt, hw])))
      all_goals exact this
  · have := all_done hlt hq
    rw [this]
    repeat' (first
      | with_reducible refine WP.seq ?_
      | (with_reducible ((first | refine WP.region (hn := []) ?_ | refine WP.cond' ?_); simp -implicitDefEqProofs (maxSteps := 2000000) [hP, hN, g0, g7, g8, g9, hlt]))
      | (with_reducible ((first | refine WP.draw (hn := []) (by rw [hP]; kernel_rfl) (by kernel_rfl) ?_); simp -implicitDefEqProofs (maxSteps := 2000000) [hP, hN, g0, g7, g8, g9, hlt]; (try refine ⟨by kernel_rfl, ?_⟩)))
      | (with_reducible refine xB_split (by simp [g0, g7, g8, g9, hlt]) (fun hgd => ?_) (fun hgd => ?_) <;> first | (exfalso; simp at hgd; done) | (exfalso; simp at hgd; omega) | simp -implicitDefEqProofs (maxSteps := 2000000) [hP, hN, g0, g7, g8, g9, hlt])
      | (with_reducible refine yB_split (by simp [g0, g7, g8, g9, hlt]) (fun hgd => ?_) (fun hgd => ?_) <;> first | (exfalso; simp at hgd; done) | (exfalso; simp at hgd; omega) | (simp -implicitDefEqProofs (maxSteps := 2000000) [hP, hN, g0, g7, g8, g9, hlt] <;> (try refine ⟨by kernel_rfl, ?_⟩)))
      | with_reducible refine xTwo_intro ?_ ?_
      | (with_reducible refine xCond_split (fun hcd => ?_) (fun hcd => ?_) <;> (try (exfalso; clear hP hN; simp_all; done)) <;> (try (exfalso; simp at *; omega)))
      | with_reducible refine WP.block ?_
      | (with_reducible ((first | refine WP.skip ?_ | refine WP.exit ?_ | refine WP.ret ?_); simp [g0, g7, g8, g9, hlt])))
def fF1 (s : Option (Fr × Nat)) : Fr := match s with
  | some g => g.1
  | none => (0, 0)
def fL1 (s : Option (Fr × Nat)) : Nat := match s with
  | some g => g.2
  | none => 0
theorem mFind_step {t : Tr} {line : List (List Int)} {n m : Nat} (h : m < n) (hn : meetM t line m = none) : mFind t line (n - m) m = mFind t line (n - (m + 1)) (m + 1) := by
  obtain ⟨k, hk⟩ : ∃ k, n - m = k + 1 := ⟨n - m - 1, by omega⟩
  rw [hk, show n - (m + 1) = k by omega]
  simp only [mFind, hn]
theorem mFind_hit {t : Tr} {line : List (List Int)} {n m : Nat} {g : Fr × Nat} (h : m < n) (hn : meetM t line m = some g) : mFind t line (n - m) m = some (m, lowF g.1, g.2) := by
  obtain ⟨k, hk⟩ : ∃ k, n - m = k + 1 := ⟨n - m - 1, by omega⟩
  rw [hk]
  simp only [mFind, hn]
theorem mFind_end {t : Tr} {line : List (List Int)} {n m : Nat} (h : ¬ m < n) : mFind t line (n - m) m = none := by
  rw [show n - m = 0 by omega]; rfl
set_option maxRecDepth 10000 in
set_option maxHeartbeats 16000000 in
theorem d60 (t : Tr) (line : List (List Int)) (hl : t.cells.length ≤ 9223372036854775807) (hr : t.root.length ≤ 9223372036854775807) (hk : line.length ≤ 9223372036854775807) : DetH Try.prog 60 [.pv (encT t), .pv (.sl (line.map zs))] [] [] (.pv (.tup [encMt ((meetC t line).getD mt0), B (meetC t line).isSome])) := by
  have cv := d24 t hl
  have ci := d132 t.root line hr hk
  cases hv : validT t with
  | false =>
    have hm : meetC t line = none := by simp [meetC, meetOk, hv]
    rw [hm, mt0]
    rw [hv] at cv
    refine detP_of Try.func60 rfl (by kernel_rfl) (by simp [Try.f60]) rfl ?_
    intro C hP hN
    simp only [Try.f60] at hN ⊢
    repeat' (first
      | with_reducible refine WP.seq ?_
      | (with_reducible ((first | refine WP.region (hn := []) ?_ | refine xC_intro (cv) ?_ | refine WP.cond' ?_); simp -implicitDefEqProofs (maxSteps := 2000000) [hP, hN]))
      | (with_reducible ((first | refine WP.draw (hn := []) (by rw [hP]; kernel_rfl) (by kernel_rfl) ?_ | refine yC_intro (cv) ?_); simp -implicitDefEqProofs (maxSteps := 2000000) [hP, hN]; (try refine ⟨by kernel_rfl, ?_⟩)))
      | (with_reducible refine xB_split (by simp) (fun hgd => ?_) (fun hgd => ?_) <;> first | (exfalso; simp at hgd; done) | (exfalso; simp at hgd; omega) | simp -implicitDefEqProofs (maxSteps := 2000000) [hP, hN])
      | (with_reducible refine yB_split (by simp) (fun hgd => ?_) (fun hgd => ?_) <;> first | (exfalso; simp at hgd; done) | (exfalso; simp at hgd; omega) | (simp -implicitDefEqProofs (maxSteps := 2000000) [hP, hN] <;> (try refine ⟨by kernel_rfl, ?_⟩)))
      | with_reducible refine xTwo_intro ?_ ?_
      | (with_reducible refine xCond_split (fun hcd => ?_) (fun hcd => ?_) <;> (try (exfalso; clear hP hN; simp_all; done)) <;> (try (exfalso; simp at *; omega)))
      | with_reducible refine WP.block ?_
      | (with_reducible ((first | refine WP.skip ?_ | refine WP.exit ?_ | refine WP.ret ?_); simp)))
  | true =>
  rw [hv] at cv
  by_cases h1 : line.length < 2
  · have hm : meetC t line = none := by rw [meetC, if_neg]; simp [meetOk]; omega
    rw [hm, mt0]
    have h1' : (line.length : Int) < 2 := by omega
    refine detP_of Try.func60 rfl (by kernel_rfl) (by simp [Try.f60]) rfl ?_
    intro C hP hN
    simp only [Try.f60] at hN ⊢
    repeat' (first
      | with_reducible refine WP.seq ?_
      | (with_reducible ((first | refine WP.region (hn := []) ?_ | refine xC_intro (cv) ?_ | refine WP.cond' ?_); simp -implicitDefEqProofs (maxSteps := 2000000) [hP, hN, h1, h1']))
      | (with_reducible ((first | refine WP.draw (hn := []) (by rw [hP]; kernel_rfl) (by kernel_rfl) ?_ | refine yC_intro (cv) ?_); simp -implicitDefEqProofs (maxSteps := 2000000) [hP, hN, h1, h1']; (try refine ⟨by kernel_rfl, ?_⟩)))
      | (with_reducible refine xB_split (by simp [h1, h1']) (fun hgd => ?_) (fun hgd => ?_) <;> first | (exfalso; simp at hgd; done) | (exfalso; simp at hgd; omega) | simp -implicitDefEqProofs (maxSteps := 2000000) [hP, hN, h1, h1'])
      | (with_reducible refine yB_split (by simp [h1, h1']) (fun hgd => ?_) (fun hgd => ?_) <;> first | (exfalso; simp at hgd; done) | (exfalso; simp at hgd; omega) | (simp -implicitDefEqProofs (maxSteps := 2000000) [hP, hN, h1, h1'] <;> (try refine ⟨by kernel_rfl, ?_⟩)))
      | with_reducible refine xTwo_intro ?_ ?_
      | (with_reducible refine xCond_split (fun hcd => ?_) (fun hcd => ?_) <;> (try (exfalso; clear hP hN; simp_all; done)) <;> (try (exfalso; simp at *; omega)))
      | with_reducible refine WP.block ?_
      | (with_reducible ((first | refine WP.skip ?_ | refine WP.exit ?_ | refine WP.ret ?_); simp [h1, h1'])))
  have h1' : ¬ (line.length : Int) < 2 := by omega
  by_cases h2 : 1024 < line.length
  · have hm : meetC t line = none := by rw [meetC, if_neg]; simp [meetOk]; omega
    rw [hm, mt0]
    have h2' : (1024 : Int) < line.length := by omega
    refine detP_of Try.func60 rfl (by kernel_rfl) (by simp [Try.f60]) rfl ?_
    intro C hP hN
    simp only [Try.f60] at hN ⊢
    repeat' (first
      | with_reducible refine WP.seq ?_
      | (with_reducible ((first | refine WP.region (hn := []) ?_ | refine xC_intro (cv) ?_ | refine WP.cond' ?_); simp -implicitDefEqProofs (maxSteps := 2000000) [hP, hN, h1, h1', h2, h2']))
      | (with_reducible ((first | refine WP.draw (hn := []) (by rw [hP]; kernel_rfl) (by kernel_rfl) ?_ | refine yC_intro (cv) ?_); simp -implicitDefEqProofs (maxSteps := 2000000) [hP, hN, h1, h1', h2, h2']; (try refine ⟨by kernel_rfl, ?_⟩)))
      | (with_reducible refine xB_split (by simp [h1, h1', h2, h2']) (fun hgd => ?_) (fun hgd => ?_) <;> first | (exfalso; simp at hgd; done) | (exfalso; simp at hgd; omega) | simp -implicitDefEqProofs (maxSteps := 2000000) [hP, hN, h1, h1', h2, h2'])
      | (with_reducible refine yB_split (by simp [h1, h1', h2, h2']) (fun hgd => ?_) (fun hgd => ?_) <;> first | (exfalso; simp at hgd; done) | (exfalso; simp at hgd; omega) | (simp -implicitDefEqProofs (maxSteps := 2000000) [hP, hN, h1, h1', h2, h2'] <;> (try refine ⟨by kernel_rfl, ?_⟩)))
      | with_reducible refine xTwo_intro ?_ ?_
      | (with_reducible refine xCond_split (fun hcd => ?_) (fun hcd => ?_) <;> (try (exfalso; clear hP hN; simp_all; done)) <;> (try (exfalso; simp at *; omega)))
      | with_reducible refine WP.block ?_
      | (with_reducible ((first | refine WP.skip ?_ | refine WP.exit ?_ | refine WP.ret ?_); simp [h1, h1', h2, h2'])))
  have h2' : ¬ (1024 : Int) < line.length := by omega
  cases hin : allB (hasC t.root) line with
  | false =>
    have hm : meetC t line = none := by simp [meetC, meetOk, hin]
    rw [hm, mt0]
    rw [hin] at ci
    refine detP_of Try.func60 rfl (by kernel_rfl) (by simp [Try.f60]) rfl ?_
    intro C hP hN
    simp only [Try.f60] at hN ⊢
    repeat' (first
      | with_reducible refine WP.seq ?_
      | (with_reducible ((first | refine WP.region (hn := []) ?_ | refine xC_intro (cv) ?_ | refine xC_intro (ci) ?_ | refine WP.cond' ?_); simp -implicitDefEqProofs (maxSteps := 2000000) [hP, hN, h1, h1', h2, h2']))
      | (with_reducible ((first | refine WP.draw (hn := []) (by rw [hP]; kernel_rfl) (by kernel_rfl) ?_ | refine yC_intro (cv) ?_ | refine yC_intro (ci) ?_); simp -implicitDefEqProofs (maxSteps := 2000000) [hP, hN, h1, h1', h2, h2']; (try refine ⟨by kernel_rfl, ?_⟩)))
      | (with_reducible refine xB_split (by simp [h1, h1', h2, h2']) (fun hgd => ?_) (fun hgd => ?_) <;> first | (exfalso; simp at hgd; done) | (exfalso; simp at hgd; omega) | simp -implicitDefEqProofs (maxSteps := 2000000) [hP, hN, h1, h1', h2, h2'])
      | (with_reducible refine yB_split (by simp [h1, h1', h2, h2']) (fun hgd => ?_) (fun hgd => ?_) <;> first | (exfalso; simp at hgd; done) | (exfalso; simp at hgd; omega) | (simp -implicitDefEqProofs (maxSteps := 2000000) [hP, hN, h1, h1', h2, h2'] <;> (try refine ⟨by kernel_rfl, ?_⟩)))
      | with_reducible refine xTwo_intro ?_ ?_
      | (with_reducible refine xCond_split (fun hcd => ?_) (fun hcd => ?_) <;> (try (exfalso; clear hP hN; simp_all; done)) <;> (try (exfalso; simp at *; omega)))
      | with_reducible refine WP.block ?_
      | (with_reducible ((first | refine WP.skip ?_ | refine WP.exit ?_ | refine WP.ret ?_); simp [h1, h1', h2, h2'])))
  | true =>
  rw [hin] at ci
  have hok : meetOk t line = true := by simp [meetOk, hv, hin]; omega
  have cb := d133 t hv
  have hz := sizeOk_iff.1 (valid_size hv)
  have hbl := boxesL_len hv
  have hmc : meetC t line = mFind t line (line.length - 1 - 0) 0 := by simp [meetC, hok]
  have hw1 : IntKind.i64.wrap ((line.length : Int) - 1) = ((line.length - 1 : Nat) : Int) := by rw [show (line.length : Int) - 1 = ((line.length - 1 : Nat) : Int) by omega]; exact wr_id (by omega) (by omega)
  refine detP_of Try.func60 rfl (by kernel_rfl) (by simp [Try.f60]) rfl ?_
  intro C hP hN
  simp only [Try.f60] at hN ⊢
  repeat' (first
    | with_reducible refine WP.seq ?_
    | (with_reducible ((first | refine WP.region (hn := []) ?_ | refine xC_intro (cv) ?_ | refine xC_intro (ci) ?_ | refine xC_intro (cb) ?_ | refine WP.cond' ?_); simp -implicitDefEqProofs (maxSteps := 2000000) [hP, hN, h1, h1', h2, h2', hw1]))
    | (with_reducible ((first | refine WP.draw (hn := []) (by rw [hP]; kernel_rfl) (by kernel_rfl) ?_ | refine yC_intro (cv) ?_ | refine yC_intro (ci) ?_ | refine yC_intro (cb) ?_); simp -implicitDefEqProofs (maxSteps := 2000000) [hP, hN, h1, h1', h2, h2', hw1]; (try refine ⟨by kernel_rfl, ?_⟩)))
    | (with_reducible refine xB_split (by simp [h1, h1', h2, h2', hw1]) (fun hgd => ?_) (fun hgd => ?_) <;> first | (exfalso; simp at hgd; done) | (exfalso; simp at hgd; omega) | simp -implicitDefEqProofs (maxSteps := 2000000) [hP, hN, h1, h1', h2, h2', hw1])
    | (with_reducible refine yB_split (by simp [h1, h1', h2, h2', hw1]) (fun hgd => ?_) (fun hgd => ?_) <;> first | (exfalso; simp at hgd; done) | (exfalso; simp at hgd; omega) | (simp -implicitDefEqProofs (maxSteps := 2000000) [hP, hN, h1, h1', h2, h2', hw1] <;> (try refine ⟨by kernel_rfl, ?_⟩)))
    | with_reducible refine xTwo_intro ?_ ?_
    | (with_reducible refine xCond_split (fun hcd => ?_) (fun hcd => ?_) <;> (try (exfalso; clear hP hN; simp_all; done)) <;> (try (exfalso; simp at *; omega)))
    | with_reducible refine WP.block ?_
    | (with_reducible ((first | refine WP.skip ?_ | refine WP.exit ?_ | refine WP.ret ?_); simp [h1, h1', h2, h2', hw1])))
  refine WP.loopN [9] (line.length - 1) (fun m st => meetC t line = mFind t line (line.length - 1 - m) m ∧ st.t 1 = .pv (.sl (line.map zs)) ∧ st.t 2 = .ptr 2 0 ∧ st.t 4 = .ptr 4 0 ∧ st.t 6 = .pv (.sl ((boxesL t).map iv)) ∧ st.t 41 = .pv (Z (line.length - 1 : Nat)) ∧ st.t 42 = .pv (Z m) ∧ st.h 2 = some (.box [.pv (iv t.root), .pv (.sl (t.cells.map encC))] true false) ∧ st.h 4 = some (.box [.pv (Z 0), .pv (Z 0), .pv (Z 0), .pv (Z 0)] true false) ∧ st.h 9 = none ∧ st.h 12 = none ∧ st.h 13 = none) (by refine ⟨hmc, ?_⟩; simp) ?_
  clear hmc
  rintro m st hm ⟨hmc, g1, g2, g4, g6, g41, g42, hb2, hb4, hb9, hb12, hb13⟩
  by_cases hlt : m < line.length - 1
  · have hw : IntKind.i64.wrap ((m : Int) + 1) = (m : Int) + 1 := wr_id (by omega) (by omega)
    have hltZ : (m : Int) < ((line.length - 1 : Nat) : Int) := by omega
    have hm1 : m < line.length := by omega
    have hm2 : m + 1 < line.length := by omega
    have hm3 : (0 : Int) ≤ (m : Int) + 1 := by omega
    have hp := meet_sm hok hm1
    have hq := meet_sm hok hm2
    have hSm := fun i hi => sm_of hv hp hq (i := i) hi
    have hp1 : line[m]? = some (lineAt line m) := by simp [lineAt, List.getElem?_eq_getElem hm1]
    have hq1 : line[m + 1]? = some (lineAt line (m + 1)) := by simp [lineAt, List.getElem?_eq_getElem hm2]
    have hp1' := get_of hp1 hm1
    have hq1' := get_of hq1 hm2
    have hMM : meetM t line m = mRun t (lineAt line m) (lineAt line (m + 1)) t.cells.length := rfl
    generalize lineAt line m = p at *
    generalize lineAt line (m + 1) = q at *
    have hrk := fun i g => mRun_ok hSm (i := i) (g := g)
    repeat' (first
      | with_reducible refine WP.seq ?_
      | (with_reducible ((first | refine WP.region (hn := []) ?_ | refine WP.cond' ?_); simp -implicitDefEqProofs (maxSteps := 2000000) [hP, hN, g1, g2, g4, g6, g41, g42, hb2, hb4, hb9, hb12, hb13, hlt, hltZ]))
      | (with_reducible ((first | refine WP.draw (hn := []) (by rw [hP]; kernel_rfl) (by kernel_rfl) ?_); simp -implicitDefEqProofs (maxSteps := 2000000) [hP, hN, g1, g2, g4, g6, g41, g42, hb2, hb4, hb9, hb12, hb13, hlt, hltZ]; (try refine ⟨by kernel_rfl, ?_⟩)))
      | (with_reducible refine xB_split (by simp [g1, g2, g4, g6, g41, g42, hb2, hb4, hb9, hb12, hb13, hlt, hltZ]) (fun hgd => ?_) (fun hgd => ?_) <;> first | (exfalso; simp at hgd; done) | (exfalso; simp at hgd; omega) | simp -implicitDefEqProofs (maxSteps := 2000000) [hP, hN, g1, g2, g4, g6, g41, g42, hb2, hb4, hb9, hb12, hb13, hlt, hltZ])
      | (with_reducible refine yB_split (by simp [g1, g2, g4, g6, g41, g42, hb2, hb4, hb9, hb12, hb13, hlt, hltZ]) (fun hgd => ?_) (fun hgd => ?_) <;> first | (exfalso; simp at hgd; done) | (exfalso; simp at hgd; omega) | (simp -implicitDefEqProofs (maxSteps := 2000000) [hP, hN, g1, g2, g4, g6, g41, g42, hb2, hb4, hb9, hb12, hb13, hlt, hltZ] <;> (try refine ⟨by kernel_rfl, ?_⟩)))
      | with_reducible refine xTwo_intro ?_ ?_
      | (with_reducible refine xCond_split (fun hcd => ?_) (fun hcd => ?_) <;> (try (exfalso; clear hP hN; simp_all; done)) <;> (try (exfalso; simp at *; omega)))
      | with_reducible refine WP.block ?_
      | (with_reducible ((first | refine WP.skip ?_ | refine WP.exit ?_ | refine WP.ret ?_); simp [g1, g2, g4, g6, g41, g42, hb2, hb4, hb9, hb12, hb13, hlt, hltZ])))
    refine WP.loopN [12, 13] t.cells.length (fun i st => st.t 1 = .pv (.sl (line.map zs)) ∧ st.t 2 = .ptr 2 0 ∧ st.t 4 = .ptr 4 0 ∧ st.t 6 = .pv (.sl ((boxesL t).map iv)) ∧ st.t 7 = .pv (Z m) ∧ st.t 8 = .pv (B (mRun t p q i).isSome) ∧ st.t 9 = .ptr 9 0 ∧ st.t 10 = .pv (Z (fL1 (mRun t p q i))) ∧ st.t 41 = .pv (Z (line.length - 1 : Nat)) ∧ st.t 42 = .pv (Z m) ∧ st.t 46 = .pv (.sl (t.cells.map encC)) ∧ st.t 47 = .pv (Z t.cells.length) ∧ st.t 48 = .pv (Z i) ∧ st.h 2 = some (.box [.pv (iv t.root), .pv (.sl (t.cells.map encC))] true false) ∧ st.h 4 = some (.box [.pv (Z 0), .pv (Z 0), .pv (Z 0), .pv (Z 0)] true false) ∧ st.h 9 = some (Fb (fF1 (mRun t p q i))) ∧ st.h 12 = none ∧ st.h 13 = none) (by simp [mRun, fF1, fL1, g1, g2, g4, g6, g41, g42, hb2, hb4, hb12, hb13]) ?_
    clear g1 g2 g4 g6 g41 g42 hb2 hb4 hb9 hb12 hb13
    rintro i st' hi ⟨y1, y2, y4, y6, y7, y8, y9, y10, y41, y42, y46, y47, y48, yb2, yb4, yb9, yb12, yb13⟩
    by_cases hil : i < t.cells.length
    · have hwi := wr_succ hil (by omega)
      have hib : i < (boxesL t).length := by omega
      obtain ⟨hbi, _, _⟩ := boxAt_ok hv (c := (i : Int)) (by simpa using hil)
      rw [Int.toNat_natCast] at hbi
      have hbi' := get_of hbi hib
      have ce := d135 (boxAt t (i : Int)) p q (hSm i hil)
      have hek := fun f => entC_ok (f := f) (hSm i hil)
      have hsu : mRun t p q (i + 1) = mCell t p q i (mRun t p q i) := rfl
      generalize hc : t.cells[i] = c at *
      have hci : t.cells[i]? = some c := by rw [List.getElem?_eq_getElem hil, hc]
      have cc := d134 c
      have hct : colT t i = colB c := by simp [colT, hci]
      rw [mCell, hct] at hsu
      have hrki := fun g hg => (hrk i g (by omega) hg).1
      cases hcb : colB c with
      | false =>
        rw [hcb] at cc hsu
        simp only [Bool.false_eq_true, if_false] at hsu
        rw [← hsu] at y8 y10 yb9
        repeat' (first
          | with_reducible refine WP.seq ?_
          | (with_reducible ((first | refine WP.region (hn := []) ?_ | refine xC_intro (cc) ?_ | refine WP.cond' ?_); simp -implicitDefEqProofs (maxSteps := 2000000) [hP, hN, y1, y2, y4, y6, y7, y8, y9, y10, y41, y42, y46, y47, y48, yb2, yb4, yb9, yb12, yb13, hil, hwi, hci, hc]))
          | (with_reducible ((first | refine WP.draw (hn := []) (by rw [hP]; kernel_rfl) (by kernel_rfl) ?_ | refine yC_intro (cc) ?_); simp -implicitDefEqProofs (maxSteps := 2000000) [hP, hN, y1, y2, y4, y6, y7, y8, y9, y10, y41, y42, y46, y47, y48, yb2, yb4, yb9, yb12, yb13, hil, hwi, hci, hc]; (try refine ⟨by kernel_rfl, ?_⟩)))
          | (with_reducible refine xB_split (by simp [y1, y2, y4, y6, y7, y8, y9, y10, y41, y42, y46, y47, y48, yb2, yb4, yb9, yb12, yb13, hil, hwi, hci, hc]) (fun hgd => ?_) (fun hgd => ?_) <;> first | (exfalso; simp at hgd; done) | (exfalso; simp at hgd; omega) | simp -implicitDefEqProofs (maxSteps := 2000000) [hP, hN, y1, y2, y4, y6, y7, y8, y9, y10, y41, y42, y46, y47, y48, yb2, yb4, yb9, yb12, yb13, hil, hwi, hci, hc])
          | (with_reducible refine yB_split (by simp [y1, y2, y4, y6, y7, y8, y9, y10, y41, y42, y46, y47, y48, yb2, yb4, yb9, yb12, yb13, hil, hwi, hci, hc]) (fun hgd => ?_) (fun hgd => ?_) <;> first | (exfalso; simp at hgd; done) | (exfalso; simp at hgd; omega) | (simp -implicitDefEqProofs (maxSteps := 2000000) [hP, hN, y1, y2, y4, y6, y7, y8, y9, y10, y41, y42, y46, y47, y48, yb2, yb4, yb9, yb12, yb13, hil, hwi, hci, hc] <;> (try refine ⟨by kernel_rfl, ?_⟩)))
          | with_reducible refine xTwo_intro ?_ ?_
          | (with_reducible refine xCond_split (fun hcd => ?_) (fun hcd => ?_) <;> (try (exfalso; clear hP hN; simp_all; done)) <;> (try (exfalso; simp at *; omega)))
          | with_reducible refine WP.block ?_
          | (with_reducible ((first | refine WP.skip ?_ | refine WP.exit ?_ | refine WP.ret ?_); simp [y1, y2, y4, y6, y7, y8, y9, y10, y41, y42, y46, y47, y48, yb2, yb4, yb9, yb12, yb13, hil, hwi, hci, hc])))
      | true =>
      rw [hcb] at cc hsu
      simp only [if_true] at hsu
      cases he : entC (boxAt t (i : Int)) p q with
      | none =>
        rw [he] at ce hsu
        simp only at hsu
        rw [← hsu] at y8 y10 yb9
        simp only [Option.getD_none, Option.isSome_none] at ce
        repeat' (first
          | with_reducible refine WP.seq ?_
          | (with_reducible ((first | refine WP.region (hn := []) ?_ | refine xC_intro (cc) ?_ | refine xC_intro (ce) ?_ | refine WP.cond' ?_); simp -implicitDefEqProofs (maxSteps := 2000000) [hP, hN, y1, y2, y4, y6, y7, y8, y9, y10, y41, y42, y46, y47, y48, yb2, yb4, yb9, yb12, yb13, hil, hwi, hci, hc, hib, hbi, hbi', hm1, hm2, hp1, hq1, hp1', hq1', hw, hm3]))
          | (with_reducible ((first | refine WP.draw (hn := []) (by rw [hP]; kernel_rfl) (by kernel_rfl) ?_ | refine yC_intro (cc) ?_ | refine yC_intro (ce) ?_); simp -implicitDefEqProofs (maxSteps := 2000000) [hP, hN, y1, y2, y4, y6, y7, y8, y9, y10, y41, y42, y46, y47, y48, yb2, yb4, yb9, yb12, yb13, hil, hwi, hci, hc, hib, hbi, hbi', hm1, hm2, hp1, hq1, hp1', hq1', hw, hm3]; (try refine ⟨by kernel_rfl, ?_⟩)))
          | (with_reducible refine xB_split (by simp [y1, y2, y4, y6, y7, y8, y9, y10, y41, y42, y46, y47, y48, yb2, yb4, yb9, yb12, yb13, hil, hwi, hci, hc, hib, hbi, hbi', hm1, hm2, hp1, hq1, hp1', hq1', hw, hm3]) (fun hgd => ?_) (fun hgd => ?_) <;> first | (exfalso; simp at hgd; done) | (exfalso; simp at hgd; omega) | simp -implicitDefEqProofs (maxSteps := 2000000) [hP, hN, y1, y2, y4, y6, y7, y8, y9, y10, y41, y42, y46, y47, y48, yb2, yb4, yb9, yb12, yb13, hil, hwi, hci, hc, hib, hbi, hbi', hm1, hm2, hp1, hq1, hp1', hq1', hw, hm3])
          | (with_reducible refine yB_split (by simp [y1, y2, y4, y6, y7, y8, y9, y10, y41, y42, y46, y47, y48, yb2, yb4, yb9, yb12, yb13, hil, hwi, hci, hc, hib, hbi, hbi', hm1, hm2, hp1, hq1, hp1', hq1', hw, hm3]) (fun hgd => ?_) (fun hgd => ?_) <;> first | (exfalso; simp at hgd; done) | (exfalso; simp at hgd; omega) | (simp -implicitDefEqProofs (maxSteps := 2000000) [hP, hN, y1, y2, y4, y6, y7, y8, y9, y10, y41, y42, y46, y47, y48, yb2, yb4, yb9, yb12, yb13, hil, hwi, hci, hc, hib, hbi, hbi', hm1, hm2, hp1, hq1, hp1', hq1', hw, hm3] <;> (try refine ⟨by kernel_rfl, ?_⟩)))
          | with_reducible refine xTwo_intro ?_ ?_
          | (with_reducible refine xCond_split (fun hcd => ?_) (fun hcd => ?_) <;> (try (exfalso; clear hP hN; simp_all; done)) <;> (try (exfalso; simp at *; omega)))
          | with_reducible refine WP.block ?_
          | (with_reducible ((first | refine WP.skip ?_ | refine WP.exit ?_ | refine WP.ret ?_); simp [y1, y2, y4, y6, y7, y8, y9, y10, y41, y42, y46, y47, y48, yb2, yb4, yb9, yb12, yb13, hil, hwi, hci, hc, hib, hbi, hbi', hm1, hm2, hp1, hq1, hp1', hq1', hw, hm3])))
      | some f =>
      rw [he] at ce hsu
      simp only [Option.getD_some, Option.isSome_some] at ce
      have hfk := okR_F (hek f he)
      simp only at hsu
      cases hs : mRun t p q i with
      | none =>
        rw [hs] at hsu y8 y10 yb9
        simp only [Option.isSome_none, fL1, fF1] at hsu y8 y10 yb9
        repeat' (first
          | with_reducible refine WP.seq ?_
          | (with_reducible ((first | refine WP.region (hn := []) ?_ | refine xC_intro (cc) ?_ | refine xC_intro (ce) ?_ | refine WP.cond' ?_); simp -implicitDefEqProofs (maxSteps := 2000000) [hP, hN, y1, y2, y4, y6, y7, y8, y9, y10, y41, y42, y46, y47, y48, yb2, yb4, yb9, yb12, yb13, hil, hwi, hci, hc, hib, hbi, hbi', hm1, hm2, hp1, hq1, hp1', hq1', hw, hm3]))
          | (with_reducible ((first | refine WP.draw (hn := []) (by rw [hP]; kernel_rfl) (by kernel_rfl) ?_ | refine yC_intro (cc) ?_ | refine yC_intro (ce) ?_); simp -implicitDefEqProofs (maxSteps := 2000000) [hP, hN, y1, y2, y4, y6, y7, y8, y9, y10, y41, y42, y46, y47, y48, yb2, yb4, yb9, yb12, yb13, hil, hwi, hci, hc, hib, hbi, hbi', hm1, hm2, hp1, hq1, hp1', hq1', hw, hm3]; (try refine ⟨by kernel_rfl, ?_⟩)))
          | (with_reducible refine xB_split (by simp [y1, y2, y4, y6, y7, y8, y9, y10, y41, y42, y46, y47, y48, yb2, yb4, yb9, yb12, yb13, hil, hwi, hci, hc, hib, hbi, hbi', hm1, hm2, hp1, hq1, hp1', hq1', hw, hm3]) (fun hgd => ?_) (fun hgd => ?_) <;> first | (exfalso; simp at hgd; done) | (exfalso; simp at hgd; omega) | simp -implicitDefEqProofs (maxSteps := 2000000) [hP, hN, y1, y2, y4, y6, y7, y8, y9, y10, y41, y42, y46, y47, y48, yb2, yb4, yb9, yb12, yb13, hil, hwi, hci, hc, hib, hbi, hbi', hm1, hm2, hp1, hq1, hp1', hq1', hw, hm3])
          | (with_reducible refine yB_split (by simp [y1, y2, y4, y6, y7, y8, y9, y10, y41, y42, y46, y47, y48, yb2, yb4, yb9, yb12, yb13, hil, hwi, hci, hc, hib, hbi, hbi', hm1, hm2, hp1, hq1, hp1', hq1', hw, hm3]) (fun hgd => ?_) (fun hgd => ?_) <;> first | (exfalso; simp at hgd; done) | (exfalso; simp at hgd; omega) | (simp -implicitDefEqProofs (maxSteps := 2000000) [hP, hN, y1, y2, y4, y6, y7, y8, y9, y10, y41, y42, y46, y47, y48, yb2, yb4, yb9, yb12, yb13, hil, hwi, hci, hc, hib, hbi, hbi', hm1, hm2, hp1, hq1, hp1', hq1', hw, hm3] <;> (try refine ⟨by kernel_rfl, ?_⟩)))
          | with_reducible refine xTwo_intro ?_ ?_
          | (with_reducible refine xCond_split (fun hcd => ?_) (fun hcd => ?_) <;> (try (exfalso; clear hP hN; simp_all; done)) <;> (try (exfalso; simp at *; omega)))
          | with_reducible refine WP.block ?_
          | (with_reducible ((first | refine WP.skip ?_ | refine WP.exit ?_ | refine WP.ret ?_); simp [y1, y2, y4, y6, y7, y8, y9, y10, y41, y42, y46, y47, y48, yb2, yb4, yb9, yb12, yb13, hil, hwi, hci, hc, hib, hbi, hbi', hm1, hm2, hp1, hq1, hp1', hq1', hw, hm3])))
        all_goals simp [hsu, fL1, fF1]
      | some g =>
        rw [hs] at hsu y8 y10 yb9
        have cl := d136 f g.1 hfk (okR_F (hrki g hs))
        simp only [Option.isSome_some, fL1, fF1] at hsu y8 y10 yb9
        cases hlf : ltF f g.1 with
        | true =>
          rw [hlf] at cl hsu
          simp only [if_true] at hsu
          repeat' (first
            | with_reducible refine WP.seq ?_
            | (with_reducible ((first | refine WP.region (hn := []) ?_ | refine xC_intro (cc) ?_ | refine xC_intro (ce) ?_ | refine xC_intro (cl) ?_ | refine WP.cond' ?_); simp -implicitDefEqProofs (maxSteps := 2000000) [hP, hN, y1, y2, y4, y6, y7, y8, y9, y10, y41, y42, y46, y47, y48, yb2, yb4, yb9, yb12, yb13, hil, hwi, hci, hc, hib, hbi, hbi', hm1, hm2, hp1, hq1, hp1', hq1', hw, hm3]))
            | (with_reducible ((first | refine WP.draw (hn := []) (by rw [hP]; kernel_rfl) (by kernel_rfl) ?_ | refine yC_intro (cc) ?_ | refine yC_intro (ce) ?_ | refine yC_intro (cl) ?_); simp -implicitDefEqProofs (maxSteps := 2000000) [hP, hN, y1, y2, y4, y6, y7, y8, y9, y10, y41, y42, y46, y47, y48, yb2, yb4, yb9, yb12, yb13, hil, hwi, hci, hc, hib, hbi, hbi', hm1, hm2, hp1, hq1, hp1', hq1', hw, hm3]; (try refine ⟨by kernel_rfl, ?_⟩)))
            | (with_reducible refine xB_split (by simp [y1, y2, y4, y6, y7, y8, y9, y10, y41, y42, y46, y47, y48, yb2, yb4, yb9, yb12, yb13, hil, hwi, hci, hc, hib, hbi, hbi', hm1, hm2, hp1, hq1, hp1', hq1', hw, hm3]) (fun hgd => ?_) (fun hgd => ?_) <;> first | (exfalso; simp at hgd; done) | (exfalso; simp at hgd; omega) | simp -implicitDefEqProofs (maxSteps := 2000000) [hP, hN, y1, y2, y4, y6, y7, y8, y9, y10, y41, y42, y46, y47, y48, yb2, yb4, yb9, yb12, yb13, hil, hwi, hci, hc, hib, hbi, hbi', hm1, hm2, hp1, hq1, hp1', hq1', hw, hm3])
            | (with_reducible refine yB_split (by simp [y1, y2, y4, y6, y7, y8, y9, y10, y41, y42, y46, y47, y48, yb2, yb4, yb9, yb12, yb13, hil, hwi, hci, hc, hib, hbi, hbi', hm1, hm2, hp1, hq1, hp1', hq1', hw, hm3]) (fun hgd => ?_) (fun hgd => ?_) <;> first | (exfalso; simp at hgd; done) | (exfalso; simp at hgd; omega) | (simp -implicitDefEqProofs (maxSteps := 2000000) [hP, hN, y1, y2, y4, y6, y7, y8, y9, y10, y41, y42, y46, y47, y48, yb2, yb4, yb9, yb12, yb13, hil, hwi, hci, hc, hib, hbi, hbi', hm1, hm2, hp1, hq1, hp1', hq1', hw, hm3] <;> (try refine ⟨by kernel_rfl, ?_⟩)))
            | with_reducible refine xTwo_intro ?_ ?_
            | (with_reducible refine xCond_split (fun hcd => ?_) (fun hcd => ?_) <;> (try (exfalso; clear hP hN; simp_all; done)) <;> (try (exfalso; simp at *; omega)))
            | with_reducible refine WP.block ?_
            | (with_reducible ((first | refine WP.skip ?_ | refine WP.exit ?_ | refine WP.ret ?_); simp [y1, y2, y4, y6, y7, y8, y9, y10, y41, y42, y46, y47, y48, yb2, yb4, yb9, yb12, yb13, hil, hwi, hci, hc, hib, hbi, hbi', hm1, hm2, hp1, hq1, hp1', hq1', hw, hm3])))
          all_goals simp [hsu, fL1, fF1]
        | false =>
          rw [hlf] at cl hsu
          simp only [Bool.false_eq_true, if_false] at hsu
          repeat' (first
            | with_reducible refine WP.seq ?_
            | (with_reducible ((first | refine WP.region (hn := []) ?_ | refine xC_intro (cc) ?_ | refine xC_intro (ce) ?_ | refine xC_intro (cl) ?_ | refine WP.cond' ?_); simp -implicitDefEqProofs (maxSteps := 2000000) [hP, hN, y1, y2, y4, y6, y7, y8, y9, y10, y41, y42, y46, y47, y48, yb2, yb4, yb9, yb12, yb13, hil, hwi, hci, hc, hib, hbi, hbi', hm1, hm2, hp1, hq1, hp1', hq1', hw, hm3]))
            | (with_reducible ((first | refine WP.draw (hn := []) (by rw [hP]; kernel_rfl) (by kernel_rfl) ?_ | refine yC_intro (cc) ?_ | refine yC_intro (ce) ?_ | refine yC_intro (cl) ?_); simp -implicitDefEqProofs (maxSteps := 2000000) [hP, hN, y1, y2, y4, y6, y7, y8, y9, y10, y41, y42, y46, y47, y48, yb2, yb4, yb9, yb12, yb13, hil, hwi, hci, hc, hib, hbi, hbi', hm1, hm2, hp1, hq1, hp1', hq1', hw, hm3]; (try refine ⟨by kernel_rfl, ?_⟩)))
            | (with_reducible refine xB_split (by simp [y1, y2, y4, y6, y7, y8, y9, y10, y41, y42, y46, y47, y48, yb2, yb4, yb9, yb12, yb13, hil, hwi, hci, hc, hib, hbi, hbi', hm1, hm2, hp1, hq1, hp1', hq1', hw, hm3]) (fun hgd => ?_) (fun hgd => ?_) <;> first | (exfalso; simp at hgd; done) | (exfalso; simp at hgd; omega) | simp -implicitDefEqProofs (maxSteps := 2000000) [hP, hN, y1, y2, y4, y6, y7, y8, y9, y10, y41, y42, y46, y47, y48, yb2, yb4, yb9, yb12, yb13, hil, hwi, hci, hc, hib, hbi, hbi', hm1, hm2, hp1, hq1, hp1', hq1', hw, hm3])
            | (with_reducible refine yB_split (by simp [y1, y2, y4, y6, y7, y8, y9, y10, y41, y42, y46, y47, y48, yb2, yb4, yb9, yb12, yb13, hil, hwi, hci, hc, hib, hbi, hbi', hm1, hm2, hp1, hq1, hp1', hq1', hw, hm3]) (fun hgd => ?_) (fun hgd => ?_) <;> first | (exfalso; simp at hgd; done) | (exfalso; simp at hgd; omega) | (simp -implicitDefEqProofs (maxSteps := 2000000) [hP, hN, y1, y2, y4, y6, y7, y8, y9, y10, y41, y42, y46, y47, y48, yb2, yb4, yb9, yb12, yb13, hil, hwi, hci, hc, hib, hbi, hbi', hm1, hm2, hp1, hq1, hp1', hq1', hw, hm3] <;> (try refine ⟨by kernel_rfl, ?_⟩)))
            | with_reducible refine xTwo_intro ?_ ?_
            | (with_reducible refine xCond_split (fun hcd => ?_) (fun hcd => ?_) <;> (try (exfalso; clear hP hN; simp_all; done)) <;> (try (exfalso; simp at *; omega)))
            | with_reducible refine WP.block ?_
            | (with_reducible ((first | refine WP.skip ?_ | refine WP.exit ?_ | refine WP.ret ?_); simp [y1, y2, y4, y6, y7, y8, y9, y10, y41, y42, y46, y47, y48, yb2, yb4, yb9, yb12, yb13, hil, hwi, hci, hc, hib, hbi, hbi', hm1, hm2, hp1, hq1, hp1', hq1', hw, hm3])))
          all_goals simp [hsu, fL1, fF1]
    · have hi' : i = t.cells.length := by omega
      subst hi'
      rw [← hMM] at y8 y10 yb9
      cases hmm : meetM t line m with
      | none =>
        rw [hmm] at y8 y10 yb9
        have hnx := mFind_step hlt hmm
        rw [← hmc] at hnx
        simp only [Option.isSome_none, fL1, fF1] at y8 y10 yb9
        repeat' (first
          | with_reducible refine WP.seq ?_
          | (with_reducible ((first | refine WP.region (hn := []) ?_ | refine WP.cond' ?_); simp -implicitDefEqProofs (maxSteps := 2000000) [hP, hN, y1, y2, y4, y6, y7, y8, y9, y10, y41, y42, y46, y47, y48, yb2, yb4, yb9, yb12, yb13, hil, hw]))
          | (with_reducible ((first | refine WP.draw (hn := []) (by rw [hP]; kernel_rfl) (by kernel_rfl) ?_); simp -implicitDefEqProofs (maxSteps := 2000000) [hP, hN, y1, y2, y4, y6, y7, y8, y9, y10, y41, y42, y46, y47, y48, yb2, yb4, yb9, yb12, yb13, hil, hw]; (try refine ⟨by kernel_rfl, ?_⟩)))
          | (with_reducible refine xB_split (by simp [y1, y2, y4, y6, y7, y8, y9, y10, y41, y42, y46, y47, y48, yb2, yb4, yb9, yb12, yb13, hil, hw]) (fun hgd => ?_) (fun hgd => ?_) <;> first | (exfalso; simp at hgd; done) | (exfalso; simp at hgd; omega) | simp -implicitDefEqProofs (maxSteps := 2000000) [hP, hN, y1, y2, y4, y6, y7, y8, y9, y10, y41, y42, y46, y47, y48, yb2, yb4, yb9, yb12, yb13, hil, hw])
          | (with_reducible refine yB_split (by simp [y1, y2, y4, y6, y7, y8, y9, y10, y41, y42, y46, y47, y48, yb2, yb4, yb9, yb12, yb13, hil, hw]) (fun hgd => ?_) (fun hgd => ?_) <;> first | (exfalso; simp at hgd; done) | (exfalso; simp at hgd; omega) | (simp -implicitDefEqProofs (maxSteps := 2000000) [hP, hN, y1, y2, y4, y6, y7, y8, y9, y10, y41, y42, y46, y47, y48, yb2, yb4, yb9, yb12, yb13, hil, hw] <;> (try refine ⟨by kernel_rfl, ?_⟩)))
          | with_reducible refine xTwo_intro ?_ ?_
          | (with_reducible refine xCond_split (fun hcd => ?_) (fun hcd => ?_) <;> (try (exfalso; clear hP hN; simp_all; done)) <;> (try (exfalso; simp at *; omega)))
          | with_reducible refine WP.block ?_
          | (with_reducible ((first | refine WP.skip ?_ | refine WP.exit ?_ | refine WP.ret ?_); simp [y1, y2, y4, y6, y7, y8, y9, y10, y41, y42, y46, y47, y48, yb2, yb4, yb9, yb12, yb13, hil, hw])))
        all_goals exact hnx
      | some g =>
        rw [hmm] at y8 y10 yb9
        obtain ⟨⟨o1, o2, o3, o4⟩, _⟩ := hrk _ g (Nat.le_refl _) (by rw [← hMM]; exact hmm)
        have clo := d137 g.1 o1 o3 (by omega) (by omega)
        rw [hmc, mFind_hit hlt hmm]
        simp only [Option.isSome_some, fL1, fF1] at y8 y10 yb9
        repeat' (first
          | with_reducible refine WP.seq ?_
          | (with_reducible ((first | refine WP.region (hn := []) ?_ | refine xC_intro (clo) ?_ | refine WP.cond' ?_); simp -implicitDefEqProofs (maxSteps := 2000000) [hP, hN, y1, y2, y4, y6, y7, y8, y9, y10, y41, y42, y46, y47, y48, yb2, yb4, yb9, yb12, yb13, hil, hw]))
          | (with_reducible ((first | refine WP.draw (hn := []) (by rw [hP]; kernel_rfl) (by kernel_rfl) ?_ | refine yC_intro (clo) ?_); simp -implicitDefEqProofs (maxSteps := 2000000) [hP, hN, y1, y2, y4, y6, y7, y8, y9, y10, y41, y42, y46, y47, y48, yb2, yb4, yb9, yb12, yb13, hil, hw]; (try refine ⟨by kernel_rfl, ?_⟩)))
          | (with_reducible refine xB_split (by simp [y1, y2, y4, y6, y7, y8, y9, y10, y41, y42, y46, y47, y48, yb2, yb4, yb9, yb12, yb13, hil, hw]) (fun hgd => ?_) (fun hgd => ?_) <;> first | (exfalso; simp at hgd; done) | (exfalso; simp at hgd; omega) | simp -implicitDefEqProofs (maxSteps := 2000000) [hP, hN, y1, y2, y4, y6, y7, y8, y9, y10, y41, y42, y46, y47, y48, yb2, yb4, yb9, yb12, yb13, hil, hw])
          | (with_reducible refine yB_split (by simp [y1, y2, y4, y6, y7, y8, y9, y10, y41, y42, y46, y47, y48, yb2, yb4, yb9, yb12, yb13, hil, hw]) (fun hgd => ?_) (fun hgd => ?_) <;> first | (exfalso; simp at hgd; done) | (exfalso; simp at hgd; omega) | (simp -implicitDefEqProofs (maxSteps := 2000000) [hP, hN, y1, y2, y4, y6, y7, y8, y9, y10, y41, y42, y46, y47, y48, yb2, yb4, yb9, yb12, yb13, hil, hw] <;> (try refine ⟨by kernel_rfl, ?_⟩)))
          | with_reducible refine xTwo_intro ?_ ?_
          | (with_reducible refine xCond_split (fun hcd => ?_) (fun hcd => ?_) <;> (try (exfalso; clear hP hN; simp_all; done)) <;> (try (exfalso; simp at *; omega)))
          | with_reducible refine WP.block ?_
          | (with_reducible ((first | refine WP.skip ?_ | refine WP.exit ?_ | refine WP.ret ?_); simp [y1, y2, y4, y6, y7, y8, y9, y10, y41, y42, y46, y47, y48, yb2, yb4, yb9, yb12, yb13, hil, hw])))
  · have hltZ : ¬ (m : Int) < ((line.length - 1 : Nat) : Int) := by omega
    rw [hmc, mFind_end hlt, mt0]
    repeat' (first
      | with_reducible refine WP.seq ?_
      | (with_reducible ((first | refine WP.region (hn := []) ?_ | refine WP.cond' ?_); simp -implicitDefEqProofs (maxSteps := 2000000) [hP, hN, g1, g2, g4, g6, g41, g42, hb2, hb4, hb9, hb12, hb13, hlt, hltZ]))
      | (with_reducible ((first | refine WP.draw (hn := []) (by rw [hP]; kernel_rfl) (by kernel_rfl) ?_); simp -implicitDefEqProofs (maxSteps := 2000000) [hP, hN, g1, g2, g4, g6, g41, g42, hb2, hb4, hb9, hb12, hb13, hlt, hltZ]; (try refine ⟨by kernel_rfl, ?_⟩)))
      | (with_reducible refine xB_split (by simp [g1, g2, g4, g6, g41, g42, hb2, hb4, hb9, hb12, hb13, hlt, hltZ]) (fun hgd => ?_) (fun hgd => ?_) <;> first | (exfalso; simp at hgd; done) | (exfalso; simp at hgd; omega) | simp -implicitDefEqProofs (maxSteps := 2000000) [hP, hN, g1, g2, g4, g6, g41, g42, hb2, hb4, hb9, hb12, hb13, hlt, hltZ])
      | (with_reducible refine yB_split (by simp [g1, g2, g4, g6, g41, g42, hb2, hb4, hb9, hb12, hb13, hlt, hltZ]) (fun hgd => ?_) (fun hgd => ?_) <;> first | (exfalso; simp at hgd; done) | (exfalso; simp at hgd; omega) | (simp -implicitDefEqProofs (maxSteps := 2000000) [hP, hN, g1, g2, g4, g6, g41, g42, hb2, hb4, hb9, hb12, hb13, hlt, hltZ] <;> (try refine ⟨by kernel_rfl, ?_⟩)))
      | with_reducible refine xTwo_intro ?_ ?_
      | (with_reducible refine xCond_split (fun hcd => ?_) (fun hcd => ?_) <;> (try (exfalso; clear hP hN; simp_all; done)) <;> (try (exfalso; simp at *; omega)))
      | with_reducible refine WP.block ?_
      | (with_reducible ((first | refine WP.skip ?_ | refine WP.exit ?_ | refine WP.ret ?_); simp [g1, g2, g4, g6, g41, g42, hb2, hb4, hb9, hb12, hb13, hlt, hltZ])))
end Go.Ab
