/- Contracts: robots checked. -/
import Derived.Test.YtagmnknighofeaaCfR
set_option linter.all false
namespace Go.Ab
open Go.Proofs
def massOk (n : Nat) (m : Ms) : Bool := decide (0 ≤ m.link) && decide (m.link < n) && fromB m.mass 1 65536 && nearB m.px m.py m.pz 4194304
/-- The first error of the joints. -/
def firstE (js : List J) : Int := match (js.mapIdx (errJ js)).find? (fun e => e != 0) with
  | some e => e
  | none => 0
theorem firstE_eq (js : List J) : firstE js = match (js.mapIdx (errJ js)).find? (fun e => e != 0) with
  | some e => e
  | none => 0 := rfl
theorem first_found {js : List J} {i : Nat} (hlt : i < js.length) (hq : ∀ k x, k < i → js[k]? = some x → errJ js k x = 0) (he : errJ js i js[i] ≠ 0) : firstE js = errJ js i js[i] := by
  rw [firstE_eq]
  have : (js.mapIdx (errJ js)).find? (fun e => e != 0) = some (errJ js i js[i]) := by
    rw [List.find?_eq_some_iff_getElem]
    refine ⟨by simpa using he, i, by simpa using hlt, by simp, fun k hk => ?_⟩
    have hkl : k < js.length := by omega
    simp [hq k js[k] hk (List.getElem?_eq_getElem hkl)]
  rw [this]
theorem first_none {js : List J} (hq : ∀ (k : Nat) x, js[k]? = some x → errJ js k x = 0) : firstE js = 0 := by
  rw [firstE_eq]
  have : (js.mapIdx (errJ js)).find? (fun e => e != 0) = none := by
    rw [List.find?_eq_none]
    intro e he
    simp only [List.mem_mapIdx] at he
    obtain ⟨i, hi, rfl⟩ := he
    simp [hq i js[i] (List.getElem?_eq_getElem hi)]
  rw [this]
theorem err_step {js : List J} {i : Nat} (hlt : i < js.length) (hq : ∀ k x, k < i → js[k]? = some x → errJ js k x = 0) (he : errJ js i js[i] = 0) : ∀ k x, k < i + 1 → js[k]? = some x → errJ js k x = 0 := by
  intro k x hk hx
  by_cases e : k = i
  · subst e; rw [List.getElem?_eq_getElem hlt] at hx; injection hx with hx; subst hx; exact he
  · exact hq k x (by omega) hx
def checkR (js : List J) (ms : List Ms) : Int := if js.length = 0 ∨ 10 < js.length then 801 else if firstE js ≠ 0 then firstE js else if (decide (32 < ms.length) || ms.any fun m => !massOk js.length m) = true then 808 else 0
theorem any_yes {α : Type} {p : α → Bool} {xs : List α} {i : Nat} (h : i < xs.length) (hp : p xs[i] = true) : xs.any p = true := List.any_eq_true.2 ⟨_, List.getElem_mem h, hp⟩
theorem any_no {α : Type} {p : α → Bool} {xs : List α} (h : ∀ (i : Nat) x, xs[i]? = some x → p x = false) : xs.any p = false := by
  rw [List.any_eq_false]
  intro x hx
  obtain ⟨i, hi⟩ := List.getElem?_of_mem hx
  simp [h i x hi]
set_option maxHeartbeats 8000000 in
theorem d184 (js : List J) (ms : List Ms) (hl : js.length ≤ 9223372036854775807) (hm : ms.length ≤ 9223372036854775807) : DetH Try.prog 184 [.pv (encR js ms)] [] [] (.pv (Z (checkR js ms))) := by
  by_cases h0 : js.length = 0
  · have hc : checkR js ms = 801 := by simp [checkR, h0]
    have h0' : js = [] := List.eq_nil_of_length_eq_zero h0
    rw [hc]
    subst h0'
    refine detP_of Try.func184 rfl (by kernel_rfl) (by simp [Try.f184]) rfl ?_
    intro C hP hN
    simp only [Try.f184] at hN ⊢
    repeat' (first
      | with_reducible refine WP.seq ?_
      | (with_reducible refine WP.region (hn := []) ?_; simp -implicitDefEqProofs [hP, hN])
      | (with_reducible refine WP.draw (hn := []) (by rw [hP]; kernel_rfl) (by kernel_rfl) ?_; simp -implicitDefEqProofs [hP, hN]; (try refine ⟨by kernel_rfl, ?_⟩))
      | (with_reducible refine xB_split (by simp) (fun hgd => ?_) (fun hgd => ?_) <;> first | (exfalso; simp at hgd; done) | (exfalso; simp at hgd; omega) | simp -implicitDefEqProofs [hP, hN])
      | (with_reducible refine yB_split (by simp) (fun hgd => ?_) (fun hgd => ?_) <;> first | (exfalso; simp at hgd; done) | (exfalso; simp at hgd; omega) | (simp -implicitDefEqProofs [hP, hN] <;> (try refine ⟨by kernel_rfl, ?_⟩)))
      | with_reducible refine xTwo_intro ?_ ?_
      | (with_reducible refine WP.cond' ?_; simp -implicitDefEqProofs [hP, hN])
      | (with_reducible refine xCond_split (fun hcd => ?_) (fun hcd => ?_) <;> (try (exfalso; clear hP hN; simp_all; done)) <;> (try (exfalso; simp at *; omega)))
      | with_reducible refine WP.block ?_
      | (with_reducible refine WP.skip ?_; simp)
      | (with_reducible refine WP.exit ?_; simp)
      | (with_reducible refine WP.ret ?_; simp))
  have n0 : ¬ (js.length : Int) < 1 := by omega
  have n1 : ¬ js.length < 1 := by omega
  by_cases h1 : 10 < js.length
  · have hc : checkR js ms = 801 := by simp [checkR, h1]
    have h1' : (10 : Int) < js.length := by omega
    rw [hc]
    refine detP_of Try.func184 rfl (by kernel_rfl) (by simp [Try.f184]) rfl ?_
    intro C hP hN
    simp only [Try.f184] at hN ⊢
    repeat' (first
      | with_reducible refine WP.seq ?_
      | (with_reducible refine WP.region (hn := []) ?_; simp -implicitDefEqProofs [hP, hN, h1', h1, n0, n1, h0])
      | (with_reducible refine WP.draw (hn := []) (by rw [hP]; kernel_rfl) (by kernel_rfl) ?_; simp -implicitDefEqProofs [hP, hN, h1', h1, n0, n1, h0]; (try refine ⟨by kernel_rfl, ?_⟩))
      | (with_reducible refine xB_split (by simp [h1', h1, n0, n1, h0]) (fun hgd => ?_) (fun hgd => ?_) <;> first | (exfalso; simp at hgd; done) | (exfalso; simp at hgd; omega) | simp -implicitDefEqProofs [hP, hN, h1', h1, n0, n1, h0])
      | (with_reducible refine yB_split (by simp [h1', h1, n0, n1, h0]) (fun hgd => ?_) (fun hgd => ?_) <;> first | (exfalso; simp at hgd; done) | (exfalso; simp at hgd; omega) | (simp -implicitDefEqProofs [hP, hN, h1', h1, n0, n1, h0] <;> (try refine ⟨by kernel_rfl, ?_⟩)))
      | with_reducible refine xTwo_intro ?_ ?_
      | (with_reducible refine WP.cond' ?_; simp -implicitDefEqProofs [hP, hN, h1', h1, n0, n1, h0])
      | (with_reducible refine xCond_split (fun hcd => ?_) (fun hcd => ?_) <;> (try (exfalso; clear hP hN; simp_all; done)) <;> (try (exfalso; simp at *; omega)))
      | with_reducible refine WP.block ?_
      | (with_reducible refine WP.skip ?_; simp [h1', h1, n0, n1, h0])
      | (with_reducible refine WP.exit ?_; simp [h1', h1, n0, n1, h0])
      | (with_reducible refine WP.ret ?_; simp [h1', h1, n0, n1, h0]))
  have h1' : ¬ (10 : Int) < js.length := by omega
  have hc0 : checkR js ms = if firstE js ≠ 0 then firstE js else if (decide (32 < ms.length) || ms.any fun m => !massOk js.length m) = true then 808 else 0 := by
    unfold checkR; rw [if_neg (by omega)]
  rw [hc0]
  generalize hr : (if (decide (32 < ms.length) || ms.any fun m => !massOk js.length m) = true then (808 : Int) else 0) = r
  refine detP_of Try.func184 rfl (by kernel_rfl) (by simp [Try.f184]) rfl ?_
  intro C hP hN
  simp only [Try.f184] at hN ⊢
  repeat' (first
    | with_reducible refine WP.seq ?_
    | (with_reducible refine WP.region (hn := []) ?_; simp -implicitDefEqProofs [hP, hN, h1', h1, n0, n1, h0])
    | (with_reducible refine WP.draw (hn := []) (by rw [hP]; kernel_rfl) (by kernel_rfl) ?_; simp -implicitDefEqProofs [hP, hN, h1', h1, n0, n1, h0]; (try refine ⟨by kernel_rfl, ?_⟩))
    | (with_reducible refine xB_split (by simp [h1', h1, n0, n1, h0]) (fun hgd => ?_) (fun hgd => ?_) <;> first | (exfalso; simp at hgd; done) | (exfalso; simp at hgd; omega) | simp -implicitDefEqProofs [hP, hN, h1', h1, n0, n1, h0])
    | (with_reducible refine yB_split (by simp [h1', h1, n0, n1, h0]) (fun hgd => ?_) (fun hgd => ?_) <;> first | (exfalso; simp at hgd; done) | (exfalso; simp at hgd; omega) | (simp -implicitDefEqProofs [hP, hN, h1', h1, n0, n1, h0] <;> (try refine ⟨by kernel_rfl, ?_⟩)))
    | with_reducible refine xTwo_intro ?_ ?_
    | (with_reducible refine WP.cond' ?_; simp -implicitDefEqProofs [hP, hN, h1', h1, n0, n1, h0])
    | (with_reducible refine xCond_split (fun hcd => ?_) (fun hcd => ?_) <;> (try (exfalso; clear hP hN; simp_all; done)) <;> (try (exfalso; simp at *; omega)))
    | with_reducible refine WP.block ?_
    | (with_reducible refine WP.skip ?_; simp [h1', h1, n0, n1, h0])
    | (with_reducible refine WP.exit ?_; simp [h1', h1, n0, n1, h0])
    | (with_reducible refine WP.ret ?_; simp [h1', h1, n0, n1, h0]))
  refine WP.loopN [] js.length (fun i st => st.t 1 = .ptr 1 0 ∧ st.h 1 = some (.box [.pv (.sl (js.map encJ)), .pv (.sl (ms.map encM))] true false) ∧ st.h 6 = none ∧ st.t 3 = .pv (Z i) ∧ ∀ k x, k < i → js[k]? = some x → errJ js k x = 0) (by simp) ?_
  rintro i st hi ⟨g1, hb1, hb6, g3, hq⟩
  by_cases hlt : i < js.length
  · have hw := wr_succ hlt hl
    by_cases he : errJ js i js[i] = 0
    · have hne : (errJ js i js[i] != 0) = false := by simp [he]
      repeat' (first
        | with_reducible refine WP.seq ?_
        | (with_reducible refine WP.region (hn := []) ?_; simp -implicitDefEqProofs [hP, hN, g1, hb1, hb6, g3, hlt, hw, hne, he])
        | (with_reducible refine WP.draw (hn := []) (by rw [hP]; kernel_rfl) (by kernel_rfl) ?_; simp -implicitDefEqProofs [hP, hN, g1, hb1, hb6, g3, hlt, hw, hne, he]; (try refine ⟨by kernel_rfl, ?_⟩))
        | (with_reducible refine xB_split (by simp [g1, hb1, hb6, g3, hlt, hw, hne, he]) (fun hgd => ?_) (fun hgd => ?_) <;> first | (exfalso; simp at hgd; done) | (exfalso; simp at hgd; omega) | simp -implicitDefEqProofs [hP, hN, g1, hb1, hb6, g3, hlt, hw, hne, he])
        | (with_reducible refine yB_split (by simp [g1, hb1, hb6, g3, hlt, hw, hne, he]) (fun hgd => ?_) (fun hgd => ?_) <;> first | (exfalso; simp at hgd; done) | (exfalso; simp at hgd; omega) | (simp -implicitDefEqProofs [hP, hN, g1, hb1, hb6, g3, hlt, hw, hne, he] <;> (try refine ⟨by kernel_rfl, ?_⟩)))
        | (with_reducible refine xC_intro (d187 js i hl hlt) ?_; simp -implicitDefEqProofs [hP, hN, g1, hb1, hb6, g3, hlt, hw, hne, he])
        | (with_reducible refine yC_intro (d187 js i hl hlt) ?_; simp -implicitDefEqProofs [hP, hN, g1, hb1, hb6, g3, hlt, hw, hne, he]; (try refine ⟨by kernel_rfl, ?_⟩))
        | with_reducible refine xTwo_intro ?_ ?_
        | (with_reducible refine WP.cond' ?_; simp -implicitDefEqProofs [hP, hN, g1, hb1, hb6, g3, hlt, hw, hne, he])
        | (with_reducible refine xCond_split (fun hcd => ?_) (fun hcd => ?_) <;> (try (exfalso; clear hP hN; simp_all; done)) <;> (try (exfalso; simp at *; omega)))
        | with_reducible refine WP.block ?_
        | (with_reducible refine WP.skip ?_; simp [g1, hb1, hb6, g3, hlt, hw, hne, he])
        | (with_reducible refine WP.exit ?_; simp [g1, hb1, hb6, g3, hlt, hw, hne, he])
        | (with_reducible refine WP.ret ?_; simp [g1, hb1, hb6, g3, hlt, hw, hne, he]))
      all_goals simpa using err_step hlt hq he
    · have hne : (errJ js i js[i] != 0) = true := by simp [he]
      have hf := first_found hlt hq he
      repeat' (first
        | with_reducible refine WP.seq ?_
        | (with_reducible refine WP.region (hn := []) ?_; simp -implicitDefEqProofs [hP, hN, g1, hb1, hb6, g3, hlt, hw, hne, he])
        | (with_reducible refine WP.draw (hn := []) (by rw [hP]; kernel_rfl) (by kernel_rfl) ?_; simp -implicitDefEqProofs [hP, hN, g1, hb1, hb6, g3, hlt, hw, hne, he]; (try refine ⟨by kernel_rfl, ?_⟩))
        | (with_reducible refine xB_split (by simp [g1, hb1, hb6, g3, hlt, hw, hne, he]) (fun hgd => ?_) (fun hgd => ?_) <;> first | (exfalso; simp at hgd; done) | (exfalso; simp at hgd; omega) | simp -implicitDefEqProofs [hP, hN, g1, hb1, hb6, g3, hlt, hw, hne, he])
        | (with_reducible refine yB_split (by simp [g1, hb1, hb6, g3, hlt, hw, hne, he]) (fun hgd => ?_) (fun hgd => ?_) <;> first | (exfalso; simp at hgd; done) | (exfalso; simp at hgd; omega) | (simp -implicitDefEqProofs [hP, hN, g1, hb1, hb6, g3, hlt, hw, hne, he] <;> (try refine ⟨by kernel_rfl, ?_⟩)))
        | (with_reducible refine xC_intro (d187 js i hl hlt) ?_; simp -implicitDefEqProofs [hP, hN, g1, hb1, hb6, g3, hlt, hw, hne, he])
        | (with_reducible refine yC_intro (d187 js i hl hlt) ?_; simp -implicitDefEqProofs [hP, hN, g1, hb1, hb6, g3, hlt, hw, hne, he]; (try refine ⟨by kernel_rfl, ?_⟩))
        | with_reducible refine xTwo_intro ?_ ?_
        | (with_reducible refine WP.cond' ?_; simp -implicitDefEqProofs [hP, hN, g1, hb1, hb6, g3, hlt, hw, hne, he])
        | (with_reducible refine xCond_split (fun hcd => ?_) (fun hcd => ?_) <;> (try (exfalso; clear hP hN; simp_all; done)) <;> (try (exfalso; simp at *; omega)))
        | with_reducible refine WP.block ?_
        | (with_reducible refine WP.skip ?_; simp [g1, hb1, hb6, g3, hlt, hw, hne, he])
        | (with_reducible refine WP.exit ?_; simp [g1, hb1, hb6, g3, hlt, hw, hne, he])
        | (with_reducible refine WP.ret ?_; simp [g1, hb1, hb6, g3, hlt, hw, hne, he]))
      all_goals simp [hf, he]
  · have hf : firstE js = 0 := first_none (fun k x hx => hq k x (by have := (List.getElem?_eq_some_iff.1 hx).1; omega) hx)
    rw [hf]
    by_cases h32 : 32 < ms.length
    · have h32' : (32 : Int) < ms.length := by omega
      have hr' : r = 808 := by rw [← hr]; simp [h32]
      repeat' (first
        | with_reducible refine WP.seq ?_
        | (with_reducible refine WP.region (hn := []) ?_; simp -implicitDefEqProofs [hP, hN, g1, hb1, hb6, g3, hlt, h32, h32', hr'])
        | (with_reducible refine WP.draw (hn := []) (by rw [hP]; kernel_rfl) (by kernel_rfl) ?_; simp -implicitDefEqProofs [hP, hN, g1, hb1, hb6, g3, hlt, h32, h32', hr']; (try refine ⟨by kernel_rfl, ?_⟩))
        | (with_reducible refine xB_split (by simp [g1, hb1, hb6, g3, hlt, h32, h32', hr']) (fun hgd => ?_) (fun hgd => ?_) <;> first | (exfalso; simp at hgd; done) | (exfalso; simp at hgd; omega) | simp -implicitDefEqProofs [hP, hN, g1, hb1, hb6, g3, hlt, h32, h32', hr'])
        | (with_reducible refine yB_split (by simp [g1, hb1, hb6, g3, hlt, h32, h32', hr']) (fun hgd => ?_) (fun hgd => ?_) <;> first | (exfalso; simp at hgd; done) | (exfalso; simp at hgd; omega) | (simp -implicitDefEqProofs [hP, hN, g1, hb1, hb6, g3, hlt, h32, h32', hr'] <;> (try refine ⟨by kernel_rfl, ?_⟩)))
        | with_reducible refine xTwo_intro ?_ ?_
        | (with_reducible refine WP.cond' ?_; simp -implicitDefEqProofs [hP, hN, g1, hb1, hb6, g3, hlt, h32, h32', hr'])
        | (with_reducible refine xCond_split (fun hcd => ?_) (fun hcd => ?_) <;> (try (exfalso; clear hP hN; simp_all; done)) <;> (try (exfalso; simp at *; omega)))
        | with_reducible refine WP.block ?_
        | (with_reducible refine WP.skip ?_; simp [g1, hb1, hb6, g3, hlt, h32, h32', hr'])
        | (with_reducible refine WP.exit ?_; simp [g1, hb1, hb6, g3, hlt, h32, h32', hr'])
        | (with_reducible refine WP.ret ?_; simp [g1, hb1, hb6, g3, hlt, h32, h32', hr']))
    · have h32' : ¬ (32 : Int) < ms.length := by omega
      repeat' (first
        | with_reducible refine WP.seq ?_
        | (with_reducible refine WP.region (hn := []) ?_; simp -implicitDefEqProofs [hP, hN, g1, hb1, hb6, g3, hlt, h32, h32'])
        | (with_reducible refine WP.draw (hn := []) (by rw [hP]; kernel_rfl) (by kernel_rfl) ?_; simp -implicitDefEqProofs [hP, hN, g1, hb1, hb6, g3, hlt, h32, h32']; (try refine ⟨by kernel_rfl, ?_⟩))
        | (with_reducible refine xB_split (by simp [g1, hb1, hb6, g3, hlt, h32, h32']) (fun hgd => ?_) (fun hgd => ?_) <;> first | (exfalso; simp at hgd; done) | (exfalso; simp at hgd; omega) | simp -implicitDefEqProofs [hP, hN, g1, hb1, hb6, g3, hlt, h32, h32'])
        | (with_reducible refine yB_split (by simp [g1, hb1, hb6, g3, hlt, h32, h32']) (fun hgd => ?_) (fun hgd => ?_) <;> first | (exfalso; simp at hgd; done) | (exfalso; simp at hgd; omega) | (simp -implicitDefEqProofs [hP, hN, g1, hb1, hb6, g3, hlt, h32, h32'] <;> (try refine ⟨by kernel_rfl, ?_⟩)))
        | with_reducible refine xTwo_intro ?_ ?_
        | (with_reducible refine WP.cond' ?_; simp -implicitDefEqProofs [hP, hN, g1, hb1, hb6, g3, hlt, h32, h32'])
        | (with_reducible refine xCond_split (fun hcd => ?_) (fun hcd => ?_) <;> (try (exfalso; clear hP hN; simp_all; done)) <;> (try (exfalso; simp at *; omega)))
        | with_reducible refine WP.block ?_
        | (with_reducible refine WP.skip ?_; simp [g1, hb1, hb6, g3, hlt, h32, h32'])
        | (with_reducible refine WP.exit ?_; simp [g1, hb1, hb6, g3, hlt, h32, h32'])
        | (with_reducible refine WP.ret ?_; simp [g1, hb1, hb6, g3, hlt, h32, h32']))
      refine WP.loopN [6] ms.length (fun i st => st.t 1 = .ptr 1 0 ∧ st.h 1 = some (.box [.pv (.sl (js.map encJ)), .pv (.sl (ms.map encM))] true false) ∧ st.h 6 = none ∧ st.t 5 = .pv (Z i) ∧ ∀ k x, k < i → ms[k]? = some x → (!massOk js.length x) = false) (by simp [g1, hb1, hb6]) ?_
      clear g1 hb1 hb6 g3 hq
      rintro i st hi ⟨g1, hb1, hb6, g5, hq⟩
      by_cases hlt : i < ms.length
      · have hw := wr_succ hlt hm
        have hx := List.getElem?_eq_getElem hlt
        cases hok : massOk js.length ms[i] with
        | false =>
          have hany : (ms.any fun m => !massOk js.length m) = true := any_yes hlt (by simp [hok])
          have hr' : r = 808 := by rw [← hr, hany]; simp
          clear hr hany
          repeat' (first
            | with_reducible refine WP.seq ?_
            | (with_reducible refine WP.region (hn := []) ?_; simp -implicitDefEqProofs [hP, hN, g1, hb1, hb6, g5, hlt, hw, hr'])
            | (with_reducible refine WP.draw (hn := []) (by rw [hP]; kernel_rfl) (by kernel_rfl) ?_; simp -implicitDefEqProofs [hP, hN, g1, hb1, hb6, g5, hlt, hw, hr']; (try refine ⟨by kernel_rfl, ?_⟩))
            | (with_reducible refine xB_split (by simp [g1, hb1, hb6, g5, hlt, hw, hr']) (fun hgd => ?_) (fun hgd => ?_) <;> first | (exfalso; simp at hgd; done) | (exfalso; simp at hgd; omega) | simp -implicitDefEqProofs [hP, hN, g1, hb1, hb6, g5, hlt, hw, hr'])
            | (with_reducible refine yB_split (by simp [g1, hb1, hb6, g5, hlt, hw, hr']) (fun hgd => ?_) (fun hgd => ?_) <;> first | (exfalso; simp at hgd; done) | (exfalso; simp at hgd; omega) | (simp -implicitDefEqProofs [hP, hN, g1, hb1, hb6, g5, hlt, hw, hr'] <;> (try refine ⟨by kernel_rfl, ?_⟩)))
            | (with_reducible refine xC_intro (d189 _ _ _ _ (by decide) (by decide)) ?_; simp -implicitDefEqProofs [hP, hN, g1, hb1, hb6, g5, hlt, hw, hr'])
            | (with_reducible refine yC_intro (d189 _ _ _ _ (by decide) (by decide)) ?_; simp -implicitDefEqProofs [hP, hN, g1, hb1, hb6, g5, hlt, hw, hr']; (try refine ⟨by kernel_rfl, ?_⟩))
            | (with_reducible refine xC_intro (d188 _ _ _) ?_; simp -implicitDefEqProofs [hP, hN, g1, hb1, hb6, g5, hlt, hw, hr'])
            | (with_reducible refine yC_intro (d188 _ _ _) ?_; simp -implicitDefEqProofs [hP, hN, g1, hb1, hb6, g5, hlt, hw, hr']; (try refine ⟨by kernel_rfl, ?_⟩))
            | with_reducible refine xTwo_intro ?_ ?_
            | (with_reducible refine WP.cond' ?_; simp -implicitDefEqProofs [hP, hN, g1, hb1, hb6, g5, hlt, hw, hr'])
            | (with_reducible refine xCond_split (fun hcd => ?_) (fun hcd => ?_) <;> (try (exfalso; clear hP hN; simp_all; done)) <;> (try (exfalso; simp at *; omega)))
            | with_reducible refine WP.block ?_
            | (with_reducible refine WP.skip ?_; simp [g1, hb1, hb6, g5, hlt, hw, hr'])
            | (with_reducible refine WP.exit ?_; simp [g1, hb1, hb6, g5, hlt, hw, hr'])
            | (with_reducible refine WP.ret ?_; simp [g1, hb1, hb6, g5, hlt, hw, hr']))
          all_goals (exfalso; clear hq hP hN g1 hb1 hb6 g5 hw hr' hc0 hf; simp [massOk] at *; grind)
        | true =>
          have hst := prev_step (p := fun m => !massOk js.length m) hlt hq (by simp [hok])
          clear hr hq
          repeat' (first
            | with_reducible refine WP.seq ?_
            | (with_reducible refine WP.region (hn := []) ?_; simp -implicitDefEqProofs [hP, hN, g1, hb1, hb6, g5, hlt, hw])
            | (with_reducible refine WP.draw (hn := []) (by rw [hP]; kernel_rfl) (by kernel_rfl) ?_; simp -implicitDefEqProofs [hP, hN, g1, hb1, hb6, g5, hlt, hw]; (try refine ⟨by kernel_rfl, ?_⟩))
            | (with_reducible refine xB_split (by simp [g1, hb1, hb6, g5, hlt, hw]) (fun hgd => ?_) (fun hgd => ?_) <;> first | (exfalso; simp at hgd; done) | (exfalso; simp at hgd; omega) | simp -implicitDefEqProofs [hP, hN, g1, hb1, hb6, g5, hlt, hw])
            | (with_reducible refine yB_split (by simp [g1, hb1, hb6, g5, hlt, hw]) (fun hgd => ?_) (fun hgd => ?_) <;> first | (exfalso; simp at hgd; done) | (exfalso; simp at hgd; omega) | (simp -implicitDefEqProofs [hP, hN, g1, hb1, hb6, g5, hlt, hw] <;> (try refine ⟨by kernel_rfl, ?_⟩)))
            | (with_reducible refine xC_intro (d189 _ _ _ _ (by decide) (by decide)) ?_; simp -implicitDefEqProofs [hP, hN, g1, hb1, hb6, g5, hlt, hw])
            | (with_reducible refine yC_intro (d189 _ _ _ _ (by decide) (by decide)) ?_; simp -implicitDefEqProofs [hP, hN, g1, hb1, hb6, g5, hlt, hw]; (try refine ⟨by kernel_rfl, ?_⟩))
            | (with_reducible refine xC_intro (d188 _ _ _) ?_; simp -implicitDefEqProofs [hP, hN, g1, hb1, hb6, g5, hlt, hw])
            | (with_reducible refine yC_intro (d188 _ _ _) ?_; simp -implicitDefEqProofs [hP, hN, g1, hb1, hb6, g5, hlt, hw]; (try refine ⟨by kernel_rfl, ?_⟩))
            | with_reducible refine xTwo_intro ?_ ?_
            | (with_reducible refine WP.cond' ?_; simp -implicitDefEqProofs [hP, hN, g1, hb1, hb6, g5, hlt, hw])
            | (with_reducible refine xCond_split (fun hcd => ?_) (fun hcd => ?_) <;> (try (exfalso; clear hP hN; simp_all; done)) <;> (try (exfalso; simp at *; omega)))
            | with_reducible refine WP.block ?_
            | (with_reducible refine WP.skip ?_; simp [g1, hb1, hb6, g5, hlt, hw])
            | (with_reducible refine WP.exit ?_; simp [g1, hb1, hb6, g5, hlt, hw])
            | (with_reducible refine WP.ret ?_; simp [g1, hb1, hb6, g5, hlt, hw]))
          all_goals first | (simpa using hst) | (exfalso; clear hst hP hN g1 hb1 hb6 g5 hw hc0 hf; simp [massOk] at *; grind)
      · have hany : (ms.any fun m => !massOk js.length m) = false := any_no (fun k x hx => hq k x (by have := (List.getElem?_eq_some_iff.1 hx).1; omega) hx)
        have hr' : r = 0 := by rw [← hr, hany]; simp [h32]
        repeat' (first
          | with_reducible refine WP.seq ?_
          | (with_reducible refine WP.region (hn := []) ?_; simp -implicitDefEqProofs [hP, hN, g1, hb1, hb6, g5, hlt, hr'])
          | (with_reducible refine WP.draw (hn := []) (by rw [hP]; kernel_rfl) (by kernel_rfl) ?_; simp -implicitDefEqProofs [hP, hN, g1, hb1, hb6, g5, hlt, hr']; (try refine ⟨by kernel_rfl, ?_⟩))
          | (with_reducible refine xB_split (by simp [g1, hb1, hb6, g5, hlt, hr']) (fun hgd => ?_) (fun hgd => ?_) <;> first | (exfalso; simp at hgd; done) | (exfalso; simp at hgd; omega) | simp -implicitDefEqProofs [hP, hN, g1, hb1, hb6, g5, hlt, hr'])
          | (with_reducible refine yB_split (by simp [g1, hb1, hb6, g5, hlt, hr']) (fun hgd => ?_) (fun hgd => ?_) <;> first | (exfalso; simp at hgd; done) | (exfalso; simp at hgd; omega) | (simp -implicitDefEqProofs [hP, hN, g1, hb1, hb6, g5, hlt, hr'] <;> (try refine ⟨by kernel_rfl, ?_⟩)))
          | with_reducible refine xTwo_intro ?_ ?_
          | (with_reducible refine WP.cond' ?_; simp -implicitDefEqProofs [hP, hN, g1, hb1, hb6, g5, hlt, hr'])
          | (with_reducible refine xCond_split (fun hcd => ?_) (fun hcd => ?_) <;> (try (exfalso; clear hP hN; simp_all; done)) <;> (try (exfalso; simp at *; omega)))
          | with_reducible refine WP.block ?_
          | (with_reducible refine WP.skip ?_; simp [g1, hb1, hb6, g5, hlt, hr'])
          | (with_reducible refine WP.exit ?_; simp [g1, hb1, hb6, g5, hlt, hr'])
          | (with_reducible refine WP.ret ?_; simp [g1, hb1, hb6, g5, hlt, hr']))
end Go.Ab
