/- The plain law of ConfigReverse. -/
import Derived.Test.YtagmnknighofeaaPl1
set_option linter.all false
namespace Go.Ab
theorem cVal_range {l : List Int} {m : Nat} {lo hi : Int} (h1 : -1000000 ≤ lo) (h2 : lo ≤ hi) (h3 : hi ≤ 1000000) : lo ≤ cVal l m lo hi ∧ cVal l m lo hi ≤ hi := by
  have h := nx_range l (nn l m) (k := hi - lo + 1) (by omega) (by omega)
  unfold cVal
  split
  · omega
  · split
    · omega
    · rw [wr_id (by omega) (by omega)]; omega
theorem cfgL_mem {l : List Int} {js : List J} (hj : ∀ j ∈ js, jOk j) : ∀ x ∈ cfgL l js, -1000000 ≤ x ∧ x ≤ 1000000 := by
  intro x hx
  simp only [cfgL, List.mem_mapIdx] at hx
  obtain ⟨i, hi, rfl⟩ := hx
  have h := hj js[i] (List.getElem_mem hi)
  unfold jOk at h
  have := cVal_range (l := l) (m := cSt l i) h.1 h.2.1 h.2.2
  omega
theorem allSmall {xs : List Int} (h : ∀ x ∈ xs, -1000000 ≤ x ∧ x ≤ 1000000) : allB smallB xs = true := by
  rw [allB, List.all_eq_true]
  intro x hx
  have := h x hx
  simp [smallB]; omega
/-- What the laws know of the ends of a motion. -/
structure Mot (p q : List Int) (d i : Int) : Prop where
  len : p.length = q.length
  pos : 0 < p.length
  le : p.length ≤ 3
  sp : ∀ x ∈ p, -1000000 ≤ x ∧ x ≤ 1000000
  sq : ∀ x ∈ q, -1000000 ≤ x ∧ x ≤ 1000000
  d0 : 0 ≤ d
  d1 : d < 20
  i0 : 0 ≤ i
  i1 : i < 2 ^ d.toNat
theorem mot_mot (l m n : List Int) (depth index : Int) : Mot (cfgL m (rJs l 0)) (cfgL n (rJs l 0)) (motD depth) (motI depth index) := by
  obtain ⟨h1, h2, h3, h4, _⟩ := mot_facts depth index
  have hl := rJs_len l 0
  exact ⟨by simp [cfgL_len], by rw [cfgL_len]; omega, by rw [cfgL_len]; omega, cfgL_mem (rJs_ok l 0), cfgL_mem (rJs_ok l 0), h1, h2, h3, h4⟩
theorem Mot.flip {p q : List Int} {d i : Int} (h : Mot p q d i) : Mot q p d (2 ^ d.toNat - 1 - i) :=
  ⟨h.len.symm, by rw [← h.len]; exact h.pos, by rw [← h.len]; exact h.le, h.sq, h.sp, h.d0, h.d1, by have := h.i1; omega, by have := h.i0; omega⟩
theorem pow_le20 {d : Int} (h : d ≤ 20) : (2 : Int) ^ d.toNat ≤ 1048576 := by
  have hp : ∀ n : Nat, n ≤ 20 → (2 : Int) ^ n ≤ 1048576 := by decide
  exact hp _ (by omega)
theorem piece_of {p q : List Int} {d i : Int} (hl : p.length = q.length) (hp : ∀ x ∈ p, -1000000 ≤ x ∧ x ≤ 1000000) (hq : ∀ x ∈ q, -1000000 ≤ x ∧ x ≤ 1000000) (h0 : 0 ≤ d) (h1 : d ≤ 20) (hi : 0 ≤ i) (hi' : i < 2 ^ d.toNat) :
    pieceL p q d i = (List.zipWith (pieceP (2 ^ d.toNat) i) p q, true) := by
  have hm : motionB p q d = true := by simp [motionB, hl, allSmall hp, allSmall hq, h0, h1]
  have hb := pow_le20 h1
  rw [pieceL, hm]
  simp only [Bool.true_and, hi, hi', decide_true, if_true]
  refine Prod.ext ?_ rfl
  refine List.ext_getElem (by simp) (fun k h1 h2 => ?_)
  simp only [List.getElem_zipWith]
  have hk : k < p.length := by simp at h1; omega
  have hk' : k < q.length := by omega
  have a := hp _ (List.getElem_mem hk)
  have b := hq _ (List.getElem_mem hk')
  exact pieceI_eq hi (by omega) (by unfold small; omega) (by unfold small; omega)
theorem zipWith_swap {α β γ : Type} {f : α → β → γ} {g : β → α → γ} (h : ∀ a b, f a b = g b a) : ∀ (xs : List α) (ys : List β), List.zipWith f xs ys = List.zipWith g ys xs
  | [], [] => rfl
  | [], _ :: _ => rfl
  | _ :: _, [] => rfl
  | a :: xs, b :: ys => by simp [h, zipWith_swap h xs ys]
theorem same_refl {α : Type} [DecidableEq α] (xs : List α) : sameX xs xs = true := by simp [sameX, allZ_eq rfl]
theorem rev_true {p q : List Int} {d i : Int} (h : Mot p q d i) : revB p q d i = true := by
  have h' := h.flip
  rw [revB, piece_of h.len h.sp h.sq h.d0 (by have := h.d1; omega) h.i0 h.i1, piece_of h'.len h'.sp h'.sq h'.d0 (by have := h'.d1; omega) h'.i0 h'.i1]
  simp only [Bool.true_and]
  rw [zipWith_swap (f := pieceP (2 ^ d.toNat) i) (g := pieceP (2 ^ d.toNat) (2 ^ d.toNat - 1 - i)) (fun a b => pieceP_rev (pow_pos2 _)) p q]
  exact same_refl _
end Go.Ab
