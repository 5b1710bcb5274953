/- Plain facts: made trees. -/
import Derived.Test.YtagmnknighofeaaTrP
set_option linter.all false
namespace Go.Ab
open Go.Proofs
def labelV (k : Int) : Verd := if k = 1 ∨ k = 2 then ⟨2, [], 0, [1], [1]⟩ else if k = 3 then ⟨1, [(1, 0, 0)], 0, [], []⟩ else zeroV
theorem label_form (k : Int) : inFormB (labelV k) = true := by
  unfold labelV
  split
  · simp [inFormB]
  · split
    · simp [inFormB, emptyW]
    · exact zeroV_form
def rootS (l : List Int) : Nat → Nat
  | 0 => nn l 0
  | i + 1 => nn l (nn l (rootS l i))
theorem rootS_le (l : List Int) (i : Nat) : rootS l i ≤ 2 * i + 1 := by
  induction i with
  | zero => have := nn_le l 0; simp only [rootS]; omega
  | succ i ih => have := nn_le l (rootS l i); have := nn_le l (nn l (rootS l i)); simp only [rootS]; omega
def rootLo (l : List Int) (m : Nat) : Int := wr (nx l m 81 - 40)
def rootI (l : List Int) (m : Nat) : Int × Int := (rootLo l m, wr (rootLo l m + nx l (nn l m) 60))
theorem rootI_rng (l : List Int) (m : Nat) : -40 ≤ (rootI l m).1 ∧ (rootI l m).1 ≤ (rootI l m).2 ∧ (rootI l m).2 ≤ 100 ∧ (rootI l m).1 = nx l m 81 - 40 ∧ (rootI l m).2 = nx l m 81 - 40 + nx l (nn l m) 60 := by
  have h1 := nx_range l m (k := 81) (by decide) (by decide)
  have h2 := nx_range l (nn l m) (k := 60) (by decide) (by decide)
  have e : rootLo l m = nx l m 81 - 40 := wr_id (by omega) (by omega)
  have e2 : wr (rootLo l m + nx l (nn l m) 60) = rootLo l m + nx l (nn l m) 60 := wr_id (by omega) (by omega)
  have e3 : (rootI l m).1 = rootLo l m := rfl
  have e4 : (rootI l m).2 = rootLo l m + nx l (nn l m) 60 := e2
  rw [e3, e4]
  omega
def rootN (l : List Int) : Nat := (1 + nx l 0 3).toNat
def mkRoot (l : List Int) : List (Int × Int) := (List.range (rootN l)).map fun i => rootI l (rootS l i)
theorem rootN_rng (l : List Int) : 1 ≤ rootN l ∧ rootN l ≤ 3 ∧ (rootN l : Int) = 1 + nx l 0 3 := by
  have h1 := nx_range l 0 (k := 3) (by decide) (by decide)
  unfold rootN; omega
theorem mkRoot_len (l : List Int) : (mkRoot l).length = rootN l := by simp [mkRoot]
theorem mkRoot_mem {l : List Int} {x : Int × Int} (h : x ∈ mkRoot l) : -40 ≤ x.1 ∧ x.1 ≤ x.2 ∧ x.2 ≤ 100 := by
  simp only [mkRoot, List.mem_map] at h
  obtain ⟨i, _, rfl⟩ := h
  have := rootI_rng l (rootS l i)
  exact ⟨this.1, this.2.1, this.2.2.1⟩
theorem mkRoot_step {l : List Int} {i : Nat} (h : i < rootN l) : ((mkRoot l).map encI).take i ++ [encI (rootI l (rootS l i))] = ((mkRoot l).map encI).take (i + 1) := by
  rw [List.take_succ_eq_append_getElem (by simpa [mkRoot] using h)]; simp [mkRoot]
theorem mkRoot_ok (l : List Int) : rootOk (mkRoot l) = true := by
  have h := rootN_rng l
  simp only [rootOk, mkRoot_len, Bool.and_eq_true, decide_eq_true_eq]
  refine ⟨⟨h.1, by omega⟩, allV_iff.2 fun x hx => ?_⟩
  have := mkRoot_mem hx
  exact validB_iff.2 ⟨by omega, by omega, by omega⟩
def newT (r : List (Int × Int)) : Tr := if rootOk r then ⟨r, [leafC zeroV]⟩ else ⟨[], []⟩
theorem new_boxes {r : List (Int × Int)} (h : rootOk r = true) : boxesO ⟨r, [leafC zeroV]⟩ = some [some r] := by
  have hs : sizeOk ⟨r, [leafC zeroV]⟩ = true := by simp [sizeOk, h]
  rw [boxesO, if_pos hs]
  simp only [bInit, List.length_singleton, Nat.sub_self, List.replicate, bRun]
  rw [step_leaf (t := ⟨r, []⟩) (b := r) rfl (leafC_leaf _), if_pos (show inFormB (leafC zeroV).v = true from zeroV_form)]
theorem new_bad {r : List (Int × Int)} (h : rootOk r = false) : boxesO ⟨r, [leafC zeroV]⟩ = none := by
  have hs : sizeOk ⟨r, [leafC zeroV]⟩ = false := by simp [sizeOk, h]
  rw [boxesO, if_neg (by simp [hs])]
theorem new_valid (r : List (Int × Int)) : validT ⟨r, [leafC zeroV]⟩ = rootOk r := by
  cases h : rootOk r with
  | true => rw [validT, new_boxes h]; rfl
  | false => rw [validT, new_bad h]; rfl
def divI (t : Tr) (l : List Int) (m : Nat) : Nat := (leavesL t)[(nx l m (leavesL t).length).toNat]?.getD 0
def divJ (t : Tr) (l : List Int) (m : Nat) : Int := nx l (nn l m) t.root.length
def divS (t0 : Tr) (l : List Int) : Nat → Tr × Nat
  | 0 => (t0, 0)
  | k + 1 => (splitT (divS t0 l k).1 (divI (divS t0 l k).1 l (divS t0 l k).2) (divJ (divS t0 l k).1 l (divS t0 l k).2), nn l (nn l (divS t0 l k).2))
def setS (t0 : Tr) (m0 : Nat) (all : List Nat) (l : List Int) : Nat → Tr × Nat
  | 0 => (t0, m0)
  | k + 1 => (settleT (setS t0 m0 all l k).1 ((all[k]?.getD 0 : Nat) : Int) (labelV (nx l (setS t0 m0 all l k).2 5)), nn l (setS t0 m0 all l k).2)
def divT (t : Tr) (l : List Int) (times : Nat) : Tr := (setS (divS t l times).1 (divS t l times).2 (leavesL (divS t l times).1) l (leavesL (divS t l times).1).length).1
def mkTimes (l : List Int) : Int := nx l (rootS l (rootN l)) 14
def mkTree (l : List Int) : Tr := divT ⟨mkRoot l, [leafC zeroV]⟩ l (mkTimes l).toNat
theorem divS_ok {t0 : Tr} (l : List Int) (h : validT t0 = true) (k : Nat) : validT (divS t0 l k).1 = true ∧ (divS t0 l k).1.root = t0.root ∧ (divS t0 l k).1.cells.length ≤ t0.cells.length + 2 * k ∧ (divS t0 l k).2 ≤ 2 * k := by
  induction k with
  | zero => exact ⟨h, rfl, by simp [divS], by simp [divS]⟩
  | succ k ih =>
    obtain ⟨h1, h2, h3, h4⟩ := ih
    have := split_valid h1 (divI (divS t0 l k).1 l (divS t0 l k).2) (divJ (divS t0 l k).1 l (divS t0 l k).2)
    have n1 := nn_le l (divS t0 l k).2
    have n2 := nn_le l (nn l (divS t0 l k).2)
    simp only [divS]
    exact ⟨this.1, by rw [this.2.1]; exact h2, by omega, by omega⟩
theorem setS_ok {t0 : Tr} (m0 : Nat) (all : List Nat) (l : List Int) (h : validT t0 = true) (k : Nat) : validT (setS t0 m0 all l k).1 = true ∧ (setS t0 m0 all l k).1.root = t0.root ∧ (setS t0 m0 all l k).1.cells.length = t0.cells.length ∧ boxesL (setS t0 m0 all l k).1 = boxesL t0 ∧ (setS t0 m0 all l k).2 ≤ m0 + k := by
  induction k with
  | zero => exact ⟨h, rfl, rfl, rfl, by simp [setS]⟩
  | succ k ih =>
    obtain ⟨h1, h2, h3, h4, h5⟩ := ih
    have := settle_valid h1 ((all[k]?.getD 0 : Nat) : Int) (labelV (nx l (setS t0 m0 all l k).2 5))
    have n1 := nn_le l (setS t0 m0 all l k).2
    simp only [setS]
    exact ⟨this.1, by rw [this.2.1]; exact h2, by rw [this.2.2.1]; exact h3, by rw [this.2.2.2]; exact h4, by omega⟩
theorem mkTimes_rng (l : List Int) : 0 ≤ mkTimes l ∧ mkTimes l < 14 := nx_range l _ (by decide) (by decide)
/-- A made tree. -/
structure MTree (t : Tr) : Prop where
  valid : validT t = true
  pos : 1 ≤ t.root.length
  three : t.root.length ≤ 3
  rng : ∀ x ∈ t.root, -40 ≤ x.1 ∧ x.1 ≤ x.2 ∧ x.2 ≤ 100
  cells : t.cells.length ≤ 27
  one : 1 ≤ t.cells.length
theorem mkTree_ok (l : List Int) : MTree (mkTree l) := by
  have hv : validT ⟨mkRoot l, [leafC zeroV]⟩ = true := by rw [new_valid]; exact mkRoot_ok l
  have h1 := divS_ok l hv (mkTimes l).toNat
  have h2 := setS_ok (divS ⟨mkRoot l, [leafC zeroV]⟩ l (mkTimes l).toNat).2 (leavesL (divS ⟨mkRoot l, [leafC zeroV]⟩ l (mkTimes l).toNat).1) l h1.1 (leavesL (divS ⟨mkRoot l, [leafC zeroV]⟩ l (mkTimes l).toNat).1).length
  have hr := rootN_rng l
  have ht := mkTimes_rng l
  have hroot : (mkTree l).root = mkRoot l := by unfold mkTree divT; rw [h2.2.1, h1.2.1]
  have hlen : (mkTree l).cells.length ≤ 27 := by
    unfold mkTree divT; rw [h2.2.2.1]
    have := h1.2.2.1
    simp only [List.length_singleton] at this
    omega
  have hval : validT (mkTree l) = true := h2.1
  refine ⟨hval, ?_, ?_, ?_, hlen, (sizeOk_iff.1 (valid_size hval)).1⟩
  · rw [hroot, mkRoot_len]; exact hr.1
  · rw [hroot, mkRoot_len]; exact hr.2.1
  · rw [hroot]; exact fun x hx => mkRoot_mem hx
/-! configurations -/
def inC (l : List Int) (m : Nat) : Int := nx l m 5
def inV (l : List Int) (m : Nat) (x : Int × Int) : Int := if inC l m = 0 then x.1 else if inC l m = 1 then x.2 else if inC l m = 2 then midI x else x.1 + nx l (nn l m) (x.2 - x.1 + 1)
def inN (l : List Int) (m : Nat) : Nat := if inC l m = 0 then nn l m else if inC l m = 1 then nn l m else if inC l m = 2 then nn l m else nn l (nn l m)
def inS (l : List Int) : Nat → Nat
  | 0 => 0
  | i + 1 => inN l (inS l i)
theorem inS_le (l : List Int) (i : Nat) : inS l i ≤ 2 * i := by
  induction i with
  | zero => simp [inS]
  | succ i ih =>
    have h1 := nn_le l (inS l i); have h2 := nn_le l (nn l (inS l i))
    simp only [inS, inN]
    repeat' split
    all_goals omega
def inL (b : List (Int × Int)) (l : List Int) : List Int := b.mapIdx fun i x => inV l (inS l i) x
theorem inL_len (b : List (Int × Int)) (l : List Int) : (inL b l).length = b.length := by simp [inL]
theorem inL_step {l : List Int} {b : List (Int × Int)} {i : Nat} (hlt : i < b.length) : ((inL b l).map Z).take i ++ [Z (inV l (inS l i) b[i])] = ((inL b l).map Z).take (i + 1) := by
  rw [List.take_succ_eq_append_getElem (by simpa [inL] using hlt)]; simp [inL]
theorem inV_rng {l : List Int} {m : Nat} {x : Int × Int} (h : validB x.1 x.2 = true) : x.1 ≤ inV l m x ∧ inV l m x ≤ x.2 := by
  have hv := validB_iff.1 h
  have hm := mid_rng h
  have h2 := nx_range l (nn l m) (k := x.2 - x.1 + 1) (by omega) (by omega)
  unfold inV
  repeat' split
  all_goals omega
theorem inL_rng {b : List (Int × Int)} {l : List Int} (h : allB vI b = true) {i : Nat} (hi : i < b.length) : b[i].1 ≤ (inL b l)[i]'(by rw [inL_len]; exact hi) ∧ (inL b l)[i]'(by rw [inL_len]; exact hi) ≤ b[i].2 := by
  simp only [inL, List.getElem_mapIdx]
  exact inV_rng (allV_iff.1 h _ (List.getElem_mem hi))
end Go.Ab
