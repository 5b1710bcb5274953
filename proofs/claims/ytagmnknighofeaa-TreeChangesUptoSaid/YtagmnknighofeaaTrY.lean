/- Contracts: trees with a change in one place. -/
import Derived.Test.YtagmnknighofeaaTrW
set_option linter.all false
namespace Go.Ab
open Go.Proofs
attribute [local simp] slArr evSlice
structure Tiny (t : Tr) : Prop where
  r1 : 1 ≤ t.root.length
  r2 : t.root.length ≤ 100
  c1 : 1 ≤ t.cells.length
  c2 : t.cells.length ≤ 100
set_option maxRecDepth 10000 in
set_option maxHeartbeats 4000000 in
theorem alt0 (t : Tr) (how at_ x : Int) (k : Nat) (c : Cel) (hT : Tiny t) (hh : roundI how 8 = 0) (hk : roundI at_ (t.cells.length : Int) = k) (hlt : k < t.cells.length) (hc : t.cells[k] = c) (y : Int) (hy : roundI x 3 = y) : DetH Try.prog 22 [.pv (encT t), .pv (Z how), .pv (Z at_), .pv (Z x)] [] [] (.pv (encT ⟨t.root, t.cells.set k ⟨wr (c.joint + wr (y - 1)), c.low, c.high, c.v⟩⟩)) := by
  obtain ⟨r1, r2, n1, n2⟩ := hT
  have c1 := d35 at_ (t.cells.length : Int) (by omega)
  have c2 := d35 how 8 (by omega)
  rw [hk] at c1
  rw [hh] at c2
  have hci : t.cells[k]? = some c := by rw [List.getElem?_eq_getElem hlt, hc]
  have hw2 : IntKind.i64.wrap ((t.cells.length : Int) + 2) = (t.cells.length : Int) + 2 := wr_id (by omega) (by omega)
  have hwm : IntKind.i64.wrap ((t.cells.length : Int) - 1) = (t.cells.length : Int) - 1 := wr_id (by omega) (by omega)
  have hnm : ((t.cells.length : Int) - 1).toNat = t.cells.length - 1 := by omega
  have hn0 : (0 : Int) ≤ (t.cells.length : Int) - 1 := by omega
  have hn1 : (1 : Int) ≤ (t.cells.length : Int) := by omega
  refine detP_of Try.func22 rfl (by kernel_rfl) (by simp [Try.f22]) rfl ?_
  intro C hP hN
  simp only [Try.f22] at hN ⊢
  repeat' (first
    | with_reducible refine WP.seq ?_
    | (with_reducible ((first | refine WP.region (hn := []) ?_ | refine xC_intro (c1) ?_ | refine xC_intro (c2) ?_ | refine xC_intro ((hy ▸ d35 x 3 (by decide))) ?_ | refine WP.cond' ?_); simp -implicitDefEqProofs (maxSteps := 2000000) [hP, hN, hlt, hci, hc, hw2, hwm, hnm, hn0, hn1, show t.root.length * 16 ≤ 140737488355328 by omega, show t.root.length ≤ 9223372036854775807 by omega, show t.cells.length * 112 ≤ 140737488355328 by omega, show t.cells.length ≤ 9223372036854775807 by omega, show (t.cells.length + 1) * 112 ≤ 140737488355328 by omega, show t.cells.length + 1 ≤ 9223372036854775807 by omega, hy]))
    | (with_reducible ((first | refine WP.draw (hn := []) (by rw [hP]; kernel_rfl) (by kernel_rfl) ?_ | refine yC_intro (c1) ?_ | refine yC_intro (c2) ?_ | refine yC_intro ((hy ▸ d35 x 3 (by decide))) ?_); simp -implicitDefEqProofs (maxSteps := 2000000) [hP, hN, hlt, hci, hc, hw2, hwm, hnm, hn0, hn1, show t.root.length * 16 ≤ 140737488355328 by omega, show t.root.length ≤ 9223372036854775807 by omega, show t.cells.length * 112 ≤ 140737488355328 by omega, show t.cells.length ≤ 9223372036854775807 by omega, show (t.cells.length + 1) * 112 ≤ 140737488355328 by omega, show t.cells.length + 1 ≤ 9223372036854775807 by omega, hy]; (try refine ⟨by kernel_rfl, ?_⟩)))
    | (with_reducible refine xB_split (by simp [hlt, hci, hc, hw2, hwm, hnm, hn0, hn1, show t.root.length * 16 ≤ 140737488355328 by omega, show t.root.length ≤ 9223372036854775807 by omega, show t.cells.length * 112 ≤ 140737488355328 by omega, show t.cells.length ≤ 9223372036854775807 by omega, show (t.cells.length + 1) * 112 ≤ 140737488355328 by omega, show t.cells.length + 1 ≤ 9223372036854775807 by omega, hy]) (fun hgd => ?_) (fun hgd => ?_) <;> first | (exfalso; simp at hgd; done) | (exfalso; simp at hgd; omega) | simp -implicitDefEqProofs (maxSteps := 2000000) [hP, hN, hlt, hci, hc, hw2, hwm, hnm, hn0, hn1, show t.root.length * 16 ≤ 140737488355328 by omega, show t.root.length ≤ 9223372036854775807 by omega, show t.cells.length * 112 ≤ 140737488355328 by omega, show t.cells.length ≤ 9223372036854775807 by omega, show (t.cells.length + 1) * 112 ≤ 140737488355328 by omega, show t.cells.length + 1 ≤ 9223372036854775807 by omega, hy])
    | (with_reducible refine yB_split (by simp [hlt, hci, hc, hw2, hwm, hnm, hn0, hn1, show t.root.length * 16 ≤ 140737488355328 by omega, show t.root.length ≤ 9223372036854775807 by omega, show t.cells.length * 112 ≤ 140737488355328 by omega, show t.cells.length ≤ 9223372036854775807 by omega, show (t.cells.length + 1) * 112 ≤ 140737488355328 by omega, show t.cells.length + 1 ≤ 9223372036854775807 by omega, hy]) (fun hgd => ?_) (fun hgd => ?_) <;> first | (exfalso; simp at hgd; done) | (exfalso; simp at hgd; omega) | (simp -implicitDefEqProofs (maxSteps := 2000000) [hP, hN, hlt, hci, hc, hw2, hwm, hnm, hn0, hn1, show t.root.length * 16 ≤ 140737488355328 by omega, show t.root.length ≤ 9223372036854775807 by omega, show t.cells.length * 112 ≤ 140737488355328 by omega, show t.cells.length ≤ 9223372036854775807 by omega, show (t.cells.length + 1) * 112 ≤ 140737488355328 by omega, show t.cells.length + 1 ≤ 9223372036854775807 by omega, hy] <;> (try refine ⟨by kernel_rfl, ?_⟩)))
    | with_reducible refine xTwo_intro ?_ ?_
    | (with_reducible refine xCond_split (fun hcd => ?_) (fun hcd => ?_) <;> (try (exfalso; clear hP hN; simp_all; done)) <;> (try (exfalso; simp at *; omega)))
    | with_reducible refine WP.block ?_
    | (with_reducible ((first | refine WP.skip ?_ | refine WP.exit ?_ | refine WP.ret ?_); simp [hlt, hci, hc, hw2, hwm, hnm, hn0, hn1, show t.root.length * 16 ≤ 140737488355328 by omega, show t.root.length ≤ 9223372036854775807 by omega, show t.cells.length * 112 ≤ 140737488355328 by omega, show t.cells.length ≤ 9223372036854775807 by omega, show (t.cells.length + 1) * 112 ≤ 140737488355328 by omega, show t.cells.length + 1 ≤ 9223372036854775807 by omega, hy])))
  all_goals first | (simp [List.map_set]; done) | skip
set_option maxRecDepth 10000 in
set_option maxHeartbeats 4000000 in
theorem alt1 (t : Tr) (how at_ x : Int) (k : Nat) (c : Cel) (hT : Tiny t) (hh : roundI how 8 = 1) (hk : roundI at_ (t.cells.length : Int) = k) (hlt : k < t.cells.length) (hc : t.cells[k] = c) (y : Int) (hy : roundI x ((t.cells.length : Int) + 2) = y) : DetH Try.prog 22 [.pv (encT t), .pv (Z how), .pv (Z at_), .pv (Z x)] [] [] (.pv (encT ⟨t.root, t.cells.set k ⟨c.joint, wr (y - 1), c.high, c.v⟩⟩)) := by
  obtain ⟨r1, r2, n1, n2⟩ := hT
  have c1 := d35 at_ (t.cells.length : Int) (by omega)
  have c2 := d35 how 8 (by omega)
  rw [hk] at c1
  rw [hh] at c2
  have hci : t.cells[k]? = some c := by rw [List.getElem?_eq_getElem hlt, hc]
  have hw2 : IntKind.i64.wrap ((t.cells.length : Int) + 2) = (t.cells.length : Int) + 2 := wr_id (by omega) (by omega)
  have hwm : IntKind.i64.wrap ((t.cells.length : Int) - 1) = (t.cells.length : Int) - 1 := wr_id (by omega) (by omega)
  have hnm : ((t.cells.length : Int) - 1).toNat = t.cells.length - 1 := by omega
  have hn0 : (0 : Int) ≤ (t.cells.length : Int) - 1 := by omega
  have hn1 : (1 : Int) ≤ (t.cells.length : Int) := by omega
  refine detP_of Try.func22 rfl (by kernel_rfl) (by simp [Try.f22]) rfl ?_
  intro C hP hN
  simp only [Try.f22] at hN ⊢
  repeat' (first
    | with_reducible refine WP.seq ?_
    | (with_reducible ((first | refine WP.region (hn := []) ?_ | refine xC_intro (c1) ?_ | refine xC_intro (c2) ?_ | refine xC_intro ((hy ▸ d35 x ((t.cells.length : Int) + 2) (by omega))) ?_ | refine WP.cond' ?_); simp -implicitDefEqProofs (maxSteps := 2000000) [hP, hN, hlt, hci, hc, hw2, hwm, hnm, hn0, hn1, show t.root.length * 16 ≤ 140737488355328 by omega, show t.root.length ≤ 9223372036854775807 by omega, show t.cells.length * 112 ≤ 140737488355328 by omega, show t.cells.length ≤ 9223372036854775807 by omega, show (t.cells.length + 1) * 112 ≤ 140737488355328 by omega, show t.cells.length + 1 ≤ 9223372036854775807 by omega, hy]))
    | (with_reducible ((first | refine WP.draw (hn := []) (by rw [hP]; kernel_rfl) (by kernel_rfl) ?_ | refine yC_intro (c1) ?_ | refine yC_intro (c2) ?_ | refine yC_intro ((hy ▸ d35 x ((t.cells.length : Int) + 2) (by omega))) ?_); simp -implicitDefEqProofs (maxSteps := 2000000) [hP, hN, hlt, hci, hc, hw2, hwm, hnm, hn0, hn1, show t.root.length * 16 ≤ 140737488355328 by omega, show t.root.length ≤ 9223372036854775807 by omega, show t.cells.length * 112 ≤ 140737488355328 by omega, show t.cells.length ≤ 9223372036854775807 by omega, show (t.cells.length + 1) * 112 ≤ 140737488355328 by omega, show t.cells.length + 1 ≤ 9223372036854775807 by omega, hy]; (try refine ⟨by kernel_rfl, ?_⟩)))
    | (with_reducible refine xB_split (by simp [hlt, hci, hc, hw2, hwm, hnm, hn0, hn1, show t.root.length * 16 ≤ 140737488355328 by omega, show t.root.length ≤ 9223372036854775807 by omega, show t.cells.length * 112 ≤ 140737488355328 by omega, show t.cells.length ≤ 9223372036854775807 by omega, show (t.cells.length + 1) * 112 ≤ 140737488355328 by omega, show t.cells.length + 1 ≤ 9223372036854775807 by omega, hy]) (fun hgd => ?_) (fun hgd => ?_) <;> first | (exfalso; simp at hgd; done) | (exfalso; simp at hgd; omega) | simp -implicitDefEqProofs (maxSteps := 2000000) [hP, hN, hlt, hci, hc, hw2, hwm, hnm, hn0, hn1, show t.root.length * 16 ≤ 140737488355328 by omega, show t.root.length ≤ 9223372036854775807 by omega, show t.cells.length * 112 ≤ 140737488355328 by omega, show t.cells.length ≤ 9223372036854775807 by omega, show (t.cells.length + 1) * 112 ≤ 140737488355328 by omega, show t.cells.length + 1 ≤ 9223372036854775807 by omega, hy])
    | (with_reducible refine yB_split (by simp [hlt, hci, hc, hw2, hwm, hnm, hn0, hn1, show t.root.length * 16 ≤ 140737488355328 by omega, show t.root.length ≤ 9223372036854775807 by omega, show t.cells.length * 112 ≤ 140737488355328 by omega, show t.cells.length ≤ 9223372036854775807 by omega, show (t.cells.length + 1) * 112 ≤ 140737488355328 by omega, show t.cells.length + 1 ≤ 9223372036854775807 by omega, hy]) (fun hgd => ?_) (fun hgd => ?_) <;> first | (exfalso; simp at hgd; done) | (exfalso; simp at hgd; omega) | (simp -implicitDefEqProofs (maxSteps := 2000000) [hP, hN, hlt, hci, hc, hw2, hwm, hnm, hn0, hn1, show t.root.length * 16 ≤ 140737488355328 by omega, show t.root.length ≤ 9223372036854775807 by omega, show t.cells.length * 112 ≤ 140737488355328 by omega, show t.cells.length ≤ 9223372036854775807 by omega, show (t.cells.length + 1) * 112 ≤ 140737488355328 by omega, show t.cells.length + 1 ≤ 9223372036854775807 by omega, hy] <;> (try refine ⟨by kernel_rfl, ?_⟩)))
    | with_reducible refine xTwo_intro ?_ ?_
    | (with_reducible refine xCond_split (fun hcd => ?_) (fun hcd => ?_) <;> (try (exfalso; clear hP hN; simp_all; done)) <;> (try (exfalso; simp at *; omega)))
    | with_reducible refine WP.block ?_
    | (with_reducible ((first | refine WP.skip ?_ | refine WP.exit ?_ | refine WP.ret ?_); simp [hlt, hci, hc, hw2, hwm, hnm, hn0, hn1, show t.root.length * 16 ≤ 140737488355328 by omega, show t.root.length ≤ 9223372036854775807 by omega, show t.cells.length * 112 ≤ 140737488355328 by omega, show t.cells.length ≤ 9223372036854775807 by omega, show (t.cells.length + 1) * 112 ≤ 140737488355328 by omega, show t.cells.length + 1 ≤ 9223372036854775807 by omega, hy])))
  all_goals first | (simp [List.map_set]; done) | skip
set_option maxRecDepth 10000 in
set_option maxHeartbeats 4000000 in
theorem alt2 (t : Tr) (how at_ x : Int) (k : Nat) (c : Cel) (hT : Tiny t) (hh : roundI how 8 = 2) (hk : roundI at_ (t.cells.length : Int) = k) (hlt : k < t.cells.length) (hc : t.cells[k] = c) (y : Int) (hy : roundI x ((t.cells.length : Int) + 2) = y) : DetH Try.prog 22 [.pv (encT t), .pv (Z how), .pv (Z at_), .pv (Z x)] [] [] (.pv (encT ⟨t.root, t.cells.set k ⟨c.joint, c.low, wr (y - 1), c.v⟩⟩)) := by
  obtain ⟨r1, r2, n1, n2⟩ := hT
  have c1 := d35 at_ (t.cells.length : Int) (by omega)
  have c2 := d35 how 8 (by omega)
  rw [hk] at c1
  rw [hh] at c2
  have hci : t.cells[k]? = some c := by rw [List.getElem?_eq_getElem hlt, hc]
  have hw2 : IntKind.i64.wrap ((t.cells.length : Int) + 2) = (t.cells.length : Int) + 2 := wr_id (by omega) (by omega)
  have hwm : IntKind.i64.wrap ((t.cells.length : Int) - 1) = (t.cells.length : Int) - 1 := wr_id (by omega) (by omega)
  have hnm : ((t.cells.length : Int) - 1).toNat = t.cells.length - 1 := by omega
  have hn0 : (0 : Int) ≤ (t.cells.length : Int) - 1 := by omega
  have hn1 : (1 : Int) ≤ (t.cells.length : Int) := by omega
  refine detP_of Try.func22 rfl (by kernel_rfl) (by simp [Try.f22]) rfl ?_
  intro C hP hN
  simp only [Try.f22] at hN ⊢
  repeat' (first
    | with_reducible refine WP.seq ?_
    | (with_reducible ((first | refine WP.region (hn := []) ?_ | refine xC_intro (c1) ?_ | refine xC_intro (c2) ?_ | refine xC_intro ((hy ▸ d35 x ((t.cells.length : Int) + 2) (by omega))) ?_ | refine WP.cond' ?_); simp -implicitDefEqProofs (maxSteps := 2000000) [hP, hN, hlt, hci, hc, hw2, hwm, hnm, hn0, hn1, show t.root.length * 16 ≤ 140737488355328 by omega, show t.root.length ≤ 9223372036854775807 by omega, show t.cells.length * 112 ≤ 140737488355328 by omega, show t.cells.length ≤ 9223372036854775807 by omega, show (t.cells.length + 1) * 112 ≤ 140737488355328 by omega, show t.cells.length + 1 ≤ 9223372036854775807 by omega, hy]))
    | (with_reducible ((first | refine WP.draw (hn := []) (by rw [hP]; kernel_rfl) (by kernel_rfl) ?_ | refine yC_intro (c1) ?_ | refine yC_intro (c2) ?_ | refine yC_intro ((hy ▸ d35 x ((t.cells.length : Int) + 2) (by omega))) ?_); simp -implicitDefEqProofs (maxSteps := 2000000) [hP, hN, hlt, hci, hc, hw2, hwm, hnm, hn0, hn1, show t.root.length * 16 ≤ 140737488355328 by omega, show t.root.length ≤ 9223372036854775807 by omega, show t.cells.length * 112 ≤ 140737488355328 by omega, show t.cells.length ≤ 9223372036854775807 by omega, show (t.cells.length + 1) * 112 ≤ 140737488355328 by omega, show t.cells.length + 1 ≤ 9223372036854775807 by omega, hy]; (try refine ⟨by kernel_rfl, ?_⟩)))
    | (with_reducible refine xB_split (by simp [hlt, hci, hc, hw2, hwm, hnm, hn0, hn1, show t.root.length * 16 ≤ 140737488355328 by omega, show t.root.length ≤ 9223372036854775807 by omega, show t.cells.length * 112 ≤ 140737488355328 by omega, show t.cells.length ≤ 9223372036854775807 by omega, show (t.cells.length + 1) * 112 ≤ 140737488355328 by omega, show t.cells.length + 1 ≤ 9223372036854775807 by omega, hy]) (fun hgd => ?_) (fun hgd => ?_) <;> first | (exfalso; simp at hgd; done) | (exfalso; simp at hgd; omega) | simp -implicitDefEqProofs (maxSteps := 2000000) [hP, hN, hlt, hci, hc, hw2, hwm, hnm, hn0, hn1, show t.root.length * 16 ≤ 140737488355328 by omega, show t.root.length ≤ 9223372036854775807 by omega, show t.cells.length * 112 ≤ 140737488355328 by omega, show t.cells.length ≤ 9223372036854775807 by omega, show (t.cells.length + 1) * 112 ≤ 140737488355328 by omega, show t.cells.length + 1 ≤ 9223372036854775807 by omega, hy])
    | (with_reducible refine yB_split (by simp [hlt, hci, hc, hw2, hwm, hnm, hn0, hn1, show t.root.length * 16 ≤ 140737488355328 by omega, show t.root.length ≤ 9223372036854775807 by omega, show t.cells.length * 112 ≤ 140737488355328 by omega, show t.cells.length ≤ 9223372036854775807 by omega, show (t.cells.length + 1) * 112 ≤ 140737488355328 by omega, show t.cells.length + 1 ≤ 9223372036854775807 by omega, hy]) (fun hgd => ?_) (fun hgd => ?_) <;> first | (exfalso; simp at hgd; done) | (exfalso; simp at hgd; omega) | (simp -implicitDefEqProofs (maxSteps := 2000000) [hP, hN, hlt, hci, hc, hw2, hwm, hnm, hn0, hn1, show t.root.length * 16 ≤ 140737488355328 by omega, show t.root.length ≤ 9223372036854775807 by omega, show t.cells.length * 112 ≤ 140737488355328 by omega, show t.cells.length ≤ 9223372036854775807 by omega, show (t.cells.length + 1) * 112 ≤ 140737488355328 by omega, show t.cells.length + 1 ≤ 9223372036854775807 by omega, hy] <;> (try refine ⟨by kernel_rfl, ?_⟩)))
    | with_reducible refine xTwo_intro ?_ ?_
    | (with_reducible refine xCond_split (fun hcd => ?_) (fun hcd => ?_) <;> (try (exfalso; clear hP hN; simp_all; done)) <;> (try (exfalso; simp at *; omega)))
    | with_reducible refine WP.block ?_
    | (with_reducible ((first | refine WP.skip ?_ | refine WP.exit ?_ | refine WP.ret ?_); simp [hlt, hci, hc, hw2, hwm, hnm, hn0, hn1, show t.root.length * 16 ≤ 140737488355328 by omega, show t.root.length ≤ 9223372036854775807 by omega, show t.cells.length * 112 ≤ 140737488355328 by omega, show t.cells.length ≤ 9223372036854775807 by omega, show (t.cells.length + 1) * 112 ≤ 140737488355328 by omega, show t.cells.length + 1 ≤ 9223372036854775807 by omega, hy])))
  all_goals first | (simp [List.map_set]; done) | skip
set_option maxRecDepth 10000 in
set_option maxHeartbeats 4000000 in
theorem alt3 (t : Tr) (how at_ x : Int) (k : Nat) (c : Cel) (hT : Tiny t) (hh : roundI how 8 = 3) (hk : roundI at_ (t.cells.length : Int) = k) (hlt : k < t.cells.length) (hc : t.cells[k] = c) (y z : Int) (hy : roundI x 4 = y) (hz : roundI x 5 = z) : DetH Try.prog 22 [.pv (encT t), .pv (Z how), .pv (Z at_), .pv (Z x)] [] [] (.pv (encT ⟨t.root, t.cells.set k ⟨c.joint, c.low, c.high, ⟨wr (z - 1), (labelV y).nor, (labelV y).pair, (labelV y).left, (labelV y).right⟩⟩⟩)) := by
  obtain ⟨r1, r2, n1, n2⟩ := hT
  have c1 := d35 at_ (t.cells.length : Int) (by omega)
  have c2 := d35 how 8 (by omega)
  rw [hk] at c1
  rw [hh] at c2
  have hci : t.cells[k]? = some c := by rw [List.getElem?_eq_getElem hlt, hc]
  have hw2 : IntKind.i64.wrap ((t.cells.length : Int) + 2) = (t.cells.length : Int) + 2 := wr_id (by omega) (by omega)
  have hwm : IntKind.i64.wrap ((t.cells.length : Int) - 1) = (t.cells.length : Int) - 1 := wr_id (by omega) (by omega)
  have hnm : ((t.cells.length : Int) - 1).toNat = t.cells.length - 1 := by omega
  have hn0 : (0 : Int) ≤ (t.cells.length : Int) - 1 := by omega
  have hn1 : (1 : Int) ≤ (t.cells.length : Int) := by omega
  refine detP_of Try.func22 rfl (by kernel_rfl) (by simp [Try.f22]) rfl ?_
  intro C hP hN
  simp only [Try.f22] at hN ⊢
  repeat' (first
    | with_reducible refine WP.seq ?_
    | (with_reducible ((first | refine WP.region (hn := []) ?_ | refine xC_intro (c1) ?_ | refine xC_intro (c2) ?_ | refine xC_intro ((hy ▸ d35 x 4 (by decide))) ?_ | refine xC_intro ((hz ▸ d35 x 5 (by decide))) ?_ | refine xC_intro (d37 y) ?_ | refine WP.cond' ?_); simp -implicitDefEqProofs (maxSteps := 2000000) [hP, hN, hlt, hci, hc, hw2, hwm, hnm, hn0, hn1, show t.root.length * 16 ≤ 140737488355328 by omega, show t.root.length ≤ 9223372036854775807 by omega, show t.cells.length * 112 ≤ 140737488355328 by omega, show t.cells.length ≤ 9223372036854775807 by omega, show (t.cells.length + 1) * 112 ≤ 140737488355328 by omega, show t.cells.length + 1 ≤ 9223372036854775807 by omega, hy, hz]))
    | (with_reducible ((first | refine WP.draw (hn := []) (by rw [hP]; kernel_rfl) (by kernel_rfl) ?_ | refine yC_intro (c1) ?_ | refine yC_intro (c2) ?_ | refine yC_intro ((hy ▸ d35 x 4 (by decide))) ?_ | refine yC_intro ((hz ▸ d35 x 5 (by decide))) ?_ | refine yC_intro (d37 y) ?_); simp -implicitDefEqProofs (maxSteps := 2000000) [hP, hN, hlt, hci, hc, hw2, hwm, hnm, hn0, hn1, show t.root.length * 16 ≤ 140737488355328 by omega, show t.root.length ≤ 9223372036854775807 by omega, show t.cells.length * 112 ≤ 140737488355328 by omega, show t.cells.length ≤ 9223372036854775807 by omega, show (t.cells.length + 1) * 112 ≤ 140737488355328 by omega, show t.cells.length + 1 ≤ 9223372036854775807 by omega, hy, hz]; (try refine ⟨by kernel_rfl, ?_⟩)))
    | (with_reducible refine xB_split (by simp [hlt, hci, hc, hw2, hwm, hnm, hn0, hn1, show t.root.length * 16 ≤ 140737488355328 by omega, show t.root.length ≤ 9223372036854775807 by omega, show t.cells.length * 112 ≤ 140737488355328 by omega, show t.cells.length ≤ 9223372036854775807 by omega, show (t.cells.length + 1) * 112 ≤ 140737488355328 by omega, show t.cells.length + 1 ≤ 9223372036854775807 by omega, hy, hz]) (fun hgd => ?_) (fun hgd => ?_) <;> first | (exfalso; simp at hgd; done) | (exfalso; simp at hgd; omega) | simp -implicitDefEqProofs (maxSteps := 2000000) [hP, hN, hlt, hci, hc, hw2, hwm, hnm, hn0, hn1, show t.root.length * 16 ≤ 140737488355328 by omega, show t.root.length ≤ 9223372036854775807 by omega, show t.cells.length * 112 ≤ 140737488355328 by omega, show t.cells.length ≤ 9223372036854775807 by omega, show (t.cells.length + 1) * 112 ≤ 140737488355328 by omega, show t.cells.length + 1 ≤ 9223372036854775807 by omega, hy, hz])
    | (with_reducible refine yB_split (by simp [hlt, hci, hc, hw2, hwm, hnm, hn0, hn1, show t.root.length * 16 ≤ 140737488355328 by omega, show t.root.length ≤ 9223372036854775807 by omega, show t.cells.length * 112 ≤ 140737488355328 by omega, show t.cells.length ≤ 9223372036854775807 by omega, show (t.cells.length + 1) * 112 ≤ 140737488355328 by omega, show t.cells.length + 1 ≤ 9223372036854775807 by omega, hy, hz]) (fun hgd => ?_) (fun hgd => ?_) <;> first | (exfalso; simp at hgd; done) | (exfalso; simp at hgd; omega) | (simp -implicitDefEqProofs (maxSteps := 2000000) [hP, hN, hlt, hci, hc, hw2, hwm, hnm, hn0, hn1, show t.root.length * 16 ≤ 140737488355328 by omega, show t.root.length ≤ 9223372036854775807 by omega, show t.cells.length * 112 ≤ 140737488355328 by omega, show t.cells.length ≤ 9223372036854775807 by omega, show (t.cells.length + 1) * 112 ≤ 140737488355328 by omega, show t.cells.length + 1 ≤ 9223372036854775807 by omega, hy, hz] <;> (try refine ⟨by kernel_rfl, ?_⟩)))
    | with_reducible refine xTwo_intro ?_ ?_
    | (with_reducible refine xCond_split (fun hcd => ?_) (fun hcd => ?_) <;> (try (exfalso; clear hP hN; simp_all; done)) <;> (try (exfalso; simp at *; omega)))
    | with_reducible refine WP.block ?_
    | (with_reducible ((first | refine WP.skip ?_ | refine WP.exit ?_ | refine WP.ret ?_); simp [hlt, hci, hc, hw2, hwm, hnm, hn0, hn1, show t.root.length * 16 ≤ 140737488355328 by omega, show t.root.length ≤ 9223372036854775807 by omega, show t.cells.length * 112 ≤ 140737488355328 by omega, show t.cells.length ≤ 9223372036854775807 by omega, show (t.cells.length + 1) * 112 ≤ 140737488355328 by omega, show t.cells.length + 1 ≤ 9223372036854775807 by omega, hy, hz])))
  all_goals first | (simp [List.map_set]; done) | skip
set_option maxRecDepth 10000 in
set_option maxHeartbeats 4000000 in
theorem alt4 (t : Tr) (how at_ x : Int) (k : Nat) (c : Cel) (hT : Tiny t) (hh : roundI how 8 = 4) (hk : roundI at_ (t.cells.length : Int) = k) (hlt : k < t.cells.length) (hc : t.cells[k] = c) (y : Int) (j : Nat) (r : Int × Int) (hy : roundI x 81 = y) (hj : roundI at_ (t.root.length : Int) = j) (jl : j < t.root.length) (hr : t.root[j] = r) : DetH Try.prog 22 [.pv (encT t), .pv (Z how), .pv (Z at_), .pv (Z x)] [] [] (.pv (encT ⟨t.root.set j (r.1, wr (r.2 + wr (y - 40))), t.cells⟩)) := by
  obtain ⟨r1, r2, n1, n2⟩ := hT
  have c1 := d35 at_ (t.cells.length : Int) (by omega)
  have c2 := d35 how 8 (by omega)
  rw [hk] at c1
  rw [hh] at c2
  have hci : t.cells[k]? = some c := by rw [List.getElem?_eq_getElem hlt, hc]
  have hw2 : IntKind.i64.wrap ((t.cells.length : Int) + 2) = (t.cells.length : Int) + 2 := wr_id (by omega) (by omega)
  have hwm : IntKind.i64.wrap ((t.cells.length : Int) - 1) = (t.cells.length : Int) - 1 := wr_id (by omega) (by omega)
  have hnm : ((t.cells.length : Int) - 1).toNat = t.cells.length - 1 := by omega
  have hn0 : (0 : Int) ≤ (t.cells.length : Int) - 1 := by omega
  have hn1 : (1 : Int) ≤ (t.cells.length : Int) := by omega
  refine detP_of Try.func22 rfl (by kernel_rfl) (by simp [Try.f22]) rfl ?_
  intro C hP hN
  simp only [Try.f22] at hN ⊢
  repeat' (first
    | with_reducible refine WP.seq ?_
    | (with_reducible ((first | refine WP.region (hn := []) ?_ | refine xC_intro (c1) ?_ | refine xC_intro (c2) ?_ | refine xC_intro ((hy ▸ d35 x 81 (by decide))) ?_ | refine xC_intro ((hj ▸ d35 at_ (t.root.length : Int) (by omega))) ?_ | refine WP.cond' ?_); simp -implicitDefEqProofs (maxSteps := 2000000) [hP, hN, hlt, hci, hc, hw2, hwm, hnm, hn0, hn1, show t.root.length * 16 ≤ 140737488355328 by omega, show t.root.length ≤ 9223372036854775807 by omega, show t.cells.length * 112 ≤ 140737488355328 by omega, show t.cells.length ≤ 9223372036854775807 by omega, show (t.cells.length + 1) * 112 ≤ 140737488355328 by omega, show t.cells.length + 1 ≤ 9223372036854775807 by omega, hy, jl, hr]))
    | (with_reducible ((first | refine WP.draw (hn := []) (by rw [hP]; kernel_rfl) (by kernel_rfl) ?_ | refine yC_intro (c1) ?_ | refine yC_intro (c2) ?_ | refine yC_intro ((hy ▸ d35 x 81 (by decide))) ?_ | refine yC_intro ((hj ▸ d35 at_ (t.root.length : Int) (by omega))) ?_); simp -implicitDefEqProofs (maxSteps := 2000000) [hP, hN, hlt, hci, hc, hw2, hwm, hnm, hn0, hn1, show t.root.length * 16 ≤ 140737488355328 by omega, show t.root.length ≤ 9223372036854775807 by omega, show t.cells.length * 112 ≤ 140737488355328 by omega, show t.cells.length ≤ 9223372036854775807 by omega, show (t.cells.length + 1) * 112 ≤ 140737488355328 by omega, show t.cells.length + 1 ≤ 9223372036854775807 by omega, hy, jl, hr]; (try refine ⟨by kernel_rfl, ?_⟩)))
    | (with_reducible refine xB_split (by simp [hlt, hci, hc, hw2, hwm, hnm, hn0, hn1, show t.root.length * 16 ≤ 140737488355328 by omega, show t.root.length ≤ 9223372036854775807 by omega, show t.cells.length * 112 ≤ 140737488355328 by omega, show t.cells.length ≤ 9223372036854775807 by omega, show (t.cells.length + 1) * 112 ≤ 140737488355328 by omega, show t.cells.length + 1 ≤ 9223372036854775807 by omega, hy, jl, hr]) (fun hgd => ?_) (fun hgd => ?_) <;> first | (exfalso; simp at hgd; done) | (exfalso; simp at hgd; omega) | simp -implicitDefEqProofs (maxSteps := 2000000) [hP, hN, hlt, hci, hc, hw2, hwm, hnm, hn0, hn1, show t.root.length * 16 ≤ 140737488355328 by omega, show t.root.length ≤ 9223372036854775807 by omega, show t.cells.length * 112 ≤ 140737488355328 by omega, show t.cells.length ≤ 9223372036854775807 by omega, show (t.cells.length + 1) * 112 ≤ 140737488355328 by omega, show t.cells.length + 1 ≤ 9223372036854775807 by omega, hy, jl, hr])
    | (with_reducible refine yB_split (by simp [hlt, hci, hc, hw2, hwm, hnm, hn0, hn1, show t.root.length * 16 ≤ 140737488355328 by omega, show t.root.length ≤ 9223372036854775807 by omega, show t.cells.length * 112 ≤ 140737488355328 by omega, show t.cells.length ≤ 9223372036854775807 by omega, show (t.cells.length + 1) * 112 ≤ 140737488355328 by omega, show t.cells.length + 1 ≤ 9223372036854775807 by omega, hy, jl, hr]) (fun hgd => ?_) (fun hgd => ?_) <;> first | (exfalso; simp at hgd; done) | (exfalso; simp at hgd; omega) | (simp -implicitDefEqProofs (maxSteps := 2000000) [hP, hN, hlt, hci, hc, hw2, hwm, hnm, hn0, hn1, show t.root.length * 16 ≤ 140737488355328 by omega, show t.root.length ≤ 9223372036854775807 by omega, show t.cells.length * 112 ≤ 140737488355328 by omega, show t.cells.length ≤ 9223372036854775807 by omega, show (t.cells.length + 1) * 112 ≤ 140737488355328 by omega, show t.cells.length + 1 ≤ 9223372036854775807 by omega, hy, jl, hr] <;> (try refine ⟨by kernel_rfl, ?_⟩)))
    | with_reducible refine xTwo_intro ?_ ?_
    | (with_reducible refine xCond_split (fun hcd => ?_) (fun hcd => ?_) <;> (try (exfalso; clear hP hN; simp_all; done)) <;> (try (exfalso; simp at *; omega)))
    | with_reducible refine WP.block ?_
    | (with_reducible ((first | refine WP.skip ?_ | refine WP.exit ?_ | refine WP.ret ?_); simp [hlt, hci, hc, hw2, hwm, hnm, hn0, hn1, show t.root.length * 16 ≤ 140737488355328 by omega, show t.root.length ≤ 9223372036854775807 by omega, show t.cells.length * 112 ≤ 140737488355328 by omega, show t.cells.length ≤ 9223372036854775807 by omega, show (t.cells.length + 1) * 112 ≤ 140737488355328 by omega, show t.cells.length + 1 ≤ 9223372036854775807 by omega, hy, jl, hr])))
  all_goals first | (simp [List.map_set]; done) | skip
set_option maxRecDepth 10000 in
set_option maxHeartbeats 4000000 in
theorem alt5 (t : Tr) (how at_ x : Int) (k : Nat) (c : Cel) (hT : Tiny t) (hh : roundI how 8 = 5) (hk : roundI at_ (t.cells.length : Int) = k) (hlt : k < t.cells.length) (hc : t.cells[k] = c) (hq : True) : DetH Try.prog 22 [.pv (encT t), .pv (Z how), .pv (Z at_), .pv (Z x)] [] [] (.pv (encT ⟨t.root, t.cells.take (t.cells.length - 1)⟩)) := by
  obtain ⟨r1, r2, n1, n2⟩ := hT
  have c1 := d35 at_ (t.cells.length : Int) (by omega)
  have c2 := d35 how 8 (by omega)
  rw [hk] at c1
  rw [hh] at c2
  have hci : t.cells[k]? = some c := by rw [List.getElem?_eq_getElem hlt, hc]
  have hw2 : IntKind.i64.wrap ((t.cells.length : Int) + 2) = (t.cells.length : Int) + 2 := wr_id (by omega) (by omega)
  have hwm : IntKind.i64.wrap ((t.cells.length : Int) - 1) = (t.cells.length : Int) - 1 := wr_id (by omega) (by omega)
  have hnm : ((t.cells.length : Int) - 1).toNat = t.cells.length - 1 := by omega
  have hn0 : (0 : Int) ≤ (t.cells.length : Int) - 1 := by omega
  have hn1 : (1 : Int) ≤ (t.cells.length : Int) := by omega
  refine detP_of Try.func22 rfl (by kernel_rfl) (by simp [Try.f22]) rfl ?_
  intro C hP hN
  simp only [Try.f22] at hN ⊢
  repeat' (first
    | with_reducible refine WP.seq ?_
    | (with_reducible ((first | refine WP.region (hn := []) ?_ | refine xC_intro (c1) ?_ | refine xC_intro (c2) ?_ | refine xC_intro (c1) ?_ | refine WP.cond' ?_); simp -implicitDefEqProofs (maxSteps := 2000000) [hP, hN, hlt, hci, hc, hw2, hwm, hnm, hn0, hn1, show t.root.length * 16 ≤ 140737488355328 by omega, show t.root.length ≤ 9223372036854775807 by omega, show t.cells.length * 112 ≤ 140737488355328 by omega, show t.cells.length ≤ 9223372036854775807 by omega, show (t.cells.length + 1) * 112 ≤ 140737488355328 by omega, show t.cells.length + 1 ≤ 9223372036854775807 by omega, hq]))
    | (with_reducible ((first | refine WP.draw (hn := []) (by rw [hP]; kernel_rfl) (by kernel_rfl) ?_ | refine yC_intro (c1) ?_ | refine yC_intro (c2) ?_ | refine yC_intro (c1) ?_); simp -implicitDefEqProofs (maxSteps := 2000000) [hP, hN, hlt, hci, hc, hw2, hwm, hnm, hn0, hn1, show t.root.length * 16 ≤ 140737488355328 by omega, show t.root.length ≤ 9223372036854775807 by omega, show t.cells.length * 112 ≤ 140737488355328 by omega, show t.cells.length ≤ 9223372036854775807 by omega, show (t.cells.length + 1) * 112 ≤ 140737488355328 by omega, show t.cells.length + 1 ≤ 9223372036854775807 by omega, hq]; (try refine ⟨by kernel_rfl, ?_⟩)))
    | (with_reducible refine xB_split (by simp [hlt, hci, hc, hw2, hwm, hnm, hn0, hn1, show t.root.length * 16 ≤ 140737488355328 by omega, show t.root.length ≤ 9223372036854775807 by omega, show t.cells.length * 112 ≤ 140737488355328 by omega, show t.cells.length ≤ 9223372036854775807 by omega, show (t.cells.length + 1) * 112 ≤ 140737488355328 by omega, show t.cells.length + 1 ≤ 9223372036854775807 by omega, hq]) (fun hgd => ?_) (fun hgd => ?_) <;> first | (exfalso; simp at hgd; done) | (exfalso; simp at hgd; omega) | simp -implicitDefEqProofs (maxSteps := 2000000) [hP, hN, hlt, hci, hc, hw2, hwm, hnm, hn0, hn1, show t.root.length * 16 ≤ 140737488355328 by omega, show t.root.length ≤ 9223372036854775807 by omega, show t.cells.length * 112 ≤ 140737488355328 by omega, show t.cells.length ≤ 9223372036854775807 by omega, show (t.cells.length + 1) * 112 ≤ 140737488355328 by omega, show t.cells.length + 1 ≤ 9223372036854775807 by omega, hq])
    | (with_reducible refine yB_split (by simp [hlt, hci, hc, hw2, hwm, hnm, hn0, hn1, show t.root.length * 16 ≤ 140737488355328 by omega, show t.root.length ≤ 9223372036854775807 by omega, show t.cells.length * 112 ≤ 140737488355328 by omega, show t.cells.length ≤ 9223372036854775807 by omega, show (t.cells.length + 1) * 112 ≤ 140737488355328 by omega, show t.cells.length + 1 ≤ 9223372036854775807 by omega, hq]) (fun hgd => ?_) (fun hgd => ?_) <;> first | (exfalso; simp at hgd; done) | (exfalso; simp at hgd; omega) | (simp -implicitDefEqProofs (maxSteps := 2000000) [hP, hN, hlt, hci, hc, hw2, hwm, hnm, hn0, hn1, show t.root.length * 16 ≤ 140737488355328 by omega, show t.root.length ≤ 9223372036854775807 by omega, show t.cells.length * 112 ≤ 140737488355328 by omega, show t.cells.length ≤ 9223372036854775807 by omega, show (t.cells.length + 1) * 112 ≤ 140737488355328 by omega, show t.cells.length + 1 ≤ 9223372036854775807 by omega, hq] <;> (try refine ⟨by kernel_rfl, ?_⟩)))
    | with_reducible refine xTwo_intro ?_ ?_
    | (with_reducible refine xCond_split (fun hcd => ?_) (fun hcd => ?_) <;> (try (exfalso; clear hP hN; simp_all; done)) <;> (try (exfalso; simp at *; omega)))
    | with_reducible refine WP.block ?_
    | (with_reducible ((first | refine WP.skip ?_ | refine WP.exit ?_ | refine WP.ret ?_); simp [hlt, hci, hc, hw2, hwm, hnm, hn0, hn1, show t.root.length * 16 ≤ 140737488355328 by omega, show t.root.length ≤ 9223372036854775807 by omega, show t.cells.length * 112 ≤ 140737488355328 by omega, show t.cells.length ≤ 9223372036854775807 by omega, show (t.cells.length + 1) * 112 ≤ 140737488355328 by omega, show t.cells.length + 1 ≤ 9223372036854775807 by omega, hq])))
  all_goals first | (simp [List.map_set]; done) | skip
set_option maxRecDepth 10000 in
set_option maxHeartbeats 4000000 in
theorem alt6 (t : Tr) (how at_ x : Int) (k : Nat) (c : Cel) (hT : Tiny t) (hh : roundI how 8 = 6) (hk : roundI at_ (t.cells.length : Int) = k) (hlt : k < t.cells.length) (hc : t.cells[k] = c) (hq : True) : DetH Try.prog 22 [.pv (encT t), .pv (Z how), .pv (Z at_), .pv (Z x)] [] [] (.pv (encT ⟨t.root, t.cells ++ [c]⟩)) := by
  obtain ⟨r1, r2, n1, n2⟩ := hT
  have c1 := d35 at_ (t.cells.length : Int) (by omega)
  have c2 := d35 how 8 (by omega)
  rw [hk] at c1
  rw [hh] at c2
  have hci : t.cells[k]? = some c := by rw [List.getElem?_eq_getElem hlt, hc]
  have hw2 : IntKind.i64.wrap ((t.cells.length : Int) + 2) = (t.cells.length : Int) + 2 := wr_id (by omega) (by omega)
  have hwm : IntKind.i64.wrap ((t.cells.length : Int) - 1) = (t.cells.length : Int) - 1 := wr_id (by omega) (by omega)
  have hnm : ((t.cells.length : Int) - 1).toNat = t.cells.length - 1 := by omega
  have hn0 : (0 : Int) ≤ (t.cells.length : Int) - 1 := by omega
  have hn1 : (1 : Int) ≤ (t.cells.length : Int) := by omega
  refine detP_of Try.func22 rfl (by kernel_rfl) (by simp [Try.f22]) rfl ?_
  intro C hP hN
  simp only [Try.f22] at hN ⊢
  repeat' (first
    | with_reducible refine WP.seq ?_
    | (with_reducible ((first | refine WP.region (hn := []) ?_ | refine xC_intro (c1) ?_ | refine xC_intro (c2) ?_ | refine xC_intro (c1) ?_ | refine WP.cond' ?_); simp -implicitDefEqProofs (maxSteps := 2000000) [hP, hN, hlt, hci, hc, hw2, hwm, hnm, hn0, hn1, show t.root.length * 16 ≤ 140737488355328 by omega, show t.root.length ≤ 9223372036854775807 by omega, show t.cells.length * 112 ≤ 140737488355328 by omega, show t.cells.length ≤ 9223372036854775807 by omega, show (t.cells.length + 1) * 112 ≤ 140737488355328 by omega, show t.cells.length + 1 ≤ 9223372036854775807 by omega, hq]))
    | (with_reducible ((first | refine WP.draw (hn := []) (by rw [hP]; kernel_rfl) (by kernel_rfl) ?_ | refine yC_intro (c1) ?_ | refine yC_intro (c2) ?_ | refine yC_intro (c1) ?_); simp -implicitDefEqProofs (maxSteps := 2000000) [hP, hN, hlt, hci, hc, hw2, hwm, hnm, hn0, hn1, show t.root.length * 16 ≤ 140737488355328 by omega, show t.root.length ≤ 9223372036854775807 by omega, show t.cells.length * 112 ≤ 140737488355328 by omega, show t.cells.length ≤ 9223372036854775807 by omega, show (t.cells.length + 1) * 112 ≤ 140737488355328 by omega, show t.cells.length + 1 ≤ 9223372036854775807 by omega, hq]; (try refine ⟨by kernel_rfl, ?_⟩)))
    | (with_reducible refine xB_split (by simp [hlt, hci, hc, hw2, hwm, hnm, hn0, hn1, show t.root.length * 16 ≤ 140737488355328 by omega, show t.root.length ≤ 9223372036854775807 by omega, show t.cells.length * 112 ≤ 140737488355328 by omega, show t.cells.length ≤ 9223372036854775807 by omega, show (t.cells.length + 1) * 112 ≤ 140737488355328 by omega, show t.cells.length + 1 ≤ 9223372036854775807 by omega, hq]) (fun hgd => ?_) (fun hgd => ?_) <;> first | (exfalso; simp at hgd; done) | (exfalso; simp at hgd; omega) | simp -implicitDefEqProofs (maxSteps := 2000000) [hP, hN, hlt, hci, hc, hw2, hwm, hnm, hn0, hn1, show t.root.length * 16 ≤ 140737488355328 by omega, show t.root.length ≤ 9223372036854775807 by omega, show t.cells.length * 112 ≤ 140737488355328 by omega, show t.cells.length ≤ 9223372036854775807 by omega, show (t.cells.length + 1) * 112 ≤ 140737488355328 by omega, show t.cells.length + 1 ≤ 9223372036854775807 by omega, hq])
    | (with_reducible refine yB_split (by simp [hlt, hci, hc, hw2, hwm, hnm, hn0, hn1, show t.root.length * 16 ≤ 140737488355328 by omega, show t.root.length ≤ 9223372036854775807 by omega, show t.cells.length * 112 ≤ 140737488355328 by omega, show t.cells.length ≤ 9223372036854775807 by omega, show (t.cells.length + 1) * 112 ≤ 140737488355328 by omega, show t.cells.length + 1 ≤ 9223372036854775807 by omega, hq]) (fun hgd => ?_) (fun hgd => ?_) <;> first | (exfalso; simp at hgd; done) | (exfalso; simp at hgd; omega) | (simp -implicitDefEqProofs (maxSteps := 2000000) [hP, hN, hlt, hci, hc, hw2, hwm, hnm, hn0, hn1, show t.root.length * 16 ≤ 140737488355328 by omega, show t.root.length ≤ 9223372036854775807 by omega, show t.cells.length * 112 ≤ 140737488355328 by omega, show t.cells.length ≤ 9223372036854775807 by omega, show (t.cells.length + 1) * 112 ≤ 140737488355328 by omega, show t.cells.length + 1 ≤ 9223372036854775807 by omega, hq] <;> (try refine ⟨by kernel_rfl, ?_⟩)))
    | with_reducible refine xTwo_intro ?_ ?_
    | (with_reducible refine xCond_split (fun hcd => ?_) (fun hcd => ?_) <;> (try (exfalso; clear hP hN; simp_all; done)) <;> (try (exfalso; simp at *; omega)))
    | with_reducible refine WP.block ?_
    | (with_reducible ((first | refine WP.skip ?_ | refine WP.exit ?_ | refine WP.ret ?_); simp [hlt, hci, hc, hw2, hwm, hnm, hn0, hn1, show t.root.length * 16 ≤ 140737488355328 by omega, show t.root.length ≤ 9223372036854775807 by omega, show t.cells.length * 112 ≤ 140737488355328 by omega, show t.cells.length ≤ 9223372036854775807 by omega, show (t.cells.length + 1) * 112 ≤ 140737488355328 by omega, show t.cells.length + 1 ≤ 9223372036854775807 by omega, hq])))
  all_goals first | (simp [List.map_set]; done) | skip
set_option maxRecDepth 10000 in
set_option maxHeartbeats 4000000 in
theorem alt7 (t : Tr) (how at_ x : Int) (k : Nat) (c : Cel) (hT : Tiny t) (hh : roundI how 8 = 7) (hk : roundI at_ (t.cells.length : Int) = k) (hlt : k < t.cells.length) (hc : t.cells[k] = c) (m : Nat) (d : Cel) (hm : roundI x (t.cells.length : Int) = m) (ml : m < t.cells.length) (hd : t.cells[m] = d) : DetH Try.prog 22 [.pv (encT t), .pv (Z how), .pv (Z at_), .pv (Z x)] [] [] (.pv (encT ⟨t.root, (t.cells.set k d).set m c⟩)) := by
  obtain ⟨r1, r2, n1, n2⟩ := hT
  have c1 := d35 at_ (t.cells.length : Int) (by omega)
  have c2 := d35 how 8 (by omega)
  rw [hk] at c1
  rw [hh] at c2
  have hci : t.cells[k]? = some c := by rw [List.getElem?_eq_getElem hlt, hc]
  have hw2 : IntKind.i64.wrap ((t.cells.length : Int) + 2) = (t.cells.length : Int) + 2 := wr_id (by omega) (by omega)
  have hwm : IntKind.i64.wrap ((t.cells.length : Int) - 1) = (t.cells.length : Int) - 1 := wr_id (by omega) (by omega)
  have hnm : ((t.cells.length : Int) - 1).toNat = t.cells.length - 1 := by omega
  have hn0 : (0 : Int) ≤ (t.cells.length : Int) - 1 := by omega
  have hn1 : (1 : Int) ≤ (t.cells.length : Int) := by omega
  refine detP_of Try.func22 rfl (by kernel_rfl) (by simp [Try.f22]) rfl ?_
  intro C hP hN
  simp only [Try.f22] at hN ⊢
  repeat' (first
    | with_reducible refine WP.seq ?_
    | (with_reducible ((first | refine WP.region (hn := []) ?_ | refine xC_intro (c1) ?_ | refine xC_intro (c2) ?_ | refine xC_intro ((hm ▸ d35 x (t.cells.length : Int) (by omega))) ?_ | refine WP.cond' ?_); simp -implicitDefEqProofs (maxSteps := 2000000) [hP, hN, hlt, hci, hc, hw2, hwm, hnm, hn0, hn1, show t.root.length * 16 ≤ 140737488355328 by omega, show t.root.length ≤ 9223372036854775807 by omega, show t.cells.length * 112 ≤ 140737488355328 by omega, show t.cells.length ≤ 9223372036854775807 by omega, show (t.cells.length + 1) * 112 ≤ 140737488355328 by omega, show t.cells.length + 1 ≤ 9223372036854775807 by omega, ml, hd, show t.cells[m]? = some d by rw [List.getElem?_eq_getElem ml, hd]]))
    | (with_reducible ((first | refine WP.draw (hn := []) (by rw [hP]; kernel_rfl) (by kernel_rfl) ?_ | refine yC_intro (c1) ?_ | refine yC_intro (c2) ?_ | refine yC_intro ((hm ▸ d35 x (t.cells.length : Int) (by omega))) ?_); simp -implicitDefEqProofs (maxSteps := 2000000) [hP, hN, hlt, hci, hc, hw2, hwm, hnm, hn0, hn1, show t.root.length * 16 ≤ 140737488355328 by omega, show t.root.length ≤ 9223372036854775807 by omega, show t.cells.length * 112 ≤ 140737488355328 by omega, show t.cells.length ≤ 9223372036854775807 by omega, show (t.cells.length + 1) * 112 ≤ 140737488355328 by omega, show t.cells.length + 1 ≤ 9223372036854775807 by omega, ml, hd, show t.cells[m]? = some d by rw [List.getElem?_eq_getElem ml, hd]]; (try refine ⟨by kernel_rfl, ?_⟩)))
    | (with_reducible refine xB_split (by simp [hlt, hci, hc, hw2, hwm, hnm, hn0, hn1, show t.root.length * 16 ≤ 140737488355328 by omega, show t.root.length ≤ 9223372036854775807 by omega, show t.cells.length * 112 ≤ 140737488355328 by omega, show t.cells.length ≤ 9223372036854775807 by omega, show (t.cells.length + 1) * 112 ≤ 140737488355328 by omega, show t.cells.length + 1 ≤ 9223372036854775807 by omega, ml, hd, show t.cells[m]? = some d by rw [List.getElem?_eq_getElem ml, hd]]) (fun hgd => ?_) (fun hgd => ?_) <;> first | (exfalso; simp at hgd; done) | (exfalso; simp at hgd; omega) | simp -implicitDefEqProofs (maxSteps := 2000000) [hP, hN, hlt, hci, hc, hw2, hwm, hnm, hn0, hn1, show t.root.length * 16 ≤ 140737488355328 by omega, show t.root.length ≤ 9223372036854775807 by omega, show t.cells.length * 112 ≤ 140737488355328 by omega, show t.cells.length ≤ 9223372036854775807 by omega, show (t.cells.length + 1) * 112 ≤ 140737488355328 by omega, show t.cells.length + 1 ≤ 9223372036854775807 by omega, ml, hd, show t.cells[m]? = some d by rw [List.getElem?_eq_getElem ml, hd]])
    | (with_reducible refine yB_split (by simp [hlt, hci, hc, hw2, hwm, hnm, hn0, hn1, show t.root.length * 16 ≤ 140737488355328 by omega, show t.root.length ≤ 9223372036854775807 by omega, show t.cells.length * 112 ≤ 140737488355328 by omega, show t.cells.length ≤ 9223372036854775807 by omega, show (t.cells.length + 1) * 112 ≤ 140737488355328 by omega, show t.cells.length + 1 ≤ 9223372036854775807 by omega, ml, hd, show t.cells[m]? = some d by rw [List.getElem?_eq_getElem ml, hd]]) (fun hgd => ?_) (fun hgd => ?_) <;> first | (exfalso; simp at hgd; done) | (exfalso; simp at hgd; omega) | (simp -implicitDefEqProofs (maxSteps := 2000000) [hP, hN, hlt, hci, hc, hw2, hwm, hnm, hn0, hn1, show t.root.length * 16 ≤ 140737488355328 by omega, show t.root.length ≤ 9223372036854775807 by omega, show t.cells.length * 112 ≤ 140737488355328 by omega, show t.cells.length ≤ 9223372036854775807 by omega, show (t.cells.length + 1) * 112 ≤ 140737488355328 by omega, show t.cells.length + 1 ≤ 9223372036854775807 by omega, ml, hd, show t.cells[m]? = some d by rw [List.getElem?_eq_getElem ml, hd]] <;> (try refine ⟨by kernel_rfl, ?_⟩)))
    | with_reducible refine xTwo_intro ?_ ?_
    | (with_reducible refine xCond_split (fun hcd => ?_) (fun hcd => ?_) <;> (try (exfalso; clear hP hN; simp_all; done)) <;> (try (exfalso; simp at *; omega)))
    | with_reducible refine WP.block ?_
    | (with_reducible ((first | refine WP.skip ?_ | refine WP.exit ?_ | refine WP.ret ?_); simp [hlt, hci, hc, hw2, hwm, hnm, hn0, hn1, show t.root.length * 16 ≤ 140737488355328 by omega, show t.root.length ≤ 9223372036854775807 by omega, show t.cells.length * 112 ≤ 140737488355328 by omega, show t.cells.length ≤ 9223372036854775807 by omega, show (t.cells.length + 1) * 112 ≤ 140737488355328 by omega, show t.cells.length + 1 ≤ 9223372036854775807 by omega, ml, hd, show t.cells[m]? = some d by rw [List.getElem?_eq_getElem ml, hd]])))
  all_goals first | (simp [List.map_set]; done) | skip
theorem rnd8 {i : Int} {n : Nat} (hn : 0 < n) (hm : n < 1000000) : ∃ k : Nat, roundI i n = (k : Int) ∧ k < n := rndNat hn hm
theorem altered_ok (t : Tr) (how at_ x : Int) (hT : Tiny t) : ∃ u, DetH Try.prog 22 [.pv (encT t), .pv (Z how), .pv (Z at_), .pv (Z x)] [] [] (.pv (encT u)) ∧ AltOk t u := by
  obtain ⟨w, hw, hwl⟩ := rndNat (i := how) (n := 8) (by decide) (by decide)
  have hT' := hT
  obtain ⟨r1, r2, n1, n2⟩ := hT'
  obtain ⟨k, hk, hlt⟩ := rndNat (i := at_) (n := t.cells.length) (by omega) (by omega)
  have hmem : t.cells[k] ∈ t.cells := List.getElem_mem hlt
  match w, hwl with
  | 0, _ => exact ⟨_, alt0 t how at_ x k _ hT hw hk hlt rfl _ rfl, AltOk.set fun h => h t.cells[k] hmem⟩
  | 1, _ => exact ⟨_, alt1 t how at_ x k _ hT hw hk hlt rfl _ rfl, AltOk.set fun h => h t.cells[k] hmem⟩
  | 2, _ => exact ⟨_, alt2 t how at_ x k _ hT hw hk hlt rfl _ rfl, AltOk.set fun h => h t.cells[k] hmem⟩
  | 3, _ => exact ⟨_, alt3 t how at_ x k _ hT hw hk hlt rfl _ _ rfl rfl, AltOk.set fun h => label_le _⟩
  | 4, _ =>
    obtain ⟨j, hj, jl⟩ := rndNat (i := at_) (n := t.root.length) (by omega) (by omega)
    exact ⟨_, alt4 t how at_ x k _ hT hw hk hlt rfl _ j _ rfl hj jl rfl, ⟨by simp, by simp, fun h => h⟩⟩
  | 5, _ => exact ⟨_, alt5 t how at_ x k _ hT hw hk hlt rfl trivial, ⟨rfl, by simp only [List.length_take]; omega, fun h c hc => h c (List.mem_of_mem_take hc)⟩⟩
  | 6, _ =>
    refine ⟨_, alt6 t how at_ x k _ hT hw hk hlt rfl trivial, ⟨rfl, by simp, fun h c hc => ?_⟩⟩
    rcases List.mem_append.1 hc with h' | h'
    · exact h c h'
    · simp at h'; subst h'; exact h _ hmem
  | 7, _ =>
    obtain ⟨m, hm, ml⟩ := rndNat (i := x) (n := t.cells.length) (by omega) (by omega)
    refine ⟨_, alt7 t how at_ x k _ hT hw hk hlt rfl m _ hm ml rfl, ⟨rfl, by simp, fun h c hc => ?_⟩⟩
    rcases List.mem_or_eq_of_mem_set hc with h' | rfl
    · rcases List.mem_or_eq_of_mem_set h' with h'' | rfl
      · exact h c h''
      · exact h _ (List.getElem_mem ml)
    · exact h _ hmem
end Go.Ab
