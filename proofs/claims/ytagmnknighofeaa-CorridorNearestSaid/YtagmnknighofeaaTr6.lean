/- Contracts: made trees and configurations. -/
import Derived.Test.YtagmnknighofeaaTr5
set_option linter.all false
namespace Go.Ab
open Go.Proofs
set_option maxHeartbeats 4000000 in
theorem d73 (l : List Int) : DetH Try.prog 73 [.bx 0] [srcP l 0] [srcP l (rootS l (rootN l))] (.pv (iv (mkRoot l))) := by
  have hr := rootN_rng l
  have hw0 : IntKind.i64.wrap (1 + nx l 0 3) = (rootN l : Int) := by rw [hr.2.2]; exact wr_id (by omega) (by omega)
  have cn := d75 l 0 3 (by decide) (by decide)
  refine detH_of Try.func73 rfl (by kernel_rfl) (by simp [Try.f73]) rfl (by intro i j h; rcases i with _ | _ | _ | i <;> simp_all) ?_
  intro C hP hN
  simp only [Try.f73] at hN ⊢
  repeat' (first
    | with_reducible refine WP.seq ?_
    | (with_reducible refine WP.region (hn := [3]) ?_; simp -implicitDefEqProofs [hP, hN, srcP, hw0])
    | (with_reducible refine WP.draw (hn := [3]) (by rw [hP]; kernel_rfl) (by kernel_rfl) ?_; simp -implicitDefEqProofs [hP, hN, srcP, hw0]; (try refine ⟨by kernel_rfl, ?_⟩))
    | (with_reducible refine xB_split (by simp [srcP, hw0]) (fun hgd => ?_) (fun hgd => ?_) <;> first | (exfalso; simp at hgd; done) | (exfalso; simp at hgd; omega) | simp -implicitDefEqProofs [hP, hN, srcP, hw0])
    | (with_reducible refine yB_split (by simp [srcP, hw0]) (fun hgd => ?_) (fun hgd => ?_) <;> first | (exfalso; simp at hgd; done) | (exfalso; simp at hgd; omega) | (simp -implicitDefEqProofs [hP, hN, srcP, hw0] <;> (try refine ⟨by kernel_rfl, ?_⟩)))
    | (with_reducible refine xC_intro (cn) ?_; simp -implicitDefEqProofs [hP, hN, srcP, hw0])
    | (with_reducible refine yC_intro (cn) ?_; simp -implicitDefEqProofs [hP, hN, srcP, hw0]; (try refine ⟨by kernel_rfl, ?_⟩))
    | with_reducible refine xTwo_intro ?_ ?_
    | (with_reducible refine WP.cond' ?_; simp -implicitDefEqProofs [hP, hN, srcP, hw0])
    | (with_reducible refine xCond_split (fun hcd => ?_) (fun hcd => ?_) <;> (try (exfalso; clear hP hN; simp_all; done)) <;> (try (exfalso; simp at *; omega)))
    | with_reducible refine WP.block ?_
    | (with_reducible refine WP.skip ?_; simp [srcP, hw0])
    | (with_reducible refine WP.exit ?_; simp [srcP, hw0])
    | (with_reducible refine WP.ret ?_; simp [srcP, hw0]))
  refine WP.loopN [] (rootN l) (fun i st => st.t 0 = .ptr (pk 0) 0 ∧ st.t 3 = .arr 3 i ∧ st.t 4 = .pv (Z ((rootN l : Int) - i)) ∧ st.h (pk 0) = some (.box [.pv (zs l), .pv (Z (rootS l i))] false false) ∧ st.h 3 = some (.row 46 2 (((mkRoot l).map encI).take i) 0)) (by simp [rootS]) ?_
  rintro i st hi ⟨g0, g3, g4, hb0, hb3⟩
  have hzT : min i (mkRoot l).length = i := by rw [mkRoot_len]; omega
  by_cases hlt : i < rootN l
  · have hlt' : (0 : Int) < (rootN l : Int) - i := by omega
    have hlt2 : (i : Int) < rootN l := by omega
    have hm := rootS_le l i
    have l1 := nn_le l (rootS l i)
    have cs : DetH Try.prog 145 [.bx 0, .pv (Z 40)] [srcP l (rootS l i)] [srcP l (nn l (rootS l i))] (.pv (Z (rootLo l (rootS l i)))) := d145 l (rootS l i) 40 (by decide) (by decide) (by omega)
    have cn := d75 l (nn l (rootS l i)) 60 (by decide) (by omega)
    have hs := mkRoot_step hlt
    have hw : IntKind.i64.wrap ((rootN l : Int) - i - 1) = (rootN l : Int) - ((i : Int) + 1) := by rw [show (rootN l : Int) - i - 1 = (rootN l : Int) - ((i : Int) + 1) by omega]; exact wr_id (by omega) (by omega)
    repeat' (first
      | with_reducible refine WP.seq ?_
      | (with_reducible refine WP.region (hn := []) ?_; simp -implicitDefEqProofs [hP, hN, srcP, g0, g3, g4, hb0, hb3, hlt, hlt', hlt2, hw, hzT, hs, show (i + 1) * 16 ≤ 140737488355328 by omega, show i + 1 ≤ 9223372036854775807 by omega])
      | (with_reducible refine WP.draw (hn := []) (by rw [hP]; kernel_rfl) (by kernel_rfl) ?_; simp -implicitDefEqProofs [hP, hN, srcP, g0, g3, g4, hb0, hb3, hlt, hlt', hlt2, hw, hzT, hs, show (i + 1) * 16 ≤ 140737488355328 by omega, show i + 1 ≤ 9223372036854775807 by omega]; (try refine ⟨by kernel_rfl, ?_⟩))
      | (with_reducible refine xB_split (by simp [srcP, g0, g3, g4, hb0, hb3, hlt, hlt', hlt2, hw, hzT, hs, show (i + 1) * 16 ≤ 140737488355328 by omega, show i + 1 ≤ 9223372036854775807 by omega]) (fun hgd => ?_) (fun hgd => ?_) <;> first | (exfalso; simp at hgd; done) | (exfalso; simp at hgd; omega) | simp -implicitDefEqProofs [hP, hN, srcP, g0, g3, g4, hb0, hb3, hlt, hlt', hlt2, hw, hzT, hs, show (i + 1) * 16 ≤ 140737488355328 by omega, show i + 1 ≤ 9223372036854775807 by omega])
      | (with_reducible refine yB_split (by simp [srcP, g0, g3, g4, hb0, hb3, hlt, hlt', hlt2, hw, hzT, hs, show (i + 1) * 16 ≤ 140737488355328 by omega, show i + 1 ≤ 9223372036854775807 by omega]) (fun hgd => ?_) (fun hgd => ?_) <;> first | (exfalso; simp at hgd; done) | (exfalso; simp at hgd; omega) | (simp -implicitDefEqProofs [hP, hN, srcP, g0, g3, g4, hb0, hb3, hlt, hlt', hlt2, hw, hzT, hs, show (i + 1) * 16 ≤ 140737488355328 by omega, show i + 1 ≤ 9223372036854775807 by omega] <;> (try refine ⟨by kernel_rfl, ?_⟩)))
      | (with_reducible refine xC_intro (cs) ?_; simp -implicitDefEqProofs [hP, hN, srcP, g0, g3, g4, hb0, hb3, hlt, hlt', hlt2, hw, hzT, hs, show (i + 1) * 16 ≤ 140737488355328 by omega, show i + 1 ≤ 9223372036854775807 by omega])
      | (with_reducible refine yC_intro (cs) ?_; simp -implicitDefEqProofs [hP, hN, srcP, g0, g3, g4, hb0, hb3, hlt, hlt', hlt2, hw, hzT, hs, show (i + 1) * 16 ≤ 140737488355328 by omega, show i + 1 ≤ 9223372036854775807 by omega]; (try refine ⟨by kernel_rfl, ?_⟩))
      | (with_reducible refine xC_intro (cn) ?_; simp -implicitDefEqProofs [hP, hN, srcP, g0, g3, g4, hb0, hb3, hlt, hlt', hlt2, hw, hzT, hs, show (i + 1) * 16 ≤ 140737488355328 by omega, show i + 1 ≤ 9223372036854775807 by omega])
      | (with_reducible refine yC_intro (cn) ?_; simp -implicitDefEqProofs [hP, hN, srcP, g0, g3, g4, hb0, hb3, hlt, hlt', hlt2, hw, hzT, hs, show (i + 1) * 16 ≤ 140737488355328 by omega, show i + 1 ≤ 9223372036854775807 by omega]; (try refine ⟨by kernel_rfl, ?_⟩))
      | with_reducible refine xTwo_intro ?_ ?_
      | (with_reducible refine WP.cond' ?_; simp -implicitDefEqProofs [hP, hN, srcP, g0, g3, g4, hb0, hb3, hlt, hlt', hlt2, hw, hzT, hs, show (i + 1) * 16 ≤ 140737488355328 by omega, show i + 1 ≤ 9223372036854775807 by omega])
      | (with_reducible refine xCond_split (fun hcd => ?_) (fun hcd => ?_) <;> (try (exfalso; clear hP hN; simp_all; done)) <;> (try (exfalso; simp at *; omega)))
      | with_reducible refine WP.block ?_
      | (with_reducible refine WP.skip ?_; simp [srcP, g0, g3, g4, hb0, hb3, hlt, hlt', hlt2, hw, hzT, hs, show (i + 1) * 16 ≤ 140737488355328 by omega, show i + 1 ≤ 9223372036854775807 by omega])
      | (with_reducible refine WP.exit ?_; simp [srcP, g0, g3, g4, hb0, hb3, hlt, hlt', hlt2, hw, hzT, hs, show (i + 1) * 16 ≤ 140737488355328 by omega, show i + 1 ≤ 9223372036854775807 by omega])
      | (with_reducible refine WP.ret ?_; simp [srcP, g0, g3, g4, hb0, hb3, hlt, hlt', hlt2, hw, hzT, hs, show (i + 1) * 16 ≤ 140737488355328 by omega, show i + 1 ≤ 9223372036854775807 by omega]))
    all_goals exact ⟨rfl, hs⟩
  · have hi' : i = rootN l := by omega
    subst hi'
    have hlt' : ¬ (0 : Int) < (rootN l : Int) - (rootN l : Int) := by omega
    have htk : ((mkRoot l).map encI).take (rootN l) = (mkRoot l).map encI := List.take_of_length_le (by simp [mkRoot_len])
    repeat' (first
      | with_reducible refine WP.seq ?_
      | (with_reducible refine WP.region (hn := []) ?_; simp -implicitDefEqProofs [hP, hN, g0, g3, g4, hb0, hb3, hlt', hzT, htk])
      | (with_reducible refine WP.draw (hn := []) (by rw [hP]; kernel_rfl) (by kernel_rfl) ?_; simp -implicitDefEqProofs [hP, hN, g0, g3, g4, hb0, hb3, hlt', hzT, htk]; (try refine ⟨by kernel_rfl, ?_⟩))
      | (with_reducible refine xB_split (by simp [g0, g3, g4, hb0, hb3, hlt', hzT, htk]) (fun hgd => ?_) (fun hgd => ?_) <;> first | (exfalso; simp at hgd; done) | (exfalso; simp at hgd; omega) | simp -implicitDefEqProofs [hP, hN, g0, g3, g4, hb0, hb3, hlt', hzT, htk])
      | (with_reducible refine yB_split (by simp [g0, g3, g4, hb0, hb3, hlt', hzT, htk]) (fun hgd => ?_) (fun hgd => ?_) <;> first | (exfalso; simp at hgd; done) | (exfalso; simp at hgd; omega) | (simp -implicitDefEqProofs [hP, hN, g0, g3, g4, hb0, hb3, hlt', hzT, htk] <;> (try refine ⟨by kernel_rfl, ?_⟩)))
      | with_reducible refine xTwo_intro ?_ ?_
      | (with_reducible refine WP.cond' ?_; simp -implicitDefEqProofs [hP, hN, g0, g3, g4, hb0, hb3, hlt', hzT, htk])
      | (with_reducible refine xCond_split (fun hcd => ?_) (fun hcd => ?_) <;> (try (exfalso; clear hP hN; simp_all; done)) <;> (try (exfalso; simp at *; omega)))
      | with_reducible refine WP.block ?_
      | (with_reducible refine WP.skip ?_; simp [g0, g3, g4, hb0, hb3, hlt', hzT, htk])
      | (with_reducible refine WP.exit ?_; simp [g0, g3, g4, hb0, hb3, hlt', hzT, htk])
      | (with_reducible refine WP.ret ?_; simp [g0, g3, g4, hb0, hb3, hlt', hzT, htk]))
    all_goals exact mkRoot_len l
theorem leavesL_len (t : Tr) : (leavesL t).length ≤ t.cells.length := by
  cases h : validT t with
  | true => simp only [leavesL, h, if_true]; exact leavesN_len _ _
  | false => simp [leavesL, h]
theorem divI_get {t : Tr} (hv : validT t = true) (l : List Int) (m : Nat) (hc : t.cells.length ≤ 2048) : 0 ≤ nx l m (leavesL t).length ∧ (leavesL t)[(nx l m (leavesL t).length).toNat]? = some (divI t l m) ∧ (nx l m (leavesL t).length).toNat < (leavesL t).length := by
  have hp := leavesL_pos hv
  have hle := leavesL_len t
  have hr := nx_range l m (k := ((leavesL t).length : Int)) (by omega) (by omega)
  have hlt : (nx l m (leavesL t).length).toNat < (leavesL t).length := by omega
  exact ⟨hr.1, by simp [divI, List.getElem?_eq_getElem hlt], hlt⟩
set_option maxRecDepth 10000 in
set_option maxHeartbeats 8000000 in
theorem d74 (t : Tr) (l : List Int) (n : Nat) (hn : n ≤ 100) (hv : validT t = true) (hc : t.cells.length ≤ 100) : DetH Try.prog 74 [.pv (encT t), .pv (zs l), .pv (Z n)] [] [] (.pv (encT (divT t l n))) := by
  have cf := d71 l
  have hz := sizeOk_iff.1 (valid_size hv)
  refine detP_of Try.func74 rfl (by kernel_rfl) (by simp [Try.f74]) rfl ?_
  intro C hP hN
  simp only [Try.f74] at hN ⊢
  repeat' (first
    | with_reducible refine WP.seq ?_
    | (with_reducible refine WP.region (hn := []) ?_; simp -implicitDefEqProofs [hP, hN, srcP])
    | (with_reducible refine WP.draw (hn := []) (by rw [hP]; kernel_rfl) (by kernel_rfl) ?_; simp -implicitDefEqProofs [hP, hN, srcP]; (try refine ⟨by kernel_rfl, ?_⟩))
    | (with_reducible refine xB_split (by simp [srcP]) (fun hgd => ?_) (fun hgd => ?_) <;> first | (exfalso; simp at hgd; done) | (exfalso; simp at hgd; omega) | simp -implicitDefEqProofs [hP, hN, srcP])
    | (with_reducible refine yB_split (by simp [srcP]) (fun hgd => ?_) (fun hgd => ?_) <;> first | (exfalso; simp at hgd; done) | (exfalso; simp at hgd; omega) | (simp -implicitDefEqProofs [hP, hN, srcP] <;> (try refine ⟨by kernel_rfl, ?_⟩)))
    | (with_reducible refine xC_intro (cf) ?_; simp -implicitDefEqProofs [hP, hN, srcP])
    | (with_reducible refine yC_intro (cf) ?_; simp -implicitDefEqProofs [hP, hN, srcP]; (try refine ⟨by kernel_rfl, ?_⟩))
    | with_reducible refine xTwo_intro ?_ ?_
    | (with_reducible refine WP.cond' ?_; simp -implicitDefEqProofs [hP, hN, srcP])
    | (with_reducible refine xCond_split (fun hcd => ?_) (fun hcd => ?_) <;> (try (exfalso; clear hP hN; simp_all; done)) <;> (try (exfalso; simp at *; omega)))
    | with_reducible refine WP.block ?_
    | (with_reducible refine WP.skip ?_; simp [srcP])
    | (with_reducible refine WP.exit ?_; simp [srcP])
    | (with_reducible refine WP.ret ?_; simp [srcP]))
  refine WP.loopN [] n (fun i st => st.t 2 = .pv (Z n) ∧ st.t 3 = .ptr 3 0 ∧ st.t 6 = .ptr 6 0 ∧ st.t 7 = .ptr 14 0 ∧ st.t 8 = .pv (Z i) ∧ st.h 3 = some (.box [.pv (iv (divS t l i).1.root), .pv (.sl ((divS t l i).1.cells.map encC))] true false) ∧ st.h 6 = some (.box [.pv (.val (.slice none 0 0)), .pv (.val (.slice none 0 0))] true false) ∧ st.h 14 = some (.box [.pv (zs l), .pv (Z (divS t l i).2)] true false)) (by simp [divS]) ?_
  rintro i st hi ⟨g2, g3, g6, g7, g8, hb3, hb6, hb14⟩
  obtain ⟨o1, o2, o3, o4⟩ := divS_ok l hv i
  by_cases hlt : i < n
  · have hw := wr_succ hlt (by omega)
    have hsu : divS t l (i + 1) = (splitT (divS t l i).1 (divI (divS t l i).1 l (divS t l i).2) (divJ (divS t l i).1 l (divS t l i).2), nn l (nn l (divS t l i).2)) := rfl
    generalize (divS t l i).1 = d at *
    generalize (divS t l i).2 = m at *
    obtain ⟨p1, p2, p3⟩ := divI_get o1 l m (by omega)
    have p2' := (List.getElem?_eq_some_iff.1 p2).2
    have l1 := nn_le l m
    have hlp := leavesL_pos o1
    have cl := d100 d (by omega)
    have c1 := d75 l m ((leavesL d).length : Int) (by omega) (by omega)
    have c2 := d75 l (nn l m) (d.root.length : Int) (by rw [o2]; omega) (by omega)
    have c3 := d89 d (divI d l m) (divJ d l m) (by omega)
    unfold divJ at c3 hsu
    repeat' (first
      | with_reducible refine WP.seq ?_
      | (with_reducible refine WP.region (hn := []) ?_; simp -implicitDefEqProofs [hP, hN, srcP, g2, g3, g6, g7, g8, hb3, hb6, hb14, hlt, hw, p1, p2, p2', p3])
      | (with_reducible refine WP.draw (hn := []) (by rw [hP]; kernel_rfl) (by kernel_rfl) ?_; simp -implicitDefEqProofs [hP, hN, srcP, g2, g3, g6, g7, g8, hb3, hb6, hb14, hlt, hw, p1, p2, p2', p3]; (try refine ⟨by kernel_rfl, ?_⟩))
      | (with_reducible refine xB_split (by simp [srcP, g2, g3, g6, g7, g8, hb3, hb6, hb14, hlt, hw, p1, p2, p2', p3]) (fun hgd => ?_) (fun hgd => ?_) <;> first | (exfalso; simp at hgd; done) | (exfalso; simp at hgd; omega) | simp -implicitDefEqProofs [hP, hN, srcP, g2, g3, g6, g7, g8, hb3, hb6, hb14, hlt, hw, p1, p2, p2', p3])
      | (with_reducible refine yB_split (by simp [srcP, g2, g3, g6, g7, g8, hb3, hb6, hb14, hlt, hw, p1, p2, p2', p3]) (fun hgd => ?_) (fun hgd => ?_) <;> first | (exfalso; simp at hgd; done) | (exfalso; simp at hgd; omega) | (simp -implicitDefEqProofs [hP, hN, srcP, g2, g3, g6, g7, g8, hb3, hb6, hb14, hlt, hw, p1, p2, p2', p3] <;> (try refine ⟨by kernel_rfl, ?_⟩)))
      | (with_reducible refine xC_intro (cl) ?_; simp -implicitDefEqProofs [hP, hN, srcP, g2, g3, g6, g7, g8, hb3, hb6, hb14, hlt, hw, p1, p2, p2', p3])
      | (with_reducible refine yC_intro (cl) ?_; simp -implicitDefEqProofs [hP, hN, srcP, g2, g3, g6, g7, g8, hb3, hb6, hb14, hlt, hw, p1, p2, p2', p3]; (try refine ⟨by kernel_rfl, ?_⟩))
      | (with_reducible refine xC_intro (c1) ?_; simp -implicitDefEqProofs [hP, hN, srcP, g2, g3, g6, g7, g8, hb3, hb6, hb14, hlt, hw, p1, p2, p2', p3])
      | (with_reducible refine yC_intro (c1) ?_; simp -implicitDefEqProofs [hP, hN, srcP, g2, g3, g6, g7, g8, hb3, hb6, hb14, hlt, hw, p1, p2, p2', p3]; (try refine ⟨by kernel_rfl, ?_⟩))
      | (with_reducible refine xC_intro (c2) ?_; simp -implicitDefEqProofs [hP, hN, srcP, g2, g3, g6, g7, g8, hb3, hb6, hb14, hlt, hw, p1, p2, p2', p3])
      | (with_reducible refine yC_intro (c2) ?_; simp -implicitDefEqProofs [hP, hN, srcP, g2, g3, g6, g7, g8, hb3, hb6, hb14, hlt, hw, p1, p2, p2', p3]; (try refine ⟨by kernel_rfl, ?_⟩))
      | (with_reducible refine xC_intro (c3) ?_; simp -implicitDefEqProofs [hP, hN, srcP, g2, g3, g6, g7, g8, hb3, hb6, hb14, hlt, hw, p1, p2, p2', p3])
      | (with_reducible refine yC_intro (c3) ?_; simp -implicitDefEqProofs [hP, hN, srcP, g2, g3, g6, g7, g8, hb3, hb6, hb14, hlt, hw, p1, p2, p2', p3]; (try refine ⟨by kernel_rfl, ?_⟩))
      | with_reducible refine xTwo_intro ?_ ?_
      | (with_reducible refine WP.cond' ?_; simp -implicitDefEqProofs [hP, hN, srcP, g2, g3, g6, g7, g8, hb3, hb6, hb14, hlt, hw, p1, p2, p2', p3])
      | (with_reducible refine xCond_split (fun hcd => ?_) (fun hcd => ?_) <;> (try (exfalso; clear hP hN; simp_all; done)) <;> (try (exfalso; simp at *; omega)))
      | with_reducible refine WP.block ?_
      | (with_reducible refine WP.skip ?_; simp [srcP, g2, g3, g6, g7, g8, hb3, hb6, hb14, hlt, hw, p1, p2, p2', p3])
      | (with_reducible refine WP.exit ?_; simp [srcP, g2, g3, g6, g7, g8, hb3, hb6, hb14, hlt, hw, p1, p2, p2', p3])
      | (with_reducible refine WP.ret ?_; simp [srcP, g2, g3, g6, g7, g8, hb3, hb6, hb14, hlt, hw, p1, p2, p2', p3]))
    all_goals simp [hsu]
  have hi' : i = n := by omega
  subst hi'
  have o5 : divT t l i = (setS (divS t l i).1 (divS t l i).2 (leavesL (divS t l i).1) l (leavesL (divS t l i).1).length).1 := rfl
  rw [o5]
  generalize (divS t l i).1 = d at *
  generalize (divS t l i).2 = m at *
  have cl := d100 d (by omega)
  have hle := leavesL_len d
  repeat' (first
    | with_reducible refine WP.seq ?_
    | (with_reducible refine WP.region (hn := []) ?_; simp -implicitDefEqProofs [hP, hN, g2, g3, g6, g7, g8, hb3, hb6, hb14, hlt])
    | (with_reducible refine WP.draw (hn := []) (by rw [hP]; kernel_rfl) (by kernel_rfl) ?_; simp -implicitDefEqProofs [hP, hN, g2, g3, g6, g7, g8, hb3, hb6, hb14, hlt]; (try refine ⟨by kernel_rfl, ?_⟩))
    | (with_reducible refine xB_split (by simp [g2, g3, g6, g7, g8, hb3, hb6, hb14, hlt]) (fun hgd => ?_) (fun hgd => ?_) <;> first | (exfalso; simp at hgd; done) | (exfalso; simp at hgd; omega) | simp -implicitDefEqProofs [hP, hN, g2, g3, g6, g7, g8, hb3, hb6, hb14, hlt])
    | (with_reducible refine yB_split (by simp [g2, g3, g6, g7, g8, hb3, hb6, hb14, hlt]) (fun hgd => ?_) (fun hgd => ?_) <;> first | (exfalso; simp at hgd; done) | (exfalso; simp at hgd; omega) | (simp -implicitDefEqProofs [hP, hN, g2, g3, g6, g7, g8, hb3, hb6, hb14, hlt] <;> (try refine ⟨by kernel_rfl, ?_⟩)))
    | (with_reducible refine xC_intro (cl) ?_; simp -implicitDefEqProofs [hP, hN, g2, g3, g6, g7, g8, hb3, hb6, hb14, hlt])
    | (with_reducible refine yC_intro (cl) ?_; simp -implicitDefEqProofs [hP, hN, g2, g3, g6, g7, g8, hb3, hb6, hb14, hlt]; (try refine ⟨by kernel_rfl, ?_⟩))
    | with_reducible refine xTwo_intro ?_ ?_
    | (with_reducible refine WP.cond' ?_; simp -implicitDefEqProofs [hP, hN, g2, g3, g6, g7, g8, hb3, hb6, hb14, hlt])
    | (with_reducible refine xCond_split (fun hcd => ?_) (fun hcd => ?_) <;> (try (exfalso; clear hP hN; simp_all; done)) <;> (try (exfalso; simp at *; omega)))
    | with_reducible refine WP.block ?_
    | (with_reducible refine WP.skip ?_; simp [g2, g3, g6, g7, g8, hb3, hb6, hb14, hlt])
    | (with_reducible refine WP.exit ?_; simp [g2, g3, g6, g7, g8, hb3, hb6, hb14, hlt])
    | (with_reducible refine WP.ret ?_; simp [g2, g3, g6, g7, g8, hb3, hb6, hb14, hlt]))
  generalize hall : leavesL d = all at *
  refine WP.loopN [] all.length (fun k st => st.t 3 = .ptr 3 0 ∧ st.t 6 = .ptr 6 0 ∧ st.t 7 = .ptr 14 0 ∧ st.t 11 = .pv (ns all) ∧ st.t 12 = .pv (Z k) ∧ st.h 3 = some (.box [.pv (iv (setS d m all l k).1.root), .pv (.sl ((setS d m all l k).1.cells.map encC))] true false) ∧ st.h 6 = some (.box [.pv (.val (.slice none 0 0)), .pv (.val (.slice none 0 0))] true false) ∧ st.h 14 = some (.box [.pv (zs l), .pv (Z (setS d m all l k).2)] true false)) (by simp [setS, g2, g3, g6, g7, g8, hb3, hb6, hb14]) ?_
  clear g2 g3 g6 g7 g8 hb3 hb6 hb14 st
  rintro k st hk ⟨g3, g6, g7, g11, g12, hb3, hb6, hb14⟩
  obtain ⟨q1, q2, q3, q4, q5⟩ := setS_ok m all l o1 k
  by_cases hkl : k < all.length
  · have hw := wr_succ hkl (by omega)
    have hsu : setS d m all l (k + 1) = (settleT (setS d m all l k).1 ((all[k]?.getD 0 : Nat) : Int) (labelV (nx l (setS d m all l k).2 5)), nn l (setS d m all l k).2) := rfl
    rw [List.getElem?_eq_getElem hkl, Option.getD_some] at hsu
    generalize (setS d m all l k).1 = u at *
    generalize (setS d m all l k).2 = r at *
    have c1 := d75 l r 5 (by decide) (by omega)
    have c2 := d37 (nx l r 5)
    have c3 := d90 u ((all[k] : Nat) : Int) (labelV (nx l r 5)) (by omega)
    repeat' (first
      | with_reducible refine WP.seq ?_
      | (with_reducible refine WP.region (hn := []) ?_; simp -implicitDefEqProofs [hP, hN, srcP, g3, g6, g7, g11, g12, hb3, hb6, hb14, hkl, hw])
      | (with_reducible refine WP.draw (hn := []) (by rw [hP]; kernel_rfl) (by kernel_rfl) ?_; simp -implicitDefEqProofs [hP, hN, srcP, g3, g6, g7, g11, g12, hb3, hb6, hb14, hkl, hw]; (try refine ⟨by kernel_rfl, ?_⟩))
      | (with_reducible refine xB_split (by simp [srcP, g3, g6, g7, g11, g12, hb3, hb6, hb14, hkl, hw]) (fun hgd => ?_) (fun hgd => ?_) <;> first | (exfalso; simp at hgd; done) | (exfalso; simp at hgd; omega) | simp -implicitDefEqProofs [hP, hN, srcP, g3, g6, g7, g11, g12, hb3, hb6, hb14, hkl, hw])
      | (with_reducible refine yB_split (by simp [srcP, g3, g6, g7, g11, g12, hb3, hb6, hb14, hkl, hw]) (fun hgd => ?_) (fun hgd => ?_) <;> first | (exfalso; simp at hgd; done) | (exfalso; simp at hgd; omega) | (simp -implicitDefEqProofs [hP, hN, srcP, g3, g6, g7, g11, g12, hb3, hb6, hb14, hkl, hw] <;> (try refine ⟨by kernel_rfl, ?_⟩)))
      | (with_reducible refine xC_intro (c1) ?_; simp -implicitDefEqProofs [hP, hN, srcP, g3, g6, g7, g11, g12, hb3, hb6, hb14, hkl, hw])
      | (with_reducible refine yC_intro (c1) ?_; simp -implicitDefEqProofs [hP, hN, srcP, g3, g6, g7, g11, g12, hb3, hb6, hb14, hkl, hw]; (try refine ⟨by kernel_rfl, ?_⟩))
      | (with_reducible refine xC_intro (c2) ?_; simp -implicitDefEqProofs [hP, hN, srcP, g3, g6, g7, g11, g12, hb3, hb6, hb14, hkl, hw])
      | (with_reducible refine yC_intro (c2) ?_; simp -implicitDefEqProofs [hP, hN, srcP, g3, g6, g7, g11, g12, hb3, hb6, hb14, hkl, hw]; (try refine ⟨by kernel_rfl, ?_⟩))
      | (with_reducible refine xC_intro (c3) ?_; simp -implicitDefEqProofs [hP, hN, srcP, g3, g6, g7, g11, g12, hb3, hb6, hb14, hkl, hw])
      | (with_reducible refine yC_intro (c3) ?_; simp -implicitDefEqProofs [hP, hN, srcP, g3, g6, g7, g11, g12, hb3, hb6, hb14, hkl, hw]; (try refine ⟨by kernel_rfl, ?_⟩))
      | with_reducible refine xTwo_intro ?_ ?_
      | (with_reducible refine WP.cond' ?_; simp -implicitDefEqProofs [hP, hN, srcP, g3, g6, g7, g11, g12, hb3, hb6, hb14, hkl, hw])
      | (with_reducible refine xCond_split (fun hcd => ?_) (fun hcd => ?_) <;> (try (exfalso; clear hP hN; simp_all; done)) <;> (try (exfalso; simp at *; omega)))
      | with_reducible refine WP.block ?_
      | (with_reducible refine WP.skip ?_; simp [srcP, g3, g6, g7, g11, g12, hb3, hb6, hb14, hkl, hw])
      | (with_reducible refine WP.exit ?_; simp [srcP, g3, g6, g7, g11, g12, hb3, hb6, hb14, hkl, hw])
      | (with_reducible refine WP.ret ?_; simp [srcP, g3, g6, g7, g11, g12, hb3, hb6, hb14, hkl, hw]))
    all_goals simp [hsu]
  · have hk' : k = all.length := by omega
    subst hk'
    repeat' (first
      | with_reducible refine WP.seq ?_
      | (with_reducible refine WP.region (hn := []) ?_; simp -implicitDefEqProofs [hP, hN, srcP, g3, g6, g7, g11, g12, hb3, hb6, hb14, hkl])
      | (with_reducible refine WP.draw (hn := []) (by rw [hP]; kernel_rfl) (by kernel_rfl) ?_; simp -implicitDefEqProofs [hP, hN, srcP, g3, g6, g7, g11, g12, hb3, hb6, hb14, hkl]; (try refine ⟨by kernel_rfl, ?_⟩))
      | (with_reducible refine xB_split (by simp [srcP, g3, g6, g7, g11, g12, hb3, hb6, hb14, hkl]) (fun hgd => ?_) (fun hgd => ?_) <;> first | (exfalso; simp at hgd; done) | (exfalso; simp at hgd; omega) | simp -implicitDefEqProofs [hP, hN, srcP, g3, g6, g7, g11, g12, hb3, hb6, hb14, hkl])
      | (with_reducible refine yB_split (by simp [srcP, g3, g6, g7, g11, g12, hb3, hb6, hb14, hkl]) (fun hgd => ?_) (fun hgd => ?_) <;> first | (exfalso; simp at hgd; done) | (exfalso; simp at hgd; omega) | (simp -implicitDefEqProofs [hP, hN, srcP, g3, g6, g7, g11, g12, hb3, hb6, hb14, hkl] <;> (try refine ⟨by kernel_rfl, ?_⟩)))
      | with_reducible refine xTwo_intro ?_ ?_
      | (with_reducible refine WP.cond' ?_; simp -implicitDefEqProofs [hP, hN, srcP, g3, g6, g7, g11, g12, hb3, hb6, hb14, hkl])
      | (with_reducible refine xCond_split (fun hcd => ?_) (fun hcd => ?_) <;> (try (exfalso; clear hP hN; simp_all; done)) <;> (try (exfalso; simp at *; omega)))
      | with_reducible refine WP.block ?_
      | (with_reducible refine WP.skip ?_; simp [srcP, g3, g6, g7, g11, g12, hb3, hb6, hb14, hkl])
      | (with_reducible refine WP.exit ?_; simp [srcP, g3, g6, g7, g11, g12, hb3, hb6, hb14, hkl])
      | (with_reducible refine WP.ret ?_; simp [srcP, g3, g6, g7, g11, g12, hb3, hb6, hb14, hkl]))
set_option maxHeartbeats 4000000 in
theorem d21 (l : List Int) : DetH Try.prog 21 [.pv (zs l)] [] [] (.pv (encT (mkTree l))) := by
  have cf := d71 l
  have cr := d73 l
  have cn := d72 (mkRoot l)
  have hro := mkRoot_ok l
  have e : newT (mkRoot l) = ⟨mkRoot l, [leafC zeroV]⟩ := by simp [newT, hro]
  rw [hro, e] at cn
  have hm := rootS_le l (rootN l)
  have hrn := rootN_rng l
  have c1 := d75 l (rootS l (rootN l)) 14 (by decide) (by omega)
  have ht := mkTimes_rng l
  have c2 := d74 ⟨mkRoot l, [leafC zeroV]⟩ l (mkTimes l).toNat (by omega) (by rw [new_valid]; exact hro) (by simp)
  have e2 : ((mkTimes l).toNat : Int) = nx l (rootS l (rootN l)) 14 := by rw [Int.toNat_of_nonneg ht.1]; rfl
  have e3 : divT ⟨mkRoot l, [leafC zeroV]⟩ l (mkTimes l).toNat = mkTree l := rfl
  rw [e2, e3] at c2
  clear e e2 e3
  generalize (⟨mkRoot l, [leafC zeroV]⟩ : Tr) = T at cn c2
  refine detP_of Try.func21 rfl (by kernel_rfl) (by simp [Try.f21]) rfl ?_
  intro C hP hN
  simp only [Try.f21] at hN ⊢
  repeat' (first
    | with_reducible refine WP.seq ?_
    | (with_reducible refine WP.region (hn := []) ?_; simp -implicitDefEqProofs [hP, hN, srcP])
    | (with_reducible refine WP.draw (hn := []) (by rw [hP]; kernel_rfl) (by kernel_rfl) ?_; simp -implicitDefEqProofs [hP, hN, srcP]; (try refine ⟨by kernel_rfl, ?_⟩))
    | (with_reducible refine xB_split (by simp [srcP]) (fun hgd => ?_) (fun hgd => ?_) <;> first | (exfalso; simp at hgd; done) | (exfalso; simp at hgd; omega) | simp -implicitDefEqProofs [hP, hN, srcP])
    | (with_reducible refine yB_split (by simp [srcP]) (fun hgd => ?_) (fun hgd => ?_) <;> first | (exfalso; simp at hgd; done) | (exfalso; simp at hgd; omega) | (simp -implicitDefEqProofs [hP, hN, srcP] <;> (try refine ⟨by kernel_rfl, ?_⟩)))
    | (with_reducible refine xC_intro (cf) ?_; simp -implicitDefEqProofs [hP, hN, srcP])
    | (with_reducible refine yC_intro (cf) ?_; simp -implicitDefEqProofs [hP, hN, srcP]; (try refine ⟨by kernel_rfl, ?_⟩))
    | (with_reducible refine xC_intro (cr) ?_; simp -implicitDefEqProofs [hP, hN, srcP])
    | (with_reducible refine yC_intro (cr) ?_; simp -implicitDefEqProofs [hP, hN, srcP]; (try refine ⟨by kernel_rfl, ?_⟩))
    | (with_reducible refine xC_intro (cn) ?_; simp -implicitDefEqProofs [hP, hN, srcP])
    | (with_reducible refine yC_intro (cn) ?_; simp -implicitDefEqProofs [hP, hN, srcP]; (try refine ⟨by kernel_rfl, ?_⟩))
    | (with_reducible refine xC_intro (c1) ?_; simp -implicitDefEqProofs [hP, hN, srcP])
    | (with_reducible refine yC_intro (c1) ?_; simp -implicitDefEqProofs [hP, hN, srcP]; (try refine ⟨by kernel_rfl, ?_⟩))
    | (with_reducible refine xC_intro (c2) ?_; simp -implicitDefEqProofs [hP, hN, srcP])
    | (with_reducible refine yC_intro (c2) ?_; simp -implicitDefEqProofs [hP, hN, srcP]; (try refine ⟨by kernel_rfl, ?_⟩))
    | with_reducible refine xTwo_intro ?_ ?_
    | (with_reducible refine WP.cond' ?_; simp -implicitDefEqProofs [hP, hN, srcP])
    | (with_reducible refine xCond_split (fun hcd => ?_) (fun hcd => ?_) <;> (try (exfalso; clear hP hN; simp_all; done)) <;> (try (exfalso; simp at *; omega)))
    | with_reducible refine WP.block ?_
    | (with_reducible refine WP.skip ?_; simp [srcP])
    | (with_reducible refine WP.exit ?_; simp [srcP])
    | (with_reducible refine WP.ret ?_; simp [srcP]))
set_option maxRecDepth 10000 in
set_option maxHeartbeats 8000000 in
theorem d26 (b : Bx) (l : List Int) (hb : b.length ≤ 1000) (hv : allB vI b = true) : DetH Try.prog 26 [.pv (iv b), .pv (zs l)] [] [] (.pv (zs (inL b l))) := by
  have cf := d71 l
  have cm := d46 b (by omega)
  have hmid : middleL b = b.map midI := by simp [middleL, hv]
  rw [hmid] at cm
  refine detP_of Try.func26 rfl (by kernel_rfl) (by simp [Try.f26]) rfl ?_
  intro C hP hN
  simp only [Try.f26] at hN ⊢
  repeat' (first
    | with_reducible refine WP.seq ?_
    | (with_reducible refine WP.region (hn := [6]) ?_; simp -implicitDefEqProofs [hP, hN, srcP])
    | (with_reducible refine WP.draw (hn := [6]) (by rw [hP]; kernel_rfl) (by kernel_rfl) ?_; simp -implicitDefEqProofs [hP, hN, srcP]; (try refine ⟨by kernel_rfl, ?_⟩))
    | (with_reducible refine xB_split (by simp [srcP]) (fun hgd => ?_) (fun hgd => ?_) <;> first | (exfalso; simp at hgd; done) | (exfalso; simp at hgd; omega) | simp -implicitDefEqProofs [hP, hN, srcP])
    | (with_reducible refine yB_split (by simp [srcP]) (fun hgd => ?_) (fun hgd => ?_) <;> first | (exfalso; simp at hgd; done) | (exfalso; simp at hgd; omega) | (simp -implicitDefEqProofs [hP, hN, srcP] <;> (try refine ⟨by kernel_rfl, ?_⟩)))
    | (with_reducible refine xC_intro (cf) ?_; simp -implicitDefEqProofs [hP, hN, srcP])
    | (with_reducible refine yC_intro (cf) ?_; simp -implicitDefEqProofs [hP, hN, srcP]; (try refine ⟨by kernel_rfl, ?_⟩))
    | with_reducible refine xTwo_intro ?_ ?_
    | (with_reducible refine WP.cond' ?_; simp -implicitDefEqProofs [hP, hN, srcP])
    | (with_reducible refine xCond_split (fun hcd => ?_) (fun hcd => ?_) <;> (try (exfalso; clear hP hN; simp_all; done)) <;> (try (exfalso; simp at *; omega)))
    | with_reducible refine WP.block ?_
    | (with_reducible refine WP.skip ?_; simp [srcP])
    | (with_reducible refine WP.exit ?_; simp [srcP])
    | (with_reducible refine WP.ret ?_; simp [srcP]))
  refine WP.loopN [] b.length (fun i st => st.t 0 = .pv (iv b) ∧ st.t 5 = .ptr 9 0 ∧ st.t 6 = .arr 6 i ∧ st.t 7 = .pv (Z i) ∧ st.h 9 = some (.box [.pv (zs l), .pv (Z (inS l i))] true false) ∧ st.h 6 = some (.row 2 1 (((inL b l).map Z).take i) 0) ∧ st.h 65 = none) (by simp [inS]) ?_
  rintro i st hi ⟨g0, g5, g6, g7, hb9, hb6, hb65⟩
  have hzT : min i (inL b l).length = i := by rw [inL_len]; omega
  by_cases hlt : i < b.length
  · have hw := wr_succ hlt (by omega)
    have hm := inS_le l i
    have l1 := nn_le l (inS l i)
    have hs := inL_step (l := l) hlt
    have hsn : inS l (i + 1) = inN l (inS l i) := rfl
    have hvx := validB_iff.1 (allV_iff.1 hv _ (List.getElem_mem hlt))
    have hr := nx_range l (inS l i) (k := 5) (by decide) (by decide)
    have hr2 := nx_range l (nn l (inS l i)) (k := b[i].2 - b[i].1 + 1) (by omega) (by omega)
    have c1 := d75 l (inS l i) 5 (by decide) (by omega)
    have c2 := d75 l (nn l (inS l i)) (b[i].2 - b[i].1 + 1) (by omega) (by omega)
    have w1 : IntKind.i64.wrap (b[i].2 - b[i].1) = b[i].2 - b[i].1 := wr_id (by omega) (by omega)
    have w2 : IntKind.i64.wrap (b[i].2 - b[i].1 + 1) = b[i].2 - b[i].1 + 1 := wr_id (by omega) (by omega)
    have w3 : IntKind.i64.wrap (b[i].1 + nx l (nn l (inS l i)) (b[i].2 - b[i].1 + 1)) = b[i].1 + nx l (nn l (inS l i)) (b[i].2 - b[i].1 + 1) := wr_id (by omega) (by omega)
    have hA : (i + 1) * 8 ≤ 140737488355328 := by omega
    have hA' : i + 1 ≤ 9223372036854775807 := by omega
    by_cases k0 : nx l (inS l i) 5 = 0
    · have e1 : inV l (inS l i) b[i] = b[i].1 := by simp [inV, inC, k0]
      have e2 : inN l (inS l i) = nn l (inS l i) := by simp [inN, inC, k0]
      rw [e1] at hs; rw [e2] at hsn; rw [k0] at c1
      repeat' (first
        | with_reducible refine WP.seq ?_
        | (with_reducible refine WP.region (hn := []) ?_; simp -implicitDefEqProofs [hP, hN, srcP, g0, g5, g6, g7, hb9, hb6, hb65, hlt, hw, hzT, hA, hA'])
        | (with_reducible refine WP.draw (hn := []) (by rw [hP]; kernel_rfl) (by kernel_rfl) ?_; simp -implicitDefEqProofs [hP, hN, srcP, g0, g5, g6, g7, hb9, hb6, hb65, hlt, hw, hzT, hA, hA']; (try refine ⟨by kernel_rfl, ?_⟩))
        | (with_reducible refine xB_split (by simp [srcP, g0, g5, g6, g7, hb9, hb6, hb65, hlt, hw, hzT, hA, hA']) (fun hgd => ?_) (fun hgd => ?_) <;> first | (exfalso; simp at hgd; done) | (exfalso; simp at hgd; omega) | simp -implicitDefEqProofs [hP, hN, srcP, g0, g5, g6, g7, hb9, hb6, hb65, hlt, hw, hzT, hA, hA'])
        | (with_reducible refine yB_split (by simp [srcP, g0, g5, g6, g7, hb9, hb6, hb65, hlt, hw, hzT, hA, hA']) (fun hgd => ?_) (fun hgd => ?_) <;> first | (exfalso; simp at hgd; done) | (exfalso; simp at hgd; omega) | (simp -implicitDefEqProofs [hP, hN, srcP, g0, g5, g6, g7, hb9, hb6, hb65, hlt, hw, hzT, hA, hA'] <;> (try refine ⟨by kernel_rfl, ?_⟩)))
        | (with_reducible refine xC_intro (c1) ?_; simp -implicitDefEqProofs [hP, hN, srcP, g0, g5, g6, g7, hb9, hb6, hb65, hlt, hw, hzT, hA, hA'])
        | (with_reducible refine yC_intro (c1) ?_; simp -implicitDefEqProofs [hP, hN, srcP, g0, g5, g6, g7, hb9, hb6, hb65, hlt, hw, hzT, hA, hA']; (try refine ⟨by kernel_rfl, ?_⟩))
        | with_reducible refine xTwo_intro ?_ ?_
        | (with_reducible refine WP.cond' ?_; simp -implicitDefEqProofs [hP, hN, srcP, g0, g5, g6, g7, hb9, hb6, hb65, hlt, hw, hzT, hA, hA'])
        | (with_reducible refine xCond_split (fun hcd => ?_) (fun hcd => ?_) <;> (try (exfalso; clear hP hN; simp_all; done)) <;> (try (exfalso; simp at *; omega)))
        | with_reducible refine WP.block ?_
        | (with_reducible refine WP.skip ?_; simp [srcP, g0, g5, g6, g7, hb9, hb6, hb65, hlt, hw, hzT, hA, hA'])
        | (with_reducible refine WP.exit ?_; simp [srcP, g0, g5, g6, g7, hb9, hb6, hb65, hlt, hw, hzT, hA, hA'])
        | (with_reducible refine WP.ret ?_; simp [srcP, g0, g5, g6, g7, hb9, hb6, hb65, hlt, hw, hzT, hA, hA']))
      all_goals exact ⟨by rw [hsn], hs⟩
    by_cases k1 : nx l (inS l i) 5 = 1
    · have e1 : inV l (inS l i) b[i] = b[i].2 := by simp [inV, inC, k1]
      have e2 : inN l (inS l i) = nn l (inS l i) := by simp [inN, inC, k1]
      rw [e1] at hs; rw [e2] at hsn; rw [k1] at c1
      repeat' (first
        | with_reducible refine WP.seq ?_
        | (with_reducible refine WP.region (hn := []) ?_; simp -implicitDefEqProofs [hP, hN, srcP, g0, g5, g6, g7, hb9, hb6, hb65, hlt, hw, hzT, hA, hA'])
        | (with_reducible refine WP.draw (hn := []) (by rw [hP]; kernel_rfl) (by kernel_rfl) ?_; simp -implicitDefEqProofs [hP, hN, srcP, g0, g5, g6, g7, hb9, hb6, hb65, hlt, hw, hzT, hA, hA']; (try refine ⟨by kernel_rfl, ?_⟩))
        | (with_reducible refine xB_split (by simp [srcP, g0, g5, g6, g7, hb9, hb6, hb65, hlt, hw, hzT, hA, hA']) (fun hgd => ?_) (fun hgd => ?_) <;> first | (exfalso; simp at hgd; done) | (exfalso; simp at hgd; omega) | simp -implicitDefEqProofs [hP, hN, srcP, g0, g5, g6, g7, hb9, hb6, hb65, hlt, hw, hzT, hA, hA'])
        | (with_reducible refine yB_split (by simp [srcP, g0, g5, g6, g7, hb9, hb6, hb65, hlt, hw, hzT, hA, hA']) (fun hgd => ?_) (fun hgd => ?_) <;> first | (exfalso; simp at hgd; done) | (exfalso; simp at hgd; omega) | (simp -implicitDefEqProofs [hP, hN, srcP, g0, g5, g6, g7, hb9, hb6, hb65, hlt, hw, hzT, hA, hA'] <;> (try refine ⟨by kernel_rfl, ?_⟩)))
        | (with_reducible refine xC_intro (c1) ?_; simp -implicitDefEqProofs [hP, hN, srcP, g0, g5, g6, g7, hb9, hb6, hb65, hlt, hw, hzT, hA, hA'])
        | (with_reducible refine yC_intro (c1) ?_; simp -implicitDefEqProofs [hP, hN, srcP, g0, g5, g6, g7, hb9, hb6, hb65, hlt, hw, hzT, hA, hA']; (try refine ⟨by kernel_rfl, ?_⟩))
        | with_reducible refine xTwo_intro ?_ ?_
        | (with_reducible refine WP.cond' ?_; simp -implicitDefEqProofs [hP, hN, srcP, g0, g5, g6, g7, hb9, hb6, hb65, hlt, hw, hzT, hA, hA'])
        | (with_reducible refine xCond_split (fun hcd => ?_) (fun hcd => ?_) <;> (try (exfalso; clear hP hN; simp_all; done)) <;> (try (exfalso; simp at *; omega)))
        | with_reducible refine WP.block ?_
        | (with_reducible refine WP.skip ?_; simp [srcP, g0, g5, g6, g7, hb9, hb6, hb65, hlt, hw, hzT, hA, hA'])
        | (with_reducible refine WP.exit ?_; simp [srcP, g0, g5, g6, g7, hb9, hb6, hb65, hlt, hw, hzT, hA, hA'])
        | (with_reducible refine WP.ret ?_; simp [srcP, g0, g5, g6, g7, hb9, hb6, hb65, hlt, hw, hzT, hA, hA']))
      all_goals exact ⟨by rw [hsn], hs⟩
    by_cases k2 : nx l (inS l i) 5 = 2
    · have e1 : inV l (inS l i) b[i] = midI b[i] := by simp [inV, inC, k2]
      have e2 : inN l (inS l i) = nn l (inS l i) := by simp [inN, inC, k2]
      rw [e1] at hs; rw [e2] at hsn; rw [k2] at c1
      repeat' (first
        | with_reducible refine WP.seq ?_
        | (with_reducible refine WP.region (hn := []) ?_; simp -implicitDefEqProofs [hP, hN, srcP, g0, g5, g6, g7, hb9, hb6, hb65, hlt, hw, hzT, hA, hA'])
        | (with_reducible refine WP.draw (hn := []) (by rw [hP]; kernel_rfl) (by kernel_rfl) ?_; simp -implicitDefEqProofs [hP, hN, srcP, g0, g5, g6, g7, hb9, hb6, hb65, hlt, hw, hzT, hA, hA']; (try refine ⟨by kernel_rfl, ?_⟩))
        | (with_reducible refine xB_split (by simp [srcP, g0, g5, g6, g7, hb9, hb6, hb65, hlt, hw, hzT, hA, hA']) (fun hgd => ?_) (fun hgd => ?_) <;> first | (exfalso; simp at hgd; done) | (exfalso; simp at hgd; omega) | simp -implicitDefEqProofs [hP, hN, srcP, g0, g5, g6, g7, hb9, hb6, hb65, hlt, hw, hzT, hA, hA'])
        | (with_reducible refine yB_split (by simp [srcP, g0, g5, g6, g7, hb9, hb6, hb65, hlt, hw, hzT, hA, hA']) (fun hgd => ?_) (fun hgd => ?_) <;> first | (exfalso; simp at hgd; done) | (exfalso; simp at hgd; omega) | (simp -implicitDefEqProofs [hP, hN, srcP, g0, g5, g6, g7, hb9, hb6, hb65, hlt, hw, hzT, hA, hA'] <;> (try refine ⟨by kernel_rfl, ?_⟩)))
        | (with_reducible refine xC_intro (c1) ?_; simp -implicitDefEqProofs [hP, hN, srcP, g0, g5, g6, g7, hb9, hb6, hb65, hlt, hw, hzT, hA, hA'])
        | (with_reducible refine yC_intro (c1) ?_; simp -implicitDefEqProofs [hP, hN, srcP, g0, g5, g6, g7, hb9, hb6, hb65, hlt, hw, hzT, hA, hA']; (try refine ⟨by kernel_rfl, ?_⟩))
        | (with_reducible refine xC_intro (cm) ?_; simp -implicitDefEqProofs [hP, hN, srcP, g0, g5, g6, g7, hb9, hb6, hb65, hlt, hw, hzT, hA, hA'])
        | (with_reducible refine yC_intro (cm) ?_; simp -implicitDefEqProofs [hP, hN, srcP, g0, g5, g6, g7, hb9, hb6, hb65, hlt, hw, hzT, hA, hA']; (try refine ⟨by kernel_rfl, ?_⟩))
        | with_reducible refine xTwo_intro ?_ ?_
        | (with_reducible refine WP.cond' ?_; simp -implicitDefEqProofs [hP, hN, srcP, g0, g5, g6, g7, hb9, hb6, hb65, hlt, hw, hzT, hA, hA'])
        | (with_reducible refine xCond_split (fun hcd => ?_) (fun hcd => ?_) <;> (try (exfalso; clear hP hN; simp_all; done)) <;> (try (exfalso; simp at *; omega)))
        | with_reducible refine WP.block ?_
        | (with_reducible refine WP.skip ?_; simp [srcP, g0, g5, g6, g7, hb9, hb6, hb65, hlt, hw, hzT, hA, hA'])
        | (with_reducible refine WP.exit ?_; simp [srcP, g0, g5, g6, g7, hb9, hb6, hb65, hlt, hw, hzT, hA, hA'])
        | (with_reducible refine WP.ret ?_; simp [srcP, g0, g5, g6, g7, hb9, hb6, hb65, hlt, hw, hzT, hA, hA']))
      all_goals exact ⟨by rw [hsn], hs⟩
    have e1 : inV l (inS l i) b[i] = b[i].1 + nx l (nn l (inS l i)) (b[i].2 - b[i].1 + 1) := by simp [inV, inC, k0, k1, k2]
    have e2 : inN l (inS l i) = nn l (nn l (inS l i)) := by simp [inN, inC, k0, k1, k2]
    have k0' : (nx l (inS l i) 5 == 0) = false := by simp [k0]
    have k1' : (nx l (inS l i) 5 == 1) = false := by simp [k1]
    have k2' : (nx l (inS l i) 5 == 2) = false := by simp [k2]
    rw [e1] at hs; rw [e2] at hsn
    repeat' (first
      | with_reducible refine WP.seq ?_
      | (with_reducible refine WP.region (hn := []) ?_; simp -implicitDefEqProofs [hP, hN, srcP, g0, g5, g6, g7, hb9, hb6, hb65, hlt, hw, hzT, hA, hA', k0', k1', k2', w1, w2, w3])
      | (with_reducible refine WP.draw (hn := []) (by rw [hP]; kernel_rfl) (by kernel_rfl) ?_; simp -implicitDefEqProofs [hP, hN, srcP, g0, g5, g6, g7, hb9, hb6, hb65, hlt, hw, hzT, hA, hA', k0', k1', k2', w1, w2, w3]; (try refine ⟨by kernel_rfl, ?_⟩))
      | (with_reducible refine xB_split (by simp [srcP, g0, g5, g6, g7, hb9, hb6, hb65, hlt, hw, hzT, hA, hA', k0', k1', k2', w1, w2, w3]) (fun hgd => ?_) (fun hgd => ?_) <;> first | (exfalso; simp at hgd; done) | (exfalso; simp at hgd; omega) | simp -implicitDefEqProofs [hP, hN, srcP, g0, g5, g6, g7, hb9, hb6, hb65, hlt, hw, hzT, hA, hA', k0', k1', k2', w1, w2, w3])
      | (with_reducible refine yB_split (by simp [srcP, g0, g5, g6, g7, hb9, hb6, hb65, hlt, hw, hzT, hA, hA', k0', k1', k2', w1, w2, w3]) (fun hgd => ?_) (fun hgd => ?_) <;> first | (exfalso; simp at hgd; done) | (exfalso; simp at hgd; omega) | (simp -implicitDefEqProofs [hP, hN, srcP, g0, g5, g6, g7, hb9, hb6, hb65, hlt, hw, hzT, hA, hA', k0', k1', k2', w1, w2, w3] <;> (try refine ⟨by kernel_rfl, ?_⟩)))
      | (with_reducible refine xC_intro (c1) ?_; simp -implicitDefEqProofs [hP, hN, srcP, g0, g5, g6, g7, hb9, hb6, hb65, hlt, hw, hzT, hA, hA', k0', k1', k2', w1, w2, w3])
      | (with_reducible refine yC_intro (c1) ?_; simp -implicitDefEqProofs [hP, hN, srcP, g0, g5, g6, g7, hb9, hb6, hb65, hlt, hw, hzT, hA, hA', k0', k1', k2', w1, w2, w3]; (try refine ⟨by kernel_rfl, ?_⟩))
      | (with_reducible refine xC_intro (c2) ?_; simp -implicitDefEqProofs [hP, hN, srcP, g0, g5, g6, g7, hb9, hb6, hb65, hlt, hw, hzT, hA, hA', k0', k1', k2', w1, w2, w3])
      | (with_reducible refine yC_intro (c2) ?_; simp -implicitDefEqProofs [hP, hN, srcP, g0, g5, g6, g7, hb9, hb6, hb65, hlt, hw, hzT, hA, hA', k0', k1', k2', w1, w2, w3]; (try refine ⟨by kernel_rfl, ?_⟩))
      | with_reducible refine xTwo_intro ?_ ?_
      | (with_reducible refine WP.cond' ?_; simp -implicitDefEqProofs [hP, hN, srcP, g0, g5, g6, g7, hb9, hb6, hb65, hlt, hw, hzT, hA, hA', k0', k1', k2', w1, w2, w3])
      | (with_reducible refine xCond_split (fun hcd => ?_) (fun hcd => ?_) <;> (try (exfalso; clear hP hN; simp_all; done)) <;> (try (exfalso; simp at *; omega)))
      | with_reducible refine WP.block ?_
      | (with_reducible refine WP.skip ?_; simp [srcP, g0, g5, g6, g7, hb9, hb6, hb65, hlt, hw, hzT, hA, hA', k0', k1', k2', w1, w2, w3])
      | (with_reducible refine WP.exit ?_; simp [srcP, g0, g5, g6, g7, hb9, hb6, hb65, hlt, hw, hzT, hA, hA', k0', k1', k2', w1, w2, w3])
      | (with_reducible refine WP.ret ?_; simp [srcP, g0, g5, g6, g7, hb9, hb6, hb65, hlt, hw, hzT, hA, hA', k0', k1', k2', w1, w2, w3]))
    all_goals exact ⟨by rw [hsn], hs⟩
  · have hi' : i = b.length := by omega
    subst hi'
    have htk : ((inL b l).map Z).take b.length = (inL b l).map Z := List.take_of_length_le (by simp [inL_len])
    repeat' (first
      | with_reducible refine WP.seq ?_
      | (with_reducible refine WP.region (hn := []) ?_; simp -implicitDefEqProofs [hP, hN, g0, g5, g6, g7, hb9, hb6, hb65, hlt, hzT, htk])
      | (with_reducible refine WP.draw (hn := []) (by rw [hP]; kernel_rfl) (by kernel_rfl) ?_; simp -implicitDefEqProofs [hP, hN, g0, g5, g6, g7, hb9, hb6, hb65, hlt, hzT, htk]; (try refine ⟨by kernel_rfl, ?_⟩))
      | (with_reducible refine xB_split (by simp [g0, g5, g6, g7, hb9, hb6, hb65, hlt, hzT, htk]) (fun hgd => ?_) (fun hgd => ?_) <;> first | (exfalso; simp at hgd; done) | (exfalso; simp at hgd; omega) | simp -implicitDefEqProofs [hP, hN, g0, g5, g6, g7, hb9, hb6, hb65, hlt, hzT, htk])
      | (with_reducible refine yB_split (by simp [g0, g5, g6, g7, hb9, hb6, hb65, hlt, hzT, htk]) (fun hgd => ?_) (fun hgd => ?_) <;> first | (exfalso; simp at hgd; done) | (exfalso; simp at hgd; omega) | (simp -implicitDefEqProofs [hP, hN, g0, g5, g6, g7, hb9, hb6, hb65, hlt, hzT, htk] <;> (try refine ⟨by kernel_rfl, ?_⟩)))
      | with_reducible refine xTwo_intro ?_ ?_
      | (with_reducible refine WP.cond' ?_; simp -implicitDefEqProofs [hP, hN, g0, g5, g6, g7, hb9, hb6, hb65, hlt, hzT, htk])
      | (with_reducible refine xCond_split (fun hcd => ?_) (fun hcd => ?_) <;> (try (exfalso; clear hP hN; simp_all; done)) <;> (try (exfalso; simp at *; omega)))
      | with_reducible refine WP.block ?_
      | (with_reducible refine WP.skip ?_; simp [g0, g5, g6, g7, hb9, hb6, hb65, hlt, hzT, htk])
      | (with_reducible refine WP.exit ?_; simp [g0, g5, g6, g7, hb9, hb6, hb65, hlt, hzT, htk])
      | (with_reducible refine WP.ret ?_; simp [g0, g5, g6, g7, hb9, hb6, hb65, hlt, hzT, htk]))
    all_goals simp [inL_len]
end Go.Ab
