/- CorridorPoints and CorridorInside: the walks. -/
import Derived.Test.YtagmnknighofeaaL30
import Derived.Test.YtagmnknighofeaaTrG
set_option linter.all false
namespace Go.Ab
open Go.Proofs
def chnPre (t : Tr) (p q : List Int) : Bool := validT t && hasC t.root p && hasC t.root q
def chnOk (t : Tr) (p q : List Int) (sort : Int) : Bool := chnPre t p q && bestOk t.cells.length (mayB t.cells (List.replicate t.cells.length false) sort) (hasN (boxesL t) q) (hasN (boxesL t) p) (tchN (boxesL t))
def chnN (t : Tr) (p q : List Int) (sort : Int) : List Nat := if chnPre t p q then bestL t.cells.length (mayB t.cells (List.replicate t.cells.length false) sort) (hasN (boxesL t) q) (hasN (boxesL t) p) (tchN (boxesL t)) else []
def chnL (t : Tr) (p q : List Int) (sort : Int) : List Int := (chnN t p q sort).map fun n : Nat => (n : Int)
theorem touchC_comm {a b : Bx} (ha : allB vI a = true) (hb : allB vI b = true) : touchC a b = touchC b a := by
  have key : ∀ {a b : Bx}, allB vI a = true → allB vI b = true → touchC a b = true → touchC b a = true := by
    intro a b ha hb h
    obtain ⟨h1, h2⟩ := (touchC_vi ha hb).1 h
    exact (touchC_vi hb ha).2 ⟨h1.symm, fun i x y hx hy => (h2 i y x hy hx).symm⟩
  cases h : touchC a b with
  | true => rw [key ha hb h]
  | false =>
    cases h' : touchC b a with
    | true => rw [key hb ha h'] at h; cases h
    | false => rfl
theorem tch_sym {t : Tr} (hv : validT t = true) : ∀ i j, i < t.cells.length → j < t.cells.length → tchN (boxesL t) i j = tchN (boxesL t) j i := by
  intro i j hi hj
  have hbl := boxesL_len hv
  have h1 : (boxesL t)[i]? = some (bxN (boxesL t) i) := by simp [bxN, List.getElem?_eq_getElem (by omega : i < (boxesL t).length)]
  have h2 : (boxesL t)[j]? = some (bxN (boxesL t) j) := by simp [bxN, List.getElem?_eq_getElem (by omega : j < (boxesL t).length)]
  exact touchC_comm (boxesL_ok h1).2 (boxesL_ok h2).2
theorem ns_eq (l : List Nat) : ns l = zs (l.map fun n : Nat => (n : Int)) := by simp [Function.comp_def]
set_option maxHeartbeats 4000000 in
theorem chainB (t : Tr) (p q : List Int) (hl : t.cells.length ≤ 9223372036854775807) (hr : t.root.length ≤ 9223372036854775807) (hpl : p.length ≤ 9223372036854775807) (hql : q.length ≤ 9223372036854775807) : DetH Try.prog 49 [.pv (encT t), .pv (zs p), .pv (zs q), .pv (B false)] [] [] (.pv (.tup [zs (chnL t p q 3), B (chnOk t p q 3)])) := by
  have co := openedE t 1 hl
  have cp := d30 t.root p hr hpl
  have cq := d30 t.root q hr hql
  rw [hasL_eq] at cp cq
  have hno : chnPre t p q = false → chnL t p q 3 = [] ∧ chnOk t p q 3 = false := fun h => by simp [chnL, chnN, chnOk, h]
  cases hv : validT t with
  | false =>
    obtain ⟨e1, e2⟩ := hno (by simp [chnPre, hv])
    rw [e1, e2]
    rw [hv, if_neg (by simp)] at co
    refine detP_of Try.func49 rfl (by kernel_rfl) (by simp [Try.f49]) rfl ?_
    intro C hP hN
    simp only [Try.f49] at hN ⊢
    repeat' (first
      | with_reducible refine WP.seq ?_
      | (with_reducible ((first | refine WP.region (hn := []) ?_ | refine xC_intro (co) ?_ | refine WP.cond' ?_); simp -implicitDefEqProofs (maxSteps := 2000000) [hP, hN]))
      | (with_reducible ((first | refine WP.draw (hn := []) (by rw [hP]; kernel_rfl) (by kernel_rfl) ?_ | refine yC_intro (co) ?_); simp -implicitDefEqProofs (maxSteps := 2000000) [hP, hN]; (try refine ⟨by kernel_rfl, ?_⟩)))
      | (with_reducible refine xB_split (by simp) (fun hgd => ?_) (fun hgd => ?_) <;> first | (exfalso; simp at hgd; done) | (exfalso; simp at hgd; omega) | simp -implicitDefEqProofs (maxSteps := 2000000) [hP, hN])
      | (with_reducible refine yB_split (by simp) (fun hgd => ?_) (fun hgd => ?_) <;> first | (exfalso; simp at hgd; done) | (exfalso; simp at hgd; omega) | (simp -implicitDefEqProofs (maxSteps := 2000000) [hP, hN] <;> (try refine ⟨by kernel_rfl, ?_⟩)))
      | with_reducible refine xTwo_intro ?_ ?_
      | (with_reducible refine xCond_split (fun hcd => ?_) (fun hcd => ?_) <;> (try (exfalso; clear hP hN; simp_all; done)) <;> (try (exfalso; simp at *; omega)))
      | with_reducible refine WP.block ?_
      | (with_reducible ((first | refine WP.skip ?_ | refine WP.exit ?_ | refine WP.ret ?_); simp)))
  | true =>
  rw [hv, if_pos rfl] at co
  cases hp : hasC t.root p with
  | false =>
    obtain ⟨e1, e2⟩ := hno (by simp [chnPre, hp])
    rw [e1, e2]
    rw [hp] at cp
    refine detP_of Try.func49 rfl (by kernel_rfl) (by simp [Try.f49]) rfl ?_
    intro C hP hN
    simp only [Try.f49] at hN ⊢
    repeat' (first
      | with_reducible refine WP.seq ?_
      | (with_reducible ((first | refine WP.region (hn := []) ?_ | refine xC_intro (co) ?_ | refine xC_intro (cp) ?_ | refine WP.cond' ?_); simp -implicitDefEqProofs (maxSteps := 2000000) [hP, hN]))
      | (with_reducible ((first | refine WP.draw (hn := []) (by rw [hP]; kernel_rfl) (by kernel_rfl) ?_ | refine yC_intro (co) ?_ | refine yC_intro (cp) ?_); simp -implicitDefEqProofs (maxSteps := 2000000) [hP, hN]; (try refine ⟨by kernel_rfl, ?_⟩)))
      | (with_reducible refine xB_split (by simp) (fun hgd => ?_) (fun hgd => ?_) <;> first | (exfalso; simp at hgd; done) | (exfalso; simp at hgd; omega) | simp -implicitDefEqProofs (maxSteps := 2000000) [hP, hN])
      | (with_reducible refine yB_split (by simp) (fun hgd => ?_) (fun hgd => ?_) <;> first | (exfalso; simp at hgd; done) | (exfalso; simp at hgd; omega) | (simp -implicitDefEqProofs (maxSteps := 2000000) [hP, hN] <;> (try refine ⟨by kernel_rfl, ?_⟩)))
      | with_reducible refine xTwo_intro ?_ ?_
      | (with_reducible refine xCond_split (fun hcd => ?_) (fun hcd => ?_) <;> (try (exfalso; clear hP hN; simp_all; done)) <;> (try (exfalso; simp at *; omega)))
      | with_reducible refine WP.block ?_
      | (with_reducible ((first | refine WP.skip ?_ | refine WP.exit ?_ | refine WP.ret ?_); simp)))
  | true =>
  rw [hp] at cp
  cases hq : hasC t.root q with
  | false =>
    obtain ⟨e1, e2⟩ := hno (by simp [chnPre, hq])
    rw [e1, e2]
    rw [hq] at cq
    refine detP_of Try.func49 rfl (by kernel_rfl) (by simp [Try.f49]) rfl ?_
    intro C hP hN
    simp only [Try.f49] at hN ⊢
    repeat' (first
      | with_reducible refine WP.seq ?_
      | (with_reducible ((first | refine WP.region (hn := []) ?_ | refine xC_intro (co) ?_ | refine xC_intro (cp) ?_ | refine xC_intro (cq) ?_ | refine WP.cond' ?_); simp -implicitDefEqProofs (maxSteps := 2000000) [hP, hN]))
      | (with_reducible ((first | refine WP.draw (hn := []) (by rw [hP]; kernel_rfl) (by kernel_rfl) ?_ | refine yC_intro (co) ?_ | refine yC_intro (cp) ?_ | refine yC_intro (cq) ?_); simp -implicitDefEqProofs (maxSteps := 2000000) [hP, hN]; (try refine ⟨by kernel_rfl, ?_⟩)))
      | (with_reducible refine xB_split (by simp) (fun hgd => ?_) (fun hgd => ?_) <;> first | (exfalso; simp at hgd; done) | (exfalso; simp at hgd; omega) | simp -implicitDefEqProofs (maxSteps := 2000000) [hP, hN])
      | (with_reducible refine yB_split (by simp) (fun hgd => ?_) (fun hgd => ?_) <;> first | (exfalso; simp at hgd; done) | (exfalso; simp at hgd; omega) | (simp -implicitDefEqProofs (maxSteps := 2000000) [hP, hN] <;> (try refine ⟨by kernel_rfl, ?_⟩)))
      | with_reducible refine xTwo_intro ?_ ?_
      | (with_reducible refine xCond_split (fun hcd => ?_) (fun hcd => ?_) <;> (try (exfalso; clear hP hN; simp_all; done)) <;> (try (exfalso; simp at *; omega)))
      | with_reducible refine WP.block ?_
      | (with_reducible ((first | refine WP.skip ?_ | refine WP.exit ?_ | refine WP.ret ?_); simp)))
  | true =>
  rw [hq] at cq
  have hpre : chnPre t p q = true := by simp [chnPre, hv, hp, hq]
  have hz := sizeOk_iff.1 (valid_size hv)
  have cb := d109 t.cells (boxesL t) (List.replicate t.cells.length false) p q 3 (by omega) (boxesL_len hv) (by simp) (fun b hb => by
    obtain ⟨j, hj⟩ := List.getElem?_of_mem hb
    have := (boxesL_ok hj).1
    omega) hpl hql (tch_sym hv)
  rw [ns_eq] at cb
  have e1 : chnL t p q 3 = (bestL t.cells.length (mayB t.cells (List.replicate t.cells.length false) 3) (hasN (boxesL t) q) (hasN (boxesL t) p) (tchN (boxesL t))).map fun n : Nat => (n : Int) := by simp [chnL, chnN, hpre]
  have e2 : chnOk t p q 3 = bestOk t.cells.length (mayB t.cells (List.replicate t.cells.length false) 3) (hasN (boxesL t) q) (hasN (boxesL t) p) (tchN (boxesL t)) := by simp [chnOk, hpre]
  rw [← e1, ← e2] at cb
  generalize List.replicate t.cells.length false = O at *
  generalize chnL t p q 3 = L9 at *
  generalize chnOk t p q 3 = B9 at *
  refine detP_of Try.func49 rfl (by kernel_rfl) (by simp [Try.f49]) rfl ?_
  intro C hP hN
  simp only [Try.f49] at hN ⊢
  repeat' (first
    | with_reducible refine WP.seq ?_
    | (with_reducible ((first | refine WP.region (hn := []) ?_ | refine xC_intro (co) ?_ | refine xC_intro (cp) ?_ | refine xC_intro (cq) ?_ | refine xC_intro (cb) ?_ | refine WP.cond' ?_); simp -implicitDefEqProofs (maxSteps := 2000000) [hP, hN]))
    | (with_reducible ((first | refine WP.draw (hn := []) (by rw [hP]; kernel_rfl) (by kernel_rfl) ?_ | refine yC_intro (co) ?_ | refine yC_intro (cp) ?_ | refine yC_intro (cq) ?_ | refine yC_intro (cb) ?_); simp -implicitDefEqProofs (maxSteps := 2000000) [hP, hN]; (try refine ⟨by kernel_rfl, ?_⟩)))
    | (with_reducible refine xB_split (by simp) (fun hgd => ?_) (fun hgd => ?_) <;> first | (exfalso; simp at hgd; done) | (exfalso; simp at hgd; omega) | simp -implicitDefEqProofs (maxSteps := 2000000) [hP, hN])
    | (with_reducible refine yB_split (by simp) (fun hgd => ?_) (fun hgd => ?_) <;> first | (exfalso; simp at hgd; done) | (exfalso; simp at hgd; omega) | (simp -implicitDefEqProofs (maxSteps := 2000000) [hP, hN] <;> (try refine ⟨by kernel_rfl, ?_⟩)))
    | with_reducible refine xTwo_intro ?_ ?_
    | (with_reducible refine xCond_split (fun hcd => ?_) (fun hcd => ?_) <;> (try (exfalso; clear hP hN; simp_all; done)) <;> (try (exfalso; simp at *; omega)))
    | with_reducible refine WP.block ?_
    | (with_reducible ((first | refine WP.skip ?_ | refine WP.exit ?_ | refine WP.ret ?_); simp)))
/-- What is found is a chain. -/
theorem chn_chain {t : Tr} {p q : List Int} (h : chnOk t p q 3 = true) : chainOk t (chnL t p q 3) p q = true ∧ (chnL t p q 3).length ≤ t.cells.length := by
  simp only [chnOk, Bool.and_eq_true] at h
  obtain ⟨hpre, hb⟩ := h
  have hp' := hpre
  simp only [chnPre, Bool.and_eq_true] at hp'
  obtain ⟨⟨hv, hp⟩, hq⟩ := hp'
  have hbl := boxesL_len hv
  have hbc := best_chain (tch_sym hv) hb
  have e1 : chnL t p q 3 = (bestL t.cells.length (mayB t.cells (List.replicate t.cells.length false) 3) (hasN (boxesL t) q) (hasN (boxesL t) p) (tchN (boxesL t))).map fun n : Nat => (n : Int) := by simp [chnL, chnN, hpre]
  generalize bestL t.cells.length (mayB t.cells (List.replicate t.cells.length false) 3) (hasN (boxesL t) q) (hasN (boxesL t) p) (tchN (boxesL t)) = l at *
  obtain ⟨b1, b2, b3, b4, b5, b6⟩ := hbc
  rw [e1]
  have hbox : ∀ x : Nat, boxAt t (x : Int) = bxN (boxesL t) x := fun x => by simp [boxAt, bxN]
  refine ⟨?_, by simpa using b2⟩
  simp only [chainOk, Bool.and_eq_true]
  refine ⟨chPre_iff.2 ⟨hv, hp, hq, by intro e; simp at e; rw [e] at b1; simp at b1, fun j hj => ?_⟩, ?_⟩
  · have hj' : j < l.length := by simpa using hj
    have hg : (l.map fun n : Nat => (n : Int))[j]? = some (l[j] : Int) := by simp [hj']
    obtain ⟨x1, x2, x3⟩ := b3 j l[j] (List.getElem?_eq_getElem hj')
    refine (chStep_iff hg).2 ⟨by omega, by omega, ?_, ?_, ?_⟩
    · unfold mayB at x2
      rw [Int.toNat_natCast]
      unfold leafN
      split at x2
      · rename_i c hc
        simp only [Bool.and_eq_true] at x2
        rw [hc]; exact x2.1
      · cases x2
    · rw [← List.map_take]
      intro hm
      simp only [List.mem_map] at hm
      obtain ⟨y, hy, he⟩ := hm
      have : y = l[j] := by omega
      rw [this] at hy; exact x3 hy
    · by_cases hj0 : j = 0
      · exact .inl hj0
      · right
        have hj1 : j - 1 < l.length := by omega
        have := b4 (j - 1) l[j - 1] l[j] (List.getElem?_eq_getElem hj1) (by rw [show j - 1 + 1 = j by omega]; exact List.getElem?_eq_getElem hj')
        rw [List.getElem?_map, List.getElem?_eq_getElem hj1]
        simp only [Option.map_some, Option.getD_some, hbox]
        exact this
  · simp only [chEnds, Bool.and_eq_true]
    have hl1 : l.length - 1 < l.length := by omega
    rw [List.getElem?_map, List.getElem?_eq_getElem b1, List.length_map, List.getElem?_map, List.getElem?_eq_getElem hl1]
    simp only [Option.map_some, Option.getD_some, hbox]
    exact ⟨b5 _ (List.getElem?_eq_getElem b1), b6 _ (List.getElem?_eq_getElem hl1)⟩
theorem chn_len {t : Tr} {p q : List Int} : (chnL t p q 3).length ≤ t.cells.length := by
  cases h : chnOk t p q 3 with
  | true => exact (chn_chain h).2
  | false =>
    cases hpre : chnPre t p q with
    | false => simp [chnL, chnN, hpre]
    | true =>
      simp only [chnOk, hpre, Bool.true_and] at h
      simp [chnL, chnN, hpre, bestL, h]
theorem d19 (t : Tr) : DetH Try.prog 19 [.pv (encT t)] [] [] (.pv (B (decide ((t.root.length : Int) ≤ 12) && decide ((t.cells.length : Int) ≤ 60)))) := by
  by_cases h1 : (t.root.length : Int) ≤ 12
  · have h1' : decide ((t.root.length : Int) ≤ 12) = true := by simpa using h1
    have h1n : t.root.length ≤ 12 := by omega
    rw [h1', Bool.true_and]
    refine detP_of Try.func19 rfl (by kernel_rfl) (by simp [Try.f19]) rfl ?_
    intro C hP hN
    simp only [Try.f19] at hN ⊢
    repeat' (first
      | with_reducible refine WP.seq ?_
      | (with_reducible ((first | refine WP.region (hn := []) ?_ | refine WP.cond' ?_); simp -implicitDefEqProofs (maxSteps := 2000000) [hP, hN, h1, h1', h1n]))
      | (with_reducible ((first | refine WP.draw (hn := []) (by rw [hP]; kernel_rfl) (by kernel_rfl) ?_); simp -implicitDefEqProofs (maxSteps := 2000000) [hP, hN, h1, h1', h1n]; (try refine ⟨by kernel_rfl, ?_⟩)))
      | (with_reducible refine xB_split (by simp [h1, h1', h1n]) (fun hgd => ?_) (fun hgd => ?_) <;> first | (exfalso; simp at hgd; done) | (exfalso; simp at hgd; omega) | simp -implicitDefEqProofs (maxSteps := 2000000) [hP, hN, h1, h1', h1n])
      | (with_reducible refine yB_split (by simp [h1, h1', h1n]) (fun hgd => ?_) (fun hgd => ?_) <;> first | (exfalso; simp at hgd; done) | (exfalso; simp at hgd; omega) | (simp -implicitDefEqProofs (maxSteps := 2000000) [hP, hN, h1, h1', h1n] <;> (try refine ⟨by kernel_rfl, ?_⟩)))
      | with_reducible refine xTwo_intro ?_ ?_
      | (with_reducible refine xCond_split (fun hcd => ?_) (fun hcd => ?_) <;> (try (exfalso; clear hP hN; simp_all; done)) <;> (try (exfalso; simp at *; omega)))
      | with_reducible refine WP.block ?_
      | (with_reducible ((first | refine WP.skip ?_ | refine WP.exit ?_ | refine WP.ret ?_); simp [h1, h1', h1n])))
    all_goals simp
  · have h1' : decide ((t.root.length : Int) ≤ 12) = false := by simpa using h1
    have h1n : ¬ t.root.length ≤ 12 := by omega
    rw [h1', Bool.false_and]
    refine detP_of Try.func19 rfl (by kernel_rfl) (by simp [Try.f19]) rfl ?_
    intro C hP hN
    simp only [Try.f19] at hN ⊢
    repeat' (first
      | with_reducible refine WP.seq ?_
      | (with_reducible ((first | refine WP.region (hn := []) ?_ | refine WP.cond' ?_); simp -implicitDefEqProofs (maxSteps := 2000000) [hP, hN, h1, h1', h1n]))
      | (with_reducible ((first | refine WP.draw (hn := []) (by rw [hP]; kernel_rfl) (by kernel_rfl) ?_); simp -implicitDefEqProofs (maxSteps := 2000000) [hP, hN, h1, h1', h1n]; (try refine ⟨by kernel_rfl, ?_⟩)))
      | (with_reducible refine xB_split (by simp [h1, h1', h1n]) (fun hgd => ?_) (fun hgd => ?_) <;> first | (exfalso; simp at hgd; done) | (exfalso; simp at hgd; omega) | simp -implicitDefEqProofs (maxSteps := 2000000) [hP, hN, h1, h1', h1n])
      | (with_reducible refine yB_split (by simp [h1, h1', h1n]) (fun hgd => ?_) (fun hgd => ?_) <;> first | (exfalso; simp at hgd; done) | (exfalso; simp at hgd; omega) | (simp -implicitDefEqProofs (maxSteps := 2000000) [hP, hN, h1, h1', h1n] <;> (try refine ⟨by kernel_rfl, ?_⟩)))
      | with_reducible refine xTwo_intro ?_ ?_
      | (with_reducible refine xCond_split (fun hcd => ?_) (fun hcd => ?_) <;> (try (exfalso; clear hP hN; simp_all; done)) <;> (try (exfalso; simp at *; omega)))
      | with_reducible refine WP.block ?_
      | (with_reducible ((first | refine WP.skip ?_ | refine WP.exit ?_ | refine WP.ret ?_); simp [h1, h1', h1n])))
end Go.Ab
