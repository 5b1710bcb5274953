/- CutReached, CutMeets: the walks. -/
import Derived.Test.YtagmnknighofeaaCu13
set_option linter.all false
namespace Go.Ab
open Go.Proofs
theorem cell_joint {t : Tr} (hv : validT t = true) {i : Nat} {c : Cel} (hc : t.cells[i]? = some c) : decide (c.joint < 0) = leafB c := by
  obtain ⟨L, hL⟩ := Option.isSome_iff_exists.1 hv
  have hp := boxes_ind (P := fun k _ => i < k → decide (c.joint < 0) = leafB c) hL (by intro h; omega) (fun k d M M' hk hp hm hi => by
    by_cases e : k = i
    · subst e
      rw [hc] at hk; injection hk with hk; subst hk
      obtain ⟨b, hb, ⟨h1, _, _⟩ | ⟨h1, _, h2, _⟩⟩ := bStep_some hm
      · rw [h1]; simp [leafB] at h1; simp [h1]
      · rw [h1]
        have := (hvOk_iff.1 h2).1
        simp; omega
    · exact hp (by omega))
  exact hp (List.getElem?_eq_some_iff.1 hc).1
theorem rch_opn {n : Nat} {opn : Nat → Bool} {tch : Nat → Nat → Bool} {S : Nat → Prop} (hS : ∀ i, S i → opn i = true) {i : Nat} (h : Rch n opn tch S i) : opn i = true := by
  cases h with
  | base h => exact hS _ h
  | step _ _ ho _ => exact ho
section
variable {t : Tr} {p : List Int} {U : List Bool}
theorem isF_opn (h : IsF t p U) {a : Nat} (hm : mk1 U a) : opnT t a = true := by
  refine rch_opn (fun i hi => ?_) ((h.iff a (mk1_lt h.len hm)).1 hm)
  have := hi.2
  rw [Bool.and_eq_true] at this
  exact this.1
theorem isF_base (h : IsF t p U) {a : Nat} (ha : a < t.cells.length) (ho : opnT t a = true) (hh : hasT t p a = true) : mk1 U a :=
  (h.iff a ha).2 (.base ⟨ha, by rw [ho, hh]; rfl⟩)
theorem isF_step (h : IsF t p U) {a b : Nat} (hb : b < t.cells.length) (hm : mk1 U a) (ho : opnT t b = true) (ht : tchT t a b = true) : mk1 U b :=
  (h.iff b hb).2 (.step ((h.iff a (mk1_lt h.len hm)).1 hm) hb ho ht)
end
theorem d65 (c : Cel) : DetH Try.prog 65 [.pv (encC c)] [] [] (.pv (B (decide (c.joint < 0) && !(c.v.kind == 2)))) := by
  by_cases h : c.joint < 0
  · skip
    refine detP_of Try.func65 rfl (by kernel_rfl) (by simp [Try.f65]) rfl ?_
    intro C hP hN
    simp only [Try.f65] at hN ⊢
    repeat' (first
      | with_reducible refine WP.seq ?_
      | (with_reducible ((first | refine WP.region (hn := []) ?_ | refine WP.cond' ?_); simp -implicitDefEqProofs (maxSteps := 2000000) [hP, hN, h]))
      | (with_reducible ((first | refine WP.draw (hn := []) (by rw [hP]; kernel_rfl) (by kernel_rfl) ?_); simp -implicitDefEqProofs (maxSteps := 2000000) [hP, hN, h]; (try refine ⟨by kernel_rfl, ?_⟩)))
      | (with_reducible refine xB_split (by simp [h]) (fun hgd => ?_) (fun hgd => ?_) <;> first | (exfalso; simp at hgd; done) | (exfalso; simp at hgd; omega) | simp -implicitDefEqProofs (maxSteps := 2000000) [hP, hN, h])
      | (with_reducible refine yB_split (by simp [h]) (fun hgd => ?_) (fun hgd => ?_) <;> first | (exfalso; simp at hgd; done) | (exfalso; simp at hgd; omega) | (simp -implicitDefEqProofs (maxSteps := 2000000) [hP, hN, h] <;> (try refine ⟨by kernel_rfl, ?_⟩)))
      | with_reducible refine xTwo_intro ?_ ?_
      | (with_reducible refine xCond_split (fun hcd => ?_) (fun hcd => ?_) <;> (try (exfalso; clear hP hN; simp_all; done)) <;> (try (exfalso; simp at *; omega)))
      | with_reducible refine WP.block ?_
      | (with_reducible ((first | refine WP.skip ?_ | refine WP.exit ?_ | refine WP.ret ?_); simp [h])))
    all_goals rfl
  · skip
    refine detP_of Try.func65 rfl (by kernel_rfl) (by simp [Try.f65]) rfl ?_
    intro C hP hN
    simp only [Try.f65] at hN ⊢
    repeat' (first
      | with_reducible refine WP.seq ?_
      | (with_reducible ((first | refine WP.region (hn := []) ?_ | refine WP.cond' ?_); simp -implicitDefEqProofs (maxSteps := 2000000) [hP, hN, h]))
      | (with_reducible ((first | refine WP.draw (hn := []) (by rw [hP]; kernel_rfl) (by kernel_rfl) ?_); simp -implicitDefEqProofs (maxSteps := 2000000) [hP, hN, h]; (try refine ⟨by kernel_rfl, ?_⟩)))
      | (with_reducible refine xB_split (by simp [h]) (fun hgd => ?_) (fun hgd => ?_) <;> first | (exfalso; simp at hgd; done) | (exfalso; simp at hgd; omega) | simp -implicitDefEqProofs (maxSteps := 2000000) [hP, hN, h])
      | (with_reducible refine yB_split (by simp [h]) (fun hgd => ?_) (fun hgd => ?_) <;> first | (exfalso; simp at hgd; done) | (exfalso; simp at hgd; omega) | (simp -implicitDefEqProofs (maxSteps := 2000000) [hP, hN, h] <;> (try refine ⟨by kernel_rfl, ?_⟩)))
      | with_reducible refine xTwo_intro ?_ ?_
      | (with_reducible refine xCond_split (fun hcd => ?_) (fun hcd => ?_) <;> (try (exfalso; clear hP hN; simp_all; done)) <;> (try (exfalso; simp at *; omega)))
      | with_reducible refine WP.block ?_
      | (with_reducible ((first | refine WP.skip ?_ | refine WP.exit ?_ | refine WP.ret ?_); simp [h])))
theorem flood_made {t : Tr} (hv : validT t = true) (m : List Int) : floodOk t (inL t.root m) = true := by
  have hz := sizeOk_iff.1 (valid_size hv)
  simp [floodOk, hv, in_has hz.2.2.2.2]
set_option maxRecDepth 10000 in
set_option maxHeartbeats 16000000 in
theorem d17 (l m : List Int) (i k : Int) : DetH Try.prog 17 [.pv (zs l), .pv (zs m), .pv (Z i), .pv (Z k)] [] [] (.pv (B true)) := by
  have hT := mkTree_ok l
  have ct := d21 l
  generalize mkTree l = t at *
  have hv := hT.valid
  have hz := sizeOk_iff.1 (valid_size hv)
  have c1 := d26 t.root m (by omega) hz.2.2.2.2
  have hfo := flood_made hv m
  have l1 := inL_len t.root m
  generalize inL t.root m = p at *
  obtain ⟨U, hU⟩ := isF_ex t p
  have cf := d64 t p U (by omega) (by omega) hU
  rw [fldL, hfo, if_pos rfl] at cf
  have cb := d52 t (by omega)
  rw [hv] at cb
  have hUl := hU.len
  have hbl := boxesL_len hv
  have hbg : ∀ i, i < t.cells.length → (boxesL t)[i]? = some (boxAt t (i : Int)) ∧ (boxAt t (i : Int)).length ≤ 9223372036854775807 := fun i hi => by
    obtain ⟨a, b, _⟩ := boxAt_ok hv (c := (i : Int)) (by simpa using hi)
    exact ⟨by simpa using a, by omega⟩
  have hO : ∀ (i : Nat) c, t.cells[i]? = some c → (decide (c.joint < 0) && !(c.v.kind == 2)) = opnT t i := fun i c hc => by
    rw [cell_joint hv hc]; simp only [opnT, hc, opnB, colB]; cases leafB c <;> simp
  refine detP_of Try.func17 rfl (by kernel_rfl) (by simp [Try.f17]) rfl ?_
  intro C hP hN
  simp only [Try.f17] at hN ⊢
  repeat' (first
    | with_reducible refine WP.seq ?_
    | (with_reducible ((first | refine WP.region (hn := []) ?_ | refine xC_intro (ct) ?_ | refine xC_intro (c1) ?_ | refine xC_intro (cf) ?_ | refine xC_intro (cb) ?_ | refine WP.cond' ?_); simp -implicitDefEqProofs (maxSteps := 2000000) [hP, hN, hUl, hbl]))
    | (with_reducible ((first | refine WP.draw (hn := []) (by rw [hP]; kernel_rfl) (by kernel_rfl) ?_ | refine yC_intro (ct) ?_ | refine yC_intro (c1) ?_ | refine yC_intro (cf) ?_ | refine yC_intro (cb) ?_); simp -implicitDefEqProofs (maxSteps := 2000000) [hP, hN, hUl, hbl]; (try refine ⟨by kernel_rfl, ?_⟩)))
    | (with_reducible refine xB_split (by simp [hUl, hbl]) (fun hgd => ?_) (fun hgd => ?_) <;> first | (exfalso; simp at hgd; done) | (exfalso; simp at hgd; omega) | simp -implicitDefEqProofs (maxSteps := 2000000) [hP, hN, hUl, hbl])
    | (with_reducible refine yB_split (by simp [hUl, hbl]) (fun hgd => ?_) (fun hgd => ?_) <;> first | (exfalso; simp at hgd; done) | (exfalso; simp at hgd; omega) | (simp -implicitDefEqProofs (maxSteps := 2000000) [hP, hN, hUl, hbl] <;> (try refine ⟨by kernel_rfl, ?_⟩)))
    | with_reducible refine xTwo_intro ?_ ?_
    | (with_reducible refine xCond_split (fun hcd => ?_) (fun hcd => ?_) <;> (try (exfalso; clear hP hN; simp_all; done)) <;> (try (exfalso; simp at *; omega)))
    | with_reducible refine WP.block ?_
    | (with_reducible ((first | refine WP.skip ?_ | refine WP.exit ?_ | refine WP.ret ?_); simp [hUl, hbl])))
  refine WP.loopN [] t.cells.length (fun a st => st.t 9 = .ptr 9 0 ∧ st.t 10 = .pv (zs p) ∧ st.t 11 = .pv (.sl (U.map B)) ∧ st.t 12 = .pv (.sl ((boxesL t).map iv)) ∧ st.t 14 = .pv (Z a) ∧ st.h 9 = some (.box [.pv (iv t.root), .pv (.sl (t.cells.map encC))] true false)) (by simp) ?_
  rintro a st ha ⟨g9, g10, g11, g12, g14, hb9⟩
  by_cases hlt : a < t.cells.length
  · have hw := wr_succ hlt (by omega)
    have haU : a < U.length := by omega
    have hab : a < (boxesL t).length := by omega
    obtain ⟨hba, hbal⟩ := hbg a hlt
    have hba' := get_of hba hab
    have chh := d30 (boxAt t (a : Int)) p hbal (by omega)
    rw [hasL_eq] at chh
    have hcl := fun b => isF_step hU (a := a) (b := b)
    have hcl2 := fun b => isF_step hU (a := b) (b := a) hlt
    have hbs := isF_base hU hlt
    have hop := isF_opn hU (a := a)
    have hT9 : hasT t p a = hasC (boxAt t (a : Int)) p := rfl
    rw [hT9] at hbs
    generalize hc : t.cells[a] = c at *
    have hci : t.cells[a]? = some c := by rw [List.getElem?_eq_getElem hlt, hc]
    have co := d65 c
    rw [hO a c hci] at co
    have hUa := opL_get haU
    have hUa' := get_of hUa haU
    have hmk : mk1 U a ↔ opL U a = true := by unfold mk1; rw [hUa]; simp
    rw [hmk] at hbs hop
    simp only [hmk] at hcl hcl2
    generalize opL U a = ua at *
    generalize hasC (boxAt t (a : Int)) p = hh at *
    generalize hoa : opnT t a = oa at *
    have hcond : (oa = true ∧ ua = true) ∨ (oa = true ∧ hh = false ∧ ua = false) ∨ (oa = false ∧ ua = false) := by
      cases oa <;> cases ua <;> cases hh <;> simp_all
    rcases hcond with ⟨rfl, rfl⟩ | ⟨rfl, rfl, rfl⟩ | ⟨rfl, rfl⟩
    · cases hh
      · skip
        repeat' (first
          | with_reducible refine WP.seq ?_
          | (with_reducible ((first | refine WP.region (hn := []) ?_ | refine xC_intro (co) ?_ | refine xC_intro (chh) ?_ | refine WP.cond' ?_); simp -implicitDefEqProofs (maxSteps := 2000000) [hP, hN, g9, g10, g11, g12, g14, hb9, hlt, hbl, hci, hc, haU, hUa, hUa', hab, hba, hba']))
          | (with_reducible ((first | refine WP.draw (hn := []) (by rw [hP]; kernel_rfl) (by kernel_rfl) ?_ | refine yC_intro (co) ?_ | refine yC_intro (chh) ?_); simp -implicitDefEqProofs (maxSteps := 2000000) [hP, hN, g9, g10, g11, g12, g14, hb9, hlt, hbl, hci, hc, haU, hUa, hUa', hab, hba, hba']; (try refine ⟨by kernel_rfl, ?_⟩)))
          | (with_reducible refine xB_split (by simp [g9, g10, g11, g12, g14, hb9, hlt, hbl, hci, hc, haU, hUa, hUa', hab, hba, hba']) (fun hgd => ?_) (fun hgd => ?_) <;> first | (exfalso; simp at hgd; done) | (exfalso; simp at hgd; omega) | simp -implicitDefEqProofs (maxSteps := 2000000) [hP, hN, g9, g10, g11, g12, g14, hb9, hlt, hbl, hci, hc, haU, hUa, hUa', hab, hba, hba'])
          | (with_reducible refine yB_split (by simp [g9, g10, g11, g12, g14, hb9, hlt, hbl, hci, hc, haU, hUa, hUa', hab, hba, hba']) (fun hgd => ?_) (fun hgd => ?_) <;> first | (exfalso; simp at hgd; done) | (exfalso; simp at hgd; omega) | (simp -implicitDefEqProofs (maxSteps := 2000000) [hP, hN, g9, g10, g11, g12, g14, hb9, hlt, hbl, hci, hc, haU, hUa, hUa', hab, hba, hba'] <;> (try refine ⟨by kernel_rfl, ?_⟩)))
          | with_reducible refine xTwo_intro ?_ ?_
          | (with_reducible refine xCond_split (fun hcd => ?_) (fun hcd => ?_) <;> (try (exfalso; clear hP hN; simp_all; done)) <;> (try (exfalso; simp at *; omega)))
          | with_reducible refine WP.block ?_
          | (with_reducible ((first | refine WP.skip ?_ | refine WP.exit ?_ | refine WP.ret ?_); simp [g9, g10, g11, g12, g14, hb9, hlt, hbl, hci, hc, haU, hUa, hUa', hab, hba, hba'])))
        refine WP.loopN [] t.cells.length (fun b st => st.t 9 = .ptr 9 0 ∧ st.t 10 = .pv (zs p) ∧ st.t 11 = .pv (.sl (U.map B)) ∧ st.t 12 = .pv (.sl ((boxesL t).map iv)) ∧ st.t 14 = .pv (Z a) ∧ st.t 15 = .pv (Z b) ∧ st.h 9 = some (.box [.pv (iv t.root), .pv (.sl (t.cells.map encC))] true false)) (by simp [g9, g10, g11, g12, g14, hb9]) ?_
        rintro b st' hb ⟨y9, y10, y11, y12, y14, y15, yb9⟩
        by_cases hbt : b < t.cells.length
        · have hwb := wr_succ hbt (by omega)
          have hbU : b < U.length := by omega
          have hbb : b < (boxesL t).length := by omega
          obtain ⟨hbb1, hbbl⟩ := hbg b hbt
          have hbb' := get_of hbb1 hbb
          generalize hd : t.cells[b] = d at *
          have hdi : t.cells[b]? = some d := by rw [List.getElem?_eq_getElem hbt, hd]
          have cd := d65 d
          rw [hO b d hdi] at cd
          cases hob : opnT t b with
          | false =>
            rw [hob] at cd
            repeat' (first
              | with_reducible refine WP.seq ?_
              | (with_reducible ((first | refine WP.region (hn := []) ?_ | refine xC_intro (co) ?_ | refine xC_intro (cd) ?_ | refine WP.cond' ?_); simp -implicitDefEqProofs (maxSteps := 2000000) [hP, hN, y9, y10, y11, y12, y14, y15, yb9, hbt, hbl, hwb, hlt, hci, hc, hdi, hd]))
              | (with_reducible ((first | refine WP.draw (hn := []) (by rw [hP]; kernel_rfl) (by kernel_rfl) ?_ | refine yC_intro (co) ?_ | refine yC_intro (cd) ?_); simp -implicitDefEqProofs (maxSteps := 2000000) [hP, hN, y9, y10, y11, y12, y14, y15, yb9, hbt, hbl, hwb, hlt, hci, hc, hdi, hd]; (try refine ⟨by kernel_rfl, ?_⟩)))
              | (with_reducible refine xB_split (by simp [y9, y10, y11, y12, y14, y15, yb9, hbt, hbl, hwb, hlt, hci, hc, hdi, hd]) (fun hgd => ?_) (fun hgd => ?_) <;> first | (exfalso; simp at hgd; done) | (exfalso; simp at hgd; omega) | simp -implicitDefEqProofs (maxSteps := 2000000) [hP, hN, y9, y10, y11, y12, y14, y15, yb9, hbt, hbl, hwb, hlt, hci, hc, hdi, hd])
              | (with_reducible refine yB_split (by simp [y9, y10, y11, y12, y14, y15, yb9, hbt, hbl, hwb, hlt, hci, hc, hdi, hd]) (fun hgd => ?_) (fun hgd => ?_) <;> first | (exfalso; simp at hgd; done) | (exfalso; simp at hgd; omega) | (simp -implicitDefEqProofs (maxSteps := 2000000) [hP, hN, y9, y10, y11, y12, y14, y15, yb9, hbt, hbl, hwb, hlt, hci, hc, hdi, hd] <;> (try refine ⟨by kernel_rfl, ?_⟩)))
              | with_reducible refine xTwo_intro ?_ ?_
              | (with_reducible refine xCond_split (fun hcd => ?_) (fun hcd => ?_) <;> (try (exfalso; clear hP hN; simp_all; done)) <;> (try (exfalso; simp at *; omega)))
              | with_reducible refine WP.block ?_
              | (with_reducible ((first | refine WP.skip ?_ | refine WP.exit ?_ | refine WP.ret ?_); simp [y9, y10, y11, y12, y14, y15, yb9, hbt, hbl, hwb, hlt, hci, hc, hdi, hd])))
          | true =>
          rw [hob] at cd
          have ctt := d55 (boxAt t (a : Int)) (boxAt t (b : Int)) hbal hbbl
          rw [touchL_eq] at ctt
          cases htc : touchC (boxAt t (a : Int)) (boxAt t (b : Int)) with
          | false =>
            rw [htc] at ctt
            repeat' (first
              | with_reducible refine WP.seq ?_
              | (with_reducible ((first | refine WP.region (hn := []) ?_ | refine xC_intro (co) ?_ | refine xC_intro (cd) ?_ | refine xC_intro (ctt) ?_ | refine WP.cond' ?_); simp -implicitDefEqProofs (maxSteps := 2000000) [hP, hN, y9, y10, y11, y12, y14, y15, yb9, hbt, hbl, hwb, hlt, hci, hc, hdi, hd, hab, hba, hba', hbb, hbb1, hbb']))
              | (with_reducible ((first | refine WP.draw (hn := []) (by rw [hP]; kernel_rfl) (by kernel_rfl) ?_ | refine yC_intro (co) ?_ | refine yC_intro (cd) ?_ | refine yC_intro (ctt) ?_); simp -implicitDefEqProofs (maxSteps := 2000000) [hP, hN, y9, y10, y11, y12, y14, y15, yb9, hbt, hbl, hwb, hlt, hci, hc, hdi, hd, hab, hba, hba', hbb, hbb1, hbb']; (try refine ⟨by kernel_rfl, ?_⟩)))
              | (with_reducible refine xB_split (by simp [y9, y10, y11, y12, y14, y15, yb9, hbt, hbl, hwb, hlt, hci, hc, hdi, hd, hab, hba, hba', hbb, hbb1, hbb']) (fun hgd => ?_) (fun hgd => ?_) <;> first | (exfalso; simp at hgd; done) | (exfalso; simp at hgd; omega) | simp -implicitDefEqProofs (maxSteps := 2000000) [hP, hN, y9, y10, y11, y12, y14, y15, yb9, hbt, hbl, hwb, hlt, hci, hc, hdi, hd, hab, hba, hba', hbb, hbb1, hbb'])
              | (with_reducible refine yB_split (by simp [y9, y10, y11, y12, y14, y15, yb9, hbt, hbl, hwb, hlt, hci, hc, hdi, hd, hab, hba, hba', hbb, hbb1, hbb']) (fun hgd => ?_) (fun hgd => ?_) <;> first | (exfalso; simp at hgd; done) | (exfalso; simp at hgd; omega) | (simp -implicitDefEqProofs (maxSteps := 2000000) [hP, hN, y9, y10, y11, y12, y14, y15, yb9, hbt, hbl, hwb, hlt, hci, hc, hdi, hd, hab, hba, hba', hbb, hbb1, hbb'] <;> (try refine ⟨by kernel_rfl, ?_⟩)))
              | with_reducible refine xTwo_intro ?_ ?_
              | (with_reducible refine xCond_split (fun hcd => ?_) (fun hcd => ?_) <;> (try (exfalso; clear hP hN; simp_all; done)) <;> (try (exfalso; simp at *; omega)))
              | with_reducible refine WP.block ?_
              | (with_reducible ((first | refine WP.skip ?_ | refine WP.exit ?_ | refine WP.ret ?_); simp [y9, y10, y11, y12, y14, y15, yb9, hbt, hbl, hwb, hlt, hci, hc, hdi, hd, hab, hba, hba', hbb, hbb1, hbb'])))
          | true =>
          rw [htc] at ctt
          have hUb := opL_get hbU
          have hUb' := get_of hUb hbU
          have hmkb : mk1 U b ↔ opL U b = true := by unfold mk1; rw [hUb]; simp
          have e1 := hcl b hbt
          have e2 := hcl2 b
          have htw : tchT t b a = true := by rw [touchT_swap hv hbt hlt]; exact htc
          simp only [hmkb, hob, htw, show tchT t a b = true from htc, forall_const, true_implies] at e1 e2
          generalize opL U b = ub at *
          cases ub
          · simp at e1
          · skip
            repeat' (first
              | with_reducible refine WP.seq ?_
              | (with_reducible ((first | refine WP.region (hn := []) ?_ | refine xC_intro (co) ?_ | refine xC_intro (cd) ?_ | refine xC_intro (ctt) ?_ | refine WP.cond' ?_); simp -implicitDefEqProofs (maxSteps := 2000000) [hP, hN, y9, y10, y11, y12, y14, y15, yb9, hbt, hbl, hwb, hlt, hci, hc, hdi, hd, hab, hba, hba', hbb, hbb1, hbb', haU, hUa, hUa', hbU, hUb, hUb']))
              | (with_reducible ((first | refine WP.draw (hn := []) (by rw [hP]; kernel_rfl) (by kernel_rfl) ?_ | refine yC_intro (co) ?_ | refine yC_intro (cd) ?_ | refine yC_intro (ctt) ?_); simp -implicitDefEqProofs (maxSteps := 2000000) [hP, hN, y9, y10, y11, y12, y14, y15, yb9, hbt, hbl, hwb, hlt, hci, hc, hdi, hd, hab, hba, hba', hbb, hbb1, hbb', haU, hUa, hUa', hbU, hUb, hUb']; (try refine ⟨by kernel_rfl, ?_⟩)))
              | (with_reducible refine xB_split (by simp [y9, y10, y11, y12, y14, y15, yb9, hbt, hbl, hwb, hlt, hci, hc, hdi, hd, hab, hba, hba', hbb, hbb1, hbb', haU, hUa, hUa', hbU, hUb, hUb']) (fun hgd => ?_) (fun hgd => ?_) <;> first | (exfalso; simp at hgd; done) | (exfalso; simp at hgd; omega) | simp -implicitDefEqProofs (maxSteps := 2000000) [hP, hN, y9, y10, y11, y12, y14, y15, yb9, hbt, hbl, hwb, hlt, hci, hc, hdi, hd, hab, hba, hba', hbb, hbb1, hbb', haU, hUa, hUa', hbU, hUb, hUb'])
              | (with_reducible refine yB_split (by simp [y9, y10, y11, y12, y14, y15, yb9, hbt, hbl, hwb, hlt, hci, hc, hdi, hd, hab, hba, hba', hbb, hbb1, hbb', haU, hUa, hUa', hbU, hUb, hUb']) (fun hgd => ?_) (fun hgd => ?_) <;> first | (exfalso; simp at hgd; done) | (exfalso; simp at hgd; omega) | (simp -implicitDefEqProofs (maxSteps := 2000000) [hP, hN, y9, y10, y11, y12, y14, y15, yb9, hbt, hbl, hwb, hlt, hci, hc, hdi, hd, hab, hba, hba', hbb, hbb1, hbb', haU, hUa, hUa', hbU, hUb, hUb'] <;> (try refine ⟨by kernel_rfl, ?_⟩)))
              | with_reducible refine xTwo_intro ?_ ?_
              | (with_reducible refine xCond_split (fun hcd => ?_) (fun hcd => ?_) <;> (try (exfalso; clear hP hN; simp_all; done)) <;> (try (exfalso; simp at *; omega)))
              | with_reducible refine WP.block ?_
              | (with_reducible ((first | refine WP.skip ?_ | refine WP.exit ?_ | refine WP.ret ?_); simp [y9, y10, y11, y12, y14, y15, yb9, hbt, hbl, hwb, hlt, hci, hc, hdi, hd, hab, hba, hba', hbb, hbb1, hbb', haU, hUa, hUa', hbU, hUb, hUb'])))
        · skip
          repeat' (first
            | with_reducible refine WP.seq ?_
            | (with_reducible ((first | refine WP.region (hn := []) ?_ | refine WP.cond' ?_); simp -implicitDefEqProofs (maxSteps := 2000000) [hP, hN, y9, y10, y11, y12, y14, y15, yb9, hbt, hbl, hw]))
            | (with_reducible ((first | refine WP.draw (hn := []) (by rw [hP]; kernel_rfl) (by kernel_rfl) ?_); simp -implicitDefEqProofs (maxSteps := 2000000) [hP, hN, y9, y10, y11, y12, y14, y15, yb9, hbt, hbl, hw]; (try refine ⟨by kernel_rfl, ?_⟩)))
            | (with_reducible refine xB_split (by simp [y9, y10, y11, y12, y14, y15, yb9, hbt, hbl, hw]) (fun hgd => ?_) (fun hgd => ?_) <;> first | (exfalso; simp at hgd; done) | (exfalso; simp at hgd; omega) | simp -implicitDefEqProofs (maxSteps := 2000000) [hP, hN, y9, y10, y11, y12, y14, y15, yb9, hbt, hbl, hw])
            | (with_reducible refine yB_split (by simp [y9, y10, y11, y12, y14, y15, yb9, hbt, hbl, hw]) (fun hgd => ?_) (fun hgd => ?_) <;> first | (exfalso; simp at hgd; done) | (exfalso; simp at hgd; omega) | (simp -implicitDefEqProofs (maxSteps := 2000000) [hP, hN, y9, y10, y11, y12, y14, y15, yb9, hbt, hbl, hw] <;> (try refine ⟨by kernel_rfl, ?_⟩)))
            | with_reducible refine xTwo_intro ?_ ?_
            | (with_reducible refine xCond_split (fun hcd => ?_) (fun hcd => ?_) <;> (try (exfalso; clear hP hN; simp_all; done)) <;> (try (exfalso; simp at *; omega)))
            | with_reducible refine WP.block ?_
            | (with_reducible ((first | refine WP.skip ?_ | refine WP.exit ?_ | refine WP.ret ?_); simp [y9, y10, y11, y12, y14, y15, yb9, hbt, hbl, hw])))
          all_goals omega
      · skip
        repeat' (first
          | with_reducible refine WP.seq ?_
          | (with_reducible ((first | refine WP.region (hn := []) ?_ | refine xC_intro (co) ?_ | refine xC_intro (chh) ?_ | refine WP.cond' ?_); simp -implicitDefEqProofs (maxSteps := 2000000) [hP, hN, g9, g10, g11, g12, g14, hb9, hlt, hbl, hci, hc, haU, hUa, hUa', hab, hba, hba']))
          | (with_reducible ((first | refine WP.draw (hn := []) (by rw [hP]; kernel_rfl) (by kernel_rfl) ?_ | refine yC_intro (co) ?_ | refine yC_intro (chh) ?_); simp -implicitDefEqProofs (maxSteps := 2000000) [hP, hN, g9, g10, g11, g12, g14, hb9, hlt, hbl, hci, hc, haU, hUa, hUa', hab, hba, hba']; (try refine ⟨by kernel_rfl, ?_⟩)))
          | (with_reducible refine xB_split (by simp [g9, g10, g11, g12, g14, hb9, hlt, hbl, hci, hc, haU, hUa, hUa', hab, hba, hba']) (fun hgd => ?_) (fun hgd => ?_) <;> first | (exfalso; simp at hgd; done) | (exfalso; simp at hgd; omega) | simp -implicitDefEqProofs (maxSteps := 2000000) [hP, hN, g9, g10, g11, g12, g14, hb9, hlt, hbl, hci, hc, haU, hUa, hUa', hab, hba, hba'])
          | (with_reducible refine yB_split (by simp [g9, g10, g11, g12, g14, hb9, hlt, hbl, hci, hc, haU, hUa, hUa', hab, hba, hba']) (fun hgd => ?_) (fun hgd => ?_) <;> first | (exfalso; simp at hgd; done) | (exfalso; simp at hgd; omega) | (simp -implicitDefEqProofs (maxSteps := 2000000) [hP, hN, g9, g10, g11, g12, g14, hb9, hlt, hbl, hci, hc, haU, hUa, hUa', hab, hba, hba'] <;> (try refine ⟨by kernel_rfl, ?_⟩)))
          | with_reducible refine xTwo_intro ?_ ?_
          | (with_reducible refine xCond_split (fun hcd => ?_) (fun hcd => ?_) <;> (try (exfalso; clear hP hN; simp_all; done)) <;> (try (exfalso; simp at *; omega)))
          | with_reducible refine WP.block ?_
          | (with_reducible ((first | refine WP.skip ?_ | refine WP.exit ?_ | refine WP.ret ?_); simp [g9, g10, g11, g12, g14, hb9, hlt, hbl, hci, hc, haU, hUa, hUa', hab, hba, hba'])))
        refine WP.loopN [] t.cells.length (fun b st => st.t 9 = .ptr 9 0 ∧ st.t 10 = .pv (zs p) ∧ st.t 11 = .pv (.sl (U.map B)) ∧ st.t 12 = .pv (.sl ((boxesL t).map iv)) ∧ st.t 14 = .pv (Z a) ∧ st.t 15 = .pv (Z b) ∧ st.h 9 = some (.box [.pv (iv t.root), .pv (.sl (t.cells.map encC))] true false)) (by simp [g9, g10, g11, g12, g14, hb9]) ?_
        rintro b st' hb ⟨y9, y10, y11, y12, y14, y15, yb9⟩
        by_cases hbt : b < t.cells.length
        · have hwb := wr_succ hbt (by omega)
          have hbU : b < U.length := by omega
          have hbb : b < (boxesL t).length := by omega
          obtain ⟨hbb1, hbbl⟩ := hbg b hbt
          have hbb' := get_of hbb1 hbb
          generalize hd : t.cells[b] = d at *
          have hdi : t.cells[b]? = some d := by rw [List.getElem?_eq_getElem hbt, hd]
          have cd := d65 d
          rw [hO b d hdi] at cd
          cases hob : opnT t b with
          | false =>
            rw [hob] at cd
            repeat' (first
              | with_reducible refine WP.seq ?_
              | (with_reducible ((first | refine WP.region (hn := []) ?_ | refine xC_intro (co) ?_ | refine xC_intro (cd) ?_ | refine WP.cond' ?_); simp -implicitDefEqProofs (maxSteps := 2000000) [hP, hN, y9, y10, y11, y12, y14, y15, yb9, hbt, hbl, hwb, hlt, hci, hc, hdi, hd]))
              | (with_reducible ((first | refine WP.draw (hn := []) (by rw [hP]; kernel_rfl) (by kernel_rfl) ?_ | refine yC_intro (co) ?_ | refine yC_intro (cd) ?_); simp -implicitDefEqProofs (maxSteps := 2000000) [hP, hN, y9, y10, y11, y12, y14, y15, yb9, hbt, hbl, hwb, hlt, hci, hc, hdi, hd]; (try refine ⟨by kernel_rfl, ?_⟩)))
              | (with_reducible refine xB_split (by simp [y9, y10, y11, y12, y14, y15, yb9, hbt, hbl, hwb, hlt, hci, hc, hdi, hd]) (fun hgd => ?_) (fun hgd => ?_) <;> first | (exfalso; simp at hgd; done) | (exfalso; simp at hgd; omega) | simp -implicitDefEqProofs (maxSteps := 2000000) [hP, hN, y9, y10, y11, y12, y14, y15, yb9, hbt, hbl, hwb, hlt, hci, hc, hdi, hd])
              | (with_reducible refine yB_split (by simp [y9, y10, y11, y12, y14, y15, yb9, hbt, hbl, hwb, hlt, hci, hc, hdi, hd]) (fun hgd => ?_) (fun hgd => ?_) <;> first | (exfalso; simp at hgd; done) | (exfalso; simp at hgd; omega) | (simp -implicitDefEqProofs (maxSteps := 2000000) [hP, hN, y9, y10, y11, y12, y14, y15, yb9, hbt, hbl, hwb, hlt, hci, hc, hdi, hd] <;> (try refine ⟨by kernel_rfl, ?_⟩)))
              | with_reducible refine xTwo_intro ?_ ?_
              | (with_reducible refine xCond_split (fun hcd => ?_) (fun hcd => ?_) <;> (try (exfalso; clear hP hN; simp_all; done)) <;> (try (exfalso; simp at *; omega)))
              | with_reducible refine WP.block ?_
              | (with_reducible ((first | refine WP.skip ?_ | refine WP.exit ?_ | refine WP.ret ?_); simp [y9, y10, y11, y12, y14, y15, yb9, hbt, hbl, hwb, hlt, hci, hc, hdi, hd])))
          | true =>
          rw [hob] at cd
          have ctt := d55 (boxAt t (a : Int)) (boxAt t (b : Int)) hbal hbbl
          rw [touchL_eq] at ctt
          cases htc : touchC (boxAt t (a : Int)) (boxAt t (b : Int)) with
          | false =>
            rw [htc] at ctt
            repeat' (first
              | with_reducible refine WP.seq ?_
              | (with_reducible ((first | refine WP.region (hn := []) ?_ | refine xC_intro (co) ?_ | refine xC_intro (cd) ?_ | refine xC_intro (ctt) ?_ | refine WP.cond' ?_); simp -implicitDefEqProofs (maxSteps := 2000000) [hP, hN, y9, y10, y11, y12, y14, y15, yb9, hbt, hbl, hwb, hlt, hci, hc, hdi, hd, hab, hba, hba', hbb, hbb1, hbb']))
              | (with_reducible ((first | refine WP.draw (hn := []) (by rw [hP]; kernel_rfl) (by kernel_rfl) ?_ | refine yC_intro (co) ?_ | refine yC_intro (cd) ?_ | refine yC_intro (ctt) ?_); simp -implicitDefEqProofs (maxSteps := 2000000) [hP, hN, y9, y10, y11, y12, y14, y15, yb9, hbt, hbl, hwb, hlt, hci, hc, hdi, hd, hab, hba, hba', hbb, hbb1, hbb']; (try refine ⟨by kernel_rfl, ?_⟩)))
              | (with_reducible refine xB_split (by simp [y9, y10, y11, y12, y14, y15, yb9, hbt, hbl, hwb, hlt, hci, hc, hdi, hd, hab, hba, hba', hbb, hbb1, hbb']) (fun hgd => ?_) (fun hgd => ?_) <;> first | (exfalso; simp at hgd; done) | (exfalso; simp at hgd; omega) | simp -implicitDefEqProofs (maxSteps := 2000000) [hP, hN, y9, y10, y11, y12, y14, y15, yb9, hbt, hbl, hwb, hlt, hci, hc, hdi, hd, hab, hba, hba', hbb, hbb1, hbb'])
              | (with_reducible refine yB_split (by simp [y9, y10, y11, y12, y14, y15, yb9, hbt, hbl, hwb, hlt, hci, hc, hdi, hd, hab, hba, hba', hbb, hbb1, hbb']) (fun hgd => ?_) (fun hgd => ?_) <;> first | (exfalso; simp at hgd; done) | (exfalso; simp at hgd; omega) | (simp -implicitDefEqProofs (maxSteps := 2000000) [hP, hN, y9, y10, y11, y12, y14, y15, yb9, hbt, hbl, hwb, hlt, hci, hc, hdi, hd, hab, hba, hba', hbb, hbb1, hbb'] <;> (try refine ⟨by kernel_rfl, ?_⟩)))
              | with_reducible refine xTwo_intro ?_ ?_
              | (with_reducible refine xCond_split (fun hcd => ?_) (fun hcd => ?_) <;> (try (exfalso; clear hP hN; simp_all; done)) <;> (try (exfalso; simp at *; omega)))
              | with_reducible refine WP.block ?_
              | (with_reducible ((first | refine WP.skip ?_ | refine WP.exit ?_ | refine WP.ret ?_); simp [y9, y10, y11, y12, y14, y15, yb9, hbt, hbl, hwb, hlt, hci, hc, hdi, hd, hab, hba, hba', hbb, hbb1, hbb'])))
          | true =>
          rw [htc] at ctt
          have hUb := opL_get hbU
          have hUb' := get_of hUb hbU
          have hmkb : mk1 U b ↔ opL U b = true := by unfold mk1; rw [hUb]; simp
          have e1 := hcl b hbt
          have e2 := hcl2 b
          have htw : tchT t b a = true := by rw [touchT_swap hv hbt hlt]; exact htc
          simp only [hmkb, hob, htw, show tchT t a b = true from htc, forall_const, true_implies] at e1 e2
          generalize opL U b = ub at *
          cases ub
          · simp at e1
          · skip
            repeat' (first
              | with_reducible refine WP.seq ?_
              | (with_reducible ((first | refine WP.region (hn := []) ?_ | refine xC_intro (co) ?_ | refine xC_intro (cd) ?_ | refine xC_intro (ctt) ?_ | refine WP.cond' ?_); simp -implicitDefEqProofs (maxSteps := 2000000) [hP, hN, y9, y10, y11, y12, y14, y15, yb9, hbt, hbl, hwb, hlt, hci, hc, hdi, hd, hab, hba, hba', hbb, hbb1, hbb', haU, hUa, hUa', hbU, hUb, hUb']))
              | (with_reducible ((first | refine WP.draw (hn := []) (by rw [hP]; kernel_rfl) (by kernel_rfl) ?_ | refine yC_intro (co) ?_ | refine yC_intro (cd) ?_ | refine yC_intro (ctt) ?_); simp -implicitDefEqProofs (maxSteps := 2000000) [hP, hN, y9, y10, y11, y12, y14, y15, yb9, hbt, hbl, hwb, hlt, hci, hc, hdi, hd, hab, hba, hba', hbb, hbb1, hbb', haU, hUa, hUa', hbU, hUb, hUb']; (try refine ⟨by kernel_rfl, ?_⟩)))
              | (with_reducible refine xB_split (by simp [y9, y10, y11, y12, y14, y15, yb9, hbt, hbl, hwb, hlt, hci, hc, hdi, hd, hab, hba, hba', hbb, hbb1, hbb', haU, hUa, hUa', hbU, hUb, hUb']) (fun hgd => ?_) (fun hgd => ?_) <;> first | (exfalso; simp at hgd; done) | (exfalso; simp at hgd; omega) | simp -implicitDefEqProofs (maxSteps := 2000000) [hP, hN, y9, y10, y11, y12, y14, y15, yb9, hbt, hbl, hwb, hlt, hci, hc, hdi, hd, hab, hba, hba', hbb, hbb1, hbb', haU, hUa, hUa', hbU, hUb, hUb'])
              | (with_reducible refine yB_split (by simp [y9, y10, y11, y12, y14, y15, yb9, hbt, hbl, hwb, hlt, hci, hc, hdi, hd, hab, hba, hba', hbb, hbb1, hbb', haU, hUa, hUa', hbU, hUb, hUb']) (fun hgd => ?_) (fun hgd => ?_) <;> first | (exfalso; simp at hgd; done) | (exfalso; simp at hgd; omega) | (simp -implicitDefEqProofs (maxSteps := 2000000) [hP, hN, y9, y10, y11, y12, y14, y15, yb9, hbt, hbl, hwb, hlt, hci, hc, hdi, hd, hab, hba, hba', hbb, hbb1, hbb', haU, hUa, hUa', hbU, hUb, hUb'] <;> (try refine ⟨by kernel_rfl, ?_⟩)))
              | with_reducible refine xTwo_intro ?_ ?_
              | (with_reducible refine xCond_split (fun hcd => ?_) (fun hcd => ?_) <;> (try (exfalso; clear hP hN; simp_all; done)) <;> (try (exfalso; simp at *; omega)))
              | with_reducible refine WP.block ?_
              | (with_reducible ((first | refine WP.skip ?_ | refine WP.exit ?_ | refine WP.ret ?_); simp [y9, y10, y11, y12, y14, y15, yb9, hbt, hbl, hwb, hlt, hci, hc, hdi, hd, hab, hba, hba', hbb, hbb1, hbb', haU, hUa, hUa', hbU, hUb, hUb'])))
        · skip
          repeat' (first
            | with_reducible refine WP.seq ?_
            | (with_reducible ((first | refine WP.region (hn := []) ?_ | refine WP.cond' ?_); simp -implicitDefEqProofs (maxSteps := 2000000) [hP, hN, y9, y10, y11, y12, y14, y15, yb9, hbt, hbl, hw]))
            | (with_reducible ((first | refine WP.draw (hn := []) (by rw [hP]; kernel_rfl) (by kernel_rfl) ?_); simp -implicitDefEqProofs (maxSteps := 2000000) [hP, hN, y9, y10, y11, y12, y14, y15, yb9, hbt, hbl, hw]; (try refine ⟨by kernel_rfl, ?_⟩)))
            | (with_reducible refine xB_split (by simp [y9, y10, y11, y12, y14, y15, yb9, hbt, hbl, hw]) (fun hgd => ?_) (fun hgd => ?_) <;> first | (exfalso; simp at hgd; done) | (exfalso; simp at hgd; omega) | simp -implicitDefEqProofs (maxSteps := 2000000) [hP, hN, y9, y10, y11, y12, y14, y15, yb9, hbt, hbl, hw])
            | (with_reducible refine yB_split (by simp [y9, y10, y11, y12, y14, y15, yb9, hbt, hbl, hw]) (fun hgd => ?_) (fun hgd => ?_) <;> first | (exfalso; simp at hgd; done) | (exfalso; simp at hgd; omega) | (simp -implicitDefEqProofs (maxSteps := 2000000) [hP, hN, y9, y10, y11, y12, y14, y15, yb9, hbt, hbl, hw] <;> (try refine ⟨by kernel_rfl, ?_⟩)))
            | with_reducible refine xTwo_intro ?_ ?_
            | (with_reducible refine xCond_split (fun hcd => ?_) (fun hcd => ?_) <;> (try (exfalso; clear hP hN; simp_all; done)) <;> (try (exfalso; simp at *; omega)))
            | with_reducible refine WP.block ?_
            | (with_reducible ((first | refine WP.skip ?_ | refine WP.exit ?_ | refine WP.ret ?_); simp [y9, y10, y11, y12, y14, y15, yb9, hbt, hbl, hw])))
          all_goals omega
    · skip
      · skip
        repeat' (first
          | with_reducible refine WP.seq ?_
          | (with_reducible ((first | refine WP.region (hn := []) ?_ | refine xC_intro (co) ?_ | refine xC_intro (chh) ?_ | refine WP.cond' ?_); simp -implicitDefEqProofs (maxSteps := 2000000) [hP, hN, g9, g10, g11, g12, g14, hb9, hlt, hbl, hci, hc, haU, hUa, hUa', hab, hba, hba']))
          | (with_reducible ((first | refine WP.draw (hn := []) (by rw [hP]; kernel_rfl) (by kernel_rfl) ?_ | refine yC_intro (co) ?_ | refine yC_intro (chh) ?_); simp -implicitDefEqProofs (maxSteps := 2000000) [hP, hN, g9, g10, g11, g12, g14, hb9, hlt, hbl, hci, hc, haU, hUa, hUa', hab, hba, hba']; (try refine ⟨by kernel_rfl, ?_⟩)))
          | (with_reducible refine xB_split (by simp [g9, g10, g11, g12, g14, hb9, hlt, hbl, hci, hc, haU, hUa, hUa', hab, hba, hba']) (fun hgd => ?_) (fun hgd => ?_) <;> first | (exfalso; simp at hgd; done) | (exfalso; simp at hgd; omega) | simp -implicitDefEqProofs (maxSteps := 2000000) [hP, hN, g9, g10, g11, g12, g14, hb9, hlt, hbl, hci, hc, haU, hUa, hUa', hab, hba, hba'])
          | (with_reducible refine yB_split (by simp [g9, g10, g11, g12, g14, hb9, hlt, hbl, hci, hc, haU, hUa, hUa', hab, hba, hba']) (fun hgd => ?_) (fun hgd => ?_) <;> first | (exfalso; simp at hgd; done) | (exfalso; simp at hgd; omega) | (simp -implicitDefEqProofs (maxSteps := 2000000) [hP, hN, g9, g10, g11, g12, g14, hb9, hlt, hbl, hci, hc, haU, hUa, hUa', hab, hba, hba'] <;> (try refine ⟨by kernel_rfl, ?_⟩)))
          | with_reducible refine xTwo_intro ?_ ?_
          | (with_reducible refine xCond_split (fun hcd => ?_) (fun hcd => ?_) <;> (try (exfalso; clear hP hN; simp_all; done)) <;> (try (exfalso; simp at *; omega)))
          | with_reducible refine WP.block ?_
          | (with_reducible ((first | refine WP.skip ?_ | refine WP.exit ?_ | refine WP.ret ?_); simp [g9, g10, g11, g12, g14, hb9, hlt, hbl, hci, hc, haU, hUa, hUa', hab, hba, hba'])))
        refine WP.loopN [] t.cells.length (fun b st => st.t 9 = .ptr 9 0 ∧ st.t 10 = .pv (zs p) ∧ st.t 11 = .pv (.sl (U.map B)) ∧ st.t 12 = .pv (.sl ((boxesL t).map iv)) ∧ st.t 14 = .pv (Z a) ∧ st.t 15 = .pv (Z b) ∧ st.h 9 = some (.box [.pv (iv t.root), .pv (.sl (t.cells.map encC))] true false)) (by simp [g9, g10, g11, g12, g14, hb9]) ?_
        rintro b st' hb ⟨y9, y10, y11, y12, y14, y15, yb9⟩
        by_cases hbt : b < t.cells.length
        · have hwb := wr_succ hbt (by omega)
          have hbU : b < U.length := by omega
          have hbb : b < (boxesL t).length := by omega
          obtain ⟨hbb1, hbbl⟩ := hbg b hbt
          have hbb' := get_of hbb1 hbb
          generalize hd : t.cells[b] = d at *
          have hdi : t.cells[b]? = some d := by rw [List.getElem?_eq_getElem hbt, hd]
          have cd := d65 d
          rw [hO b d hdi] at cd
          cases hob : opnT t b with
          | false =>
            rw [hob] at cd
            repeat' (first
              | with_reducible refine WP.seq ?_
              | (with_reducible ((first | refine WP.region (hn := []) ?_ | refine xC_intro (co) ?_ | refine xC_intro (cd) ?_ | refine WP.cond' ?_); simp -implicitDefEqProofs (maxSteps := 2000000) [hP, hN, y9, y10, y11, y12, y14, y15, yb9, hbt, hbl, hwb, hlt, hci, hc, hdi, hd]))
              | (with_reducible ((first | refine WP.draw (hn := []) (by rw [hP]; kernel_rfl) (by kernel_rfl) ?_ | refine yC_intro (co) ?_ | refine yC_intro (cd) ?_); simp -implicitDefEqProofs (maxSteps := 2000000) [hP, hN, y9, y10, y11, y12, y14, y15, yb9, hbt, hbl, hwb, hlt, hci, hc, hdi, hd]; (try refine ⟨by kernel_rfl, ?_⟩)))
              | (with_reducible refine xB_split (by simp [y9, y10, y11, y12, y14, y15, yb9, hbt, hbl, hwb, hlt, hci, hc, hdi, hd]) (fun hgd => ?_) (fun hgd => ?_) <;> first | (exfalso; simp at hgd; done) | (exfalso; simp at hgd; omega) | simp -implicitDefEqProofs (maxSteps := 2000000) [hP, hN, y9, y10, y11, y12, y14, y15, yb9, hbt, hbl, hwb, hlt, hci, hc, hdi, hd])
              | (with_reducible refine yB_split (by simp [y9, y10, y11, y12, y14, y15, yb9, hbt, hbl, hwb, hlt, hci, hc, hdi, hd]) (fun hgd => ?_) (fun hgd => ?_) <;> first | (exfalso; simp at hgd; done) | (exfalso; simp at hgd; omega) | (simp -implicitDefEqProofs (maxSteps := 2000000) [hP, hN, y9, y10, y11, y12, y14, y15, yb9, hbt, hbl, hwb, hlt, hci, hc, hdi, hd] <;> (try refine ⟨by kernel_rfl, ?_⟩)))
              | with_reducible refine xTwo_intro ?_ ?_
              | (with_reducible refine xCond_split (fun hcd => ?_) (fun hcd => ?_) <;> (try (exfalso; clear hP hN; simp_all; done)) <;> (try (exfalso; simp at *; omega)))
              | with_reducible refine WP.block ?_
              | (with_reducible ((first | refine WP.skip ?_ | refine WP.exit ?_ | refine WP.ret ?_); simp [y9, y10, y11, y12, y14, y15, yb9, hbt, hbl, hwb, hlt, hci, hc, hdi, hd])))
          | true =>
          rw [hob] at cd
          have ctt := d55 (boxAt t (a : Int)) (boxAt t (b : Int)) hbal hbbl
          rw [touchL_eq] at ctt
          cases htc : touchC (boxAt t (a : Int)) (boxAt t (b : Int)) with
          | false =>
            rw [htc] at ctt
            repeat' (first
              | with_reducible refine WP.seq ?_
              | (with_reducible ((first | refine WP.region (hn := []) ?_ | refine xC_intro (co) ?_ | refine xC_intro (cd) ?_ | refine xC_intro (ctt) ?_ | refine WP.cond' ?_); simp -implicitDefEqProofs (maxSteps := 2000000) [hP, hN, y9, y10, y11, y12, y14, y15, yb9, hbt, hbl, hwb, hlt, hci, hc, hdi, hd, hab, hba, hba', hbb, hbb1, hbb']))
              | (with_reducible ((first | refine WP.draw (hn := []) (by rw [hP]; kernel_rfl) (by kernel_rfl) ?_ | refine yC_intro (co) ?_ | refine yC_intro (cd) ?_ | refine yC_intro (ctt) ?_); simp -implicitDefEqProofs (maxSteps := 2000000) [hP, hN, y9, y10, y11, y12, y14, y15, yb9, hbt, hbl, hwb, hlt, hci, hc, hdi, hd, hab, hba, hba', hbb, hbb1, hbb']; (try refine ⟨by kernel_rfl, ?_⟩)))
              | (with_reducible refine xB_split (by simp [y9, y10, y11, y12, y14, y15, yb9, hbt, hbl, hwb, hlt, hci, hc, hdi, hd, hab, hba, hba', hbb, hbb1, hbb']) (fun hgd => ?_) (fun hgd => ?_) <;> first | (exfalso; simp at hgd; done) | (exfalso; simp at hgd; omega) | simp -implicitDefEqProofs (maxSteps := 2000000) [hP, hN, y9, y10, y11, y12, y14, y15, yb9, hbt, hbl, hwb, hlt, hci, hc, hdi, hd, hab, hba, hba', hbb, hbb1, hbb'])
              | (with_reducible refine yB_split (by simp [y9, y10, y11, y12, y14, y15, yb9, hbt, hbl, hwb, hlt, hci, hc, hdi, hd, hab, hba, hba', hbb, hbb1, hbb']) (fun hgd => ?_) (fun hgd => ?_) <;> first | (exfalso; simp at hgd; done) | (exfalso; simp at hgd; omega) | (simp -implicitDefEqProofs (maxSteps := 2000000) [hP, hN, y9, y10, y11, y12, y14, y15, yb9, hbt, hbl, hwb, hlt, hci, hc, hdi, hd, hab, hba, hba', hbb, hbb1, hbb'] <;> (try refine ⟨by kernel_rfl, ?_⟩)))
              | with_reducible refine xTwo_intro ?_ ?_
              | (with_reducible refine xCond_split (fun hcd => ?_) (fun hcd => ?_) <;> (try (exfalso; clear hP hN; simp_all; done)) <;> (try (exfalso; simp at *; omega)))
              | with_reducible refine WP.block ?_
              | (with_reducible ((first | refine WP.skip ?_ | refine WP.exit ?_ | refine WP.ret ?_); simp [y9, y10, y11, y12, y14, y15, yb9, hbt, hbl, hwb, hlt, hci, hc, hdi, hd, hab, hba, hba', hbb, hbb1, hbb'])))
          | true =>
          rw [htc] at ctt
          have hUb := opL_get hbU
          have hUb' := get_of hUb hbU
          have hmkb : mk1 U b ↔ opL U b = true := by unfold mk1; rw [hUb]; simp
          have e1 := hcl b hbt
          have e2 := hcl2 b
          have htw : tchT t b a = true := by rw [touchT_swap hv hbt hlt]; exact htc
          simp only [hmkb, hob, htw, show tchT t a b = true from htc, forall_const, true_implies] at e1 e2
          generalize opL U b = ub at *
          cases ub
          · skip
            repeat' (first
              | with_reducible refine WP.seq ?_
              | (with_reducible ((first | refine WP.region (hn := []) ?_ | refine xC_intro (co) ?_ | refine xC_intro (cd) ?_ | refine xC_intro (ctt) ?_ | refine WP.cond' ?_); simp -implicitDefEqProofs (maxSteps := 2000000) [hP, hN, y9, y10, y11, y12, y14, y15, yb9, hbt, hbl, hwb, hlt, hci, hc, hdi, hd, hab, hba, hba', hbb, hbb1, hbb', haU, hUa, hUa', hbU, hUb, hUb']))
              | (with_reducible ((first | refine WP.draw (hn := []) (by rw [hP]; kernel_rfl) (by kernel_rfl) ?_ | refine yC_intro (co) ?_ | refine yC_intro (cd) ?_ | refine yC_intro (ctt) ?_); simp -implicitDefEqProofs (maxSteps := 2000000) [hP, hN, y9, y10, y11, y12, y14, y15, yb9, hbt, hbl, hwb, hlt, hci, hc, hdi, hd, hab, hba, hba', hbb, hbb1, hbb', haU, hUa, hUa', hbU, hUb, hUb']; (try refine ⟨by kernel_rfl, ?_⟩)))
              | (with_reducible refine xB_split (by simp [y9, y10, y11, y12, y14, y15, yb9, hbt, hbl, hwb, hlt, hci, hc, hdi, hd, hab, hba, hba', hbb, hbb1, hbb', haU, hUa, hUa', hbU, hUb, hUb']) (fun hgd => ?_) (fun hgd => ?_) <;> first | (exfalso; simp at hgd; done) | (exfalso; simp at hgd; omega) | simp -implicitDefEqProofs (maxSteps := 2000000) [hP, hN, y9, y10, y11, y12, y14, y15, yb9, hbt, hbl, hwb, hlt, hci, hc, hdi, hd, hab, hba, hba', hbb, hbb1, hbb', haU, hUa, hUa', hbU, hUb, hUb'])
              | (with_reducible refine yB_split (by simp [y9, y10, y11, y12, y14, y15, yb9, hbt, hbl, hwb, hlt, hci, hc, hdi, hd, hab, hba, hba', hbb, hbb1, hbb', haU, hUa, hUa', hbU, hUb, hUb']) (fun hgd => ?_) (fun hgd => ?_) <;> first | (exfalso; simp at hgd; done) | (exfalso; simp at hgd; omega) | (simp -implicitDefEqProofs (maxSteps := 2000000) [hP, hN, y9, y10, y11, y12, y14, y15, yb9, hbt, hbl, hwb, hlt, hci, hc, hdi, hd, hab, hba, hba', hbb, hbb1, hbb', haU, hUa, hUa', hbU, hUb, hUb'] <;> (try refine ⟨by kernel_rfl, ?_⟩)))
              | with_reducible refine xTwo_intro ?_ ?_
              | (with_reducible refine xCond_split (fun hcd => ?_) (fun hcd => ?_) <;> (try (exfalso; clear hP hN; simp_all; done)) <;> (try (exfalso; simp at *; omega)))
              | with_reducible refine WP.block ?_
              | (with_reducible ((first | refine WP.skip ?_ | refine WP.exit ?_ | refine WP.ret ?_); simp [y9, y10, y11, y12, y14, y15, yb9, hbt, hbl, hwb, hlt, hci, hc, hdi, hd, hab, hba, hba', hbb, hbb1, hbb', haU, hUa, hUa', hbU, hUb, hUb'])))
          · simp at e2
        · skip
          repeat' (first
            | with_reducible refine WP.seq ?_
            | (with_reducible ((first | refine WP.region (hn := []) ?_ | refine WP.cond' ?_); simp -implicitDefEqProofs (maxSteps := 2000000) [hP, hN, y9, y10, y11, y12, y14, y15, yb9, hbt, hbl, hw]))
            | (with_reducible ((first | refine WP.draw (hn := []) (by rw [hP]; kernel_rfl) (by kernel_rfl) ?_); simp -implicitDefEqProofs (maxSteps := 2000000) [hP, hN, y9, y10, y11, y12, y14, y15, yb9, hbt, hbl, hw]; (try refine ⟨by kernel_rfl, ?_⟩)))
            | (with_reducible refine xB_split (by simp [y9, y10, y11, y12, y14, y15, yb9, hbt, hbl, hw]) (fun hgd => ?_) (fun hgd => ?_) <;> first | (exfalso; simp at hgd; done) | (exfalso; simp at hgd; omega) | simp -implicitDefEqProofs (maxSteps := 2000000) [hP, hN, y9, y10, y11, y12, y14, y15, yb9, hbt, hbl, hw])
            | (with_reducible refine yB_split (by simp [y9, y10, y11, y12, y14, y15, yb9, hbt, hbl, hw]) (fun hgd => ?_) (fun hgd => ?_) <;> first | (exfalso; simp at hgd; done) | (exfalso; simp at hgd; omega) | (simp -implicitDefEqProofs (maxSteps := 2000000) [hP, hN, y9, y10, y11, y12, y14, y15, yb9, hbt, hbl, hw] <;> (try refine ⟨by kernel_rfl, ?_⟩)))
            | with_reducible refine xTwo_intro ?_ ?_
            | (with_reducible refine xCond_split (fun hcd => ?_) (fun hcd => ?_) <;> (try (exfalso; clear hP hN; simp_all; done)) <;> (try (exfalso; simp at *; omega)))
            | with_reducible refine WP.block ?_
            | (with_reducible ((first | refine WP.skip ?_ | refine WP.exit ?_ | refine WP.ret ?_); simp [y9, y10, y11, y12, y14, y15, yb9, hbt, hbl, hw])))
          all_goals omega
    · skip
      · skip
        repeat' (first
          | with_reducible refine WP.seq ?_
          | (with_reducible ((first | refine WP.region (hn := []) ?_ | refine xC_intro (co) ?_ | refine xC_intro (chh) ?_ | refine WP.cond' ?_); simp -implicitDefEqProofs (maxSteps := 2000000) [hP, hN, g9, g10, g11, g12, g14, hb9, hlt, hbl, hci, hc, haU, hUa, hUa', hab, hba, hba']))
          | (with_reducible ((first | refine WP.draw (hn := []) (by rw [hP]; kernel_rfl) (by kernel_rfl) ?_ | refine yC_intro (co) ?_ | refine yC_intro (chh) ?_); simp -implicitDefEqProofs (maxSteps := 2000000) [hP, hN, g9, g10, g11, g12, g14, hb9, hlt, hbl, hci, hc, haU, hUa, hUa', hab, hba, hba']; (try refine ⟨by kernel_rfl, ?_⟩)))
          | (with_reducible refine xB_split (by simp [g9, g10, g11, g12, g14, hb9, hlt, hbl, hci, hc, haU, hUa, hUa', hab, hba, hba']) (fun hgd => ?_) (fun hgd => ?_) <;> first | (exfalso; simp at hgd; done) | (exfalso; simp at hgd; omega) | simp -implicitDefEqProofs (maxSteps := 2000000) [hP, hN, g9, g10, g11, g12, g14, hb9, hlt, hbl, hci, hc, haU, hUa, hUa', hab, hba, hba'])
          | (with_reducible refine yB_split (by simp [g9, g10, g11, g12, g14, hb9, hlt, hbl, hci, hc, haU, hUa, hUa', hab, hba, hba']) (fun hgd => ?_) (fun hgd => ?_) <;> first | (exfalso; simp at hgd; done) | (exfalso; simp at hgd; omega) | (simp -implicitDefEqProofs (maxSteps := 2000000) [hP, hN, g9, g10, g11, g12, g14, hb9, hlt, hbl, hci, hc, haU, hUa, hUa', hab, hba, hba'] <;> (try refine ⟨by kernel_rfl, ?_⟩)))
          | with_reducible refine xTwo_intro ?_ ?_
          | (with_reducible refine xCond_split (fun hcd => ?_) (fun hcd => ?_) <;> (try (exfalso; clear hP hN; simp_all; done)) <;> (try (exfalso; simp at *; omega)))
          | with_reducible refine WP.block ?_
          | (with_reducible ((first | refine WP.skip ?_ | refine WP.exit ?_ | refine WP.ret ?_); simp [g9, g10, g11, g12, g14, hb9, hlt, hbl, hci, hc, haU, hUa, hUa', hab, hba, hba'])))
        refine WP.loopN [] t.cells.length (fun b st => st.t 9 = .ptr 9 0 ∧ st.t 10 = .pv (zs p) ∧ st.t 11 = .pv (.sl (U.map B)) ∧ st.t 12 = .pv (.sl ((boxesL t).map iv)) ∧ st.t 14 = .pv (Z a) ∧ st.t 15 = .pv (Z b) ∧ st.h 9 = some (.box [.pv (iv t.root), .pv (.sl (t.cells.map encC))] true false)) (by simp [g9, g10, g11, g12, g14, hb9]) ?_
        rintro b st' hb ⟨y9, y10, y11, y12, y14, y15, yb9⟩
        by_cases hbt : b < t.cells.length
        · have hwb := wr_succ hbt (by omega)
          repeat' (first
            | with_reducible refine WP.seq ?_
            | (with_reducible ((first | refine WP.region (hn := []) ?_ | refine xC_intro (co) ?_ | refine WP.cond' ?_); simp -implicitDefEqProofs (maxSteps := 2000000) [hP, hN, y9, y10, y11, y12, y14, y15, yb9, hbt, hbl, hwb, hlt, hci, hc]))
            | (with_reducible ((first | refine WP.draw (hn := []) (by rw [hP]; kernel_rfl) (by kernel_rfl) ?_ | refine yC_intro (co) ?_); simp -implicitDefEqProofs (maxSteps := 2000000) [hP, hN, y9, y10, y11, y12, y14, y15, yb9, hbt, hbl, hwb, hlt, hci, hc]; (try refine ⟨by kernel_rfl, ?_⟩)))
            | (with_reducible refine xB_split (by simp [y9, y10, y11, y12, y14, y15, yb9, hbt, hbl, hwb, hlt, hci, hc]) (fun hgd => ?_) (fun hgd => ?_) <;> first | (exfalso; simp at hgd; done) | (exfalso; simp at hgd; omega) | simp -implicitDefEqProofs (maxSteps := 2000000) [hP, hN, y9, y10, y11, y12, y14, y15, yb9, hbt, hbl, hwb, hlt, hci, hc])
            | (with_reducible refine yB_split (by simp [y9, y10, y11, y12, y14, y15, yb9, hbt, hbl, hwb, hlt, hci, hc]) (fun hgd => ?_) (fun hgd => ?_) <;> first | (exfalso; simp at hgd; done) | (exfalso; simp at hgd; omega) | (simp -implicitDefEqProofs (maxSteps := 2000000) [hP, hN, y9, y10, y11, y12, y14, y15, yb9, hbt, hbl, hwb, hlt, hci, hc] <;> (try refine ⟨by kernel_rfl, ?_⟩)))
            | with_reducible refine xTwo_intro ?_ ?_
            | (with_reducible refine xCond_split (fun hcd => ?_) (fun hcd => ?_) <;> (try (exfalso; clear hP hN; simp_all; done)) <;> (try (exfalso; simp at *; omega)))
            | with_reducible refine WP.block ?_
            | (with_reducible ((first | refine WP.skip ?_ | refine WP.exit ?_ | refine WP.ret ?_); simp [y9, y10, y11, y12, y14, y15, yb9, hbt, hbl, hwb, hlt, hci, hc])))
        · skip
          repeat' (first
            | with_reducible refine WP.seq ?_
            | (with_reducible ((first | refine WP.region (hn := []) ?_ | refine WP.cond' ?_); simp -implicitDefEqProofs (maxSteps := 2000000) [hP, hN, y9, y10, y11, y12, y14, y15, yb9, hbt, hbl, hw]))
            | (with_reducible ((first | refine WP.draw (hn := []) (by rw [hP]; kernel_rfl) (by kernel_rfl) ?_); simp -implicitDefEqProofs (maxSteps := 2000000) [hP, hN, y9, y10, y11, y12, y14, y15, yb9, hbt, hbl, hw]; (try refine ⟨by kernel_rfl, ?_⟩)))
            | (with_reducible refine xB_split (by simp [y9, y10, y11, y12, y14, y15, yb9, hbt, hbl, hw]) (fun hgd => ?_) (fun hgd => ?_) <;> first | (exfalso; simp at hgd; done) | (exfalso; simp at hgd; omega) | simp -implicitDefEqProofs (maxSteps := 2000000) [hP, hN, y9, y10, y11, y12, y14, y15, yb9, hbt, hbl, hw])
            | (with_reducible refine yB_split (by simp [y9, y10, y11, y12, y14, y15, yb9, hbt, hbl, hw]) (fun hgd => ?_) (fun hgd => ?_) <;> first | (exfalso; simp at hgd; done) | (exfalso; simp at hgd; omega) | (simp -implicitDefEqProofs (maxSteps := 2000000) [hP, hN, y9, y10, y11, y12, y14, y15, yb9, hbt, hbl, hw] <;> (try refine ⟨by kernel_rfl, ?_⟩)))
            | with_reducible refine xTwo_intro ?_ ?_
            | (with_reducible refine xCond_split (fun hcd => ?_) (fun hcd => ?_) <;> (try (exfalso; clear hP hN; simp_all; done)) <;> (try (exfalso; simp at *; omega)))
            | with_reducible refine WP.block ?_
            | (with_reducible ((first | refine WP.skip ?_ | refine WP.exit ?_ | refine WP.ret ?_); simp [y9, y10, y11, y12, y14, y15, yb9, hbt, hbl, hw])))
          all_goals omega
  · skip
    repeat' (first
      | with_reducible refine WP.seq ?_
      | (with_reducible ((first | refine WP.region (hn := []) ?_ | refine xC_intro (d56) ?_ | refine WP.cond' ?_); simp -implicitDefEqProofs (maxSteps := 2000000) [hP, hN, g9, g10, g11, g12, g14, hb9, hlt, hbl]))
      | (with_reducible ((first | refine WP.draw (hn := []) (by rw [hP]; kernel_rfl) (by kernel_rfl) ?_ | refine yC_intro (d56) ?_); simp -implicitDefEqProofs (maxSteps := 2000000) [hP, hN, g9, g10, g11, g12, g14, hb9, hlt, hbl]; (try refine ⟨by kernel_rfl, ?_⟩)))
      | (with_reducible refine xB_split (by simp [g9, g10, g11, g12, g14, hb9, hlt, hbl]) (fun hgd => ?_) (fun hgd => ?_) <;> first | (exfalso; simp at hgd; done) | (exfalso; simp at hgd; omega) | simp -implicitDefEqProofs (maxSteps := 2000000) [hP, hN, g9, g10, g11, g12, g14, hb9, hlt, hbl])
      | (with_reducible refine yB_split (by simp [g9, g10, g11, g12, g14, hb9, hlt, hbl]) (fun hgd => ?_) (fun hgd => ?_) <;> first | (exfalso; simp at hgd; done) | (exfalso; simp at hgd; omega) | (simp -implicitDefEqProofs (maxSteps := 2000000) [hP, hN, g9, g10, g11, g12, g14, hb9, hlt, hbl] <;> (try refine ⟨by kernel_rfl, ?_⟩)))
      | with_reducible refine xTwo_intro ?_ ?_
      | (with_reducible refine xCond_split (fun hcd => ?_) (fun hcd => ?_) <;> (try (exfalso; clear hP hN; simp_all; done)) <;> (try (exfalso; simp at *; omega)))
      | with_reducible refine WP.block ?_
      | (with_reducible ((first | refine WP.skip ?_ | refine WP.exit ?_ | refine WP.ret ?_); simp [g9, g10, g11, g12, g14, hb9, hlt, hbl])))
end Go.Ab
