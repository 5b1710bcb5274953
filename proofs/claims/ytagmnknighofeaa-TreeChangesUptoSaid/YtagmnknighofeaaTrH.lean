/- TrI, TrJ, TrN: as one text. -/
import Derived.Test.YtagmnknighofeaaTr3
import Derived.Test.YtagmnknighofeaaTrA
import Derived.Test.YtagmnknighofeaaAbC
set_option linter.all false
/- The leaves of a tree, as an iterator. -/
namespace Go.Ab
open Go.Proofs
abbrev zN' (n : Nat) : PV := Z (n : Int)
def leafPairs (t : Tr) : List (PV × PV) := (leavesL t).map fun i => (zN' i, iv (boxAt t (i : Int)))
def idx14 (a : Act) : Nat := match a.tmps.getD 14 undef with
  | .int _ v => v.toNat
  | _ => 0
def tL (l : Nat) (t : Tr) (i : Nat) : Nat → AV := fun m => if m = 0 then .pv (.val (.func (.yield l) #[] #[])) else if m = 1 then .pv (.rptr (encT t) 0) else if m = 12 then .pv (.sl ((boxesL t).map iv)) else if m = 13 then .pv (Z (boxesL t).length) else if m = 14 then .pv (Z i) else .undef
def keepT (l : Nat) (t : Tr) (i : Nat) (st : St) : Prop := st.t 0 = .pv (.val (.func (.yield l) #[] #[])) ∧ st.t 1 = .pv (.rptr (encT t) 0) ∧ st.t 12 = .pv (.sl ((boxesL t).map iv)) ∧ st.t 13 = .pv (Z (boxesL t).length) ∧ st.t 14 = .pv (Z i)
def tX (l : Nat) (t : Tr) (i : Nat) (x y : Nat) (p q : PV) : Nat → AV := fun m => if m = x then .pv p else if m = y then .pv q else tL l t i m
theorem hold_keep {M : Nat → Nat → Prop} {l : Nat} {t : Tr} {i : Nat} {st : St} {a : Act} {w : World} (h : Hold 33 M (pvO st.t) a w) (hk : keepT l t i st) : Hold 33 M (tL l t i) a w := h.sub (fun m => by
  obtain ⟨k0, k1, k12, k13, k14⟩ := hk
  unfold tL
  by_cases m0 : m = 0
  · subst m0; right; simp [pvO, k0]
  by_cases m1 : m = 1
  · subst m1; right; simp [pvO, k1]
  by_cases m12 : m = 12
  · subst m12; right; simp [pvO, k12]
  by_cases m13 : m = 13
  · subst m13; right; simp [pvO, k13]
  by_cases m14 : m = 14
  · subst m14; right; simp [pvO, k14]
  · left; simp [m0, m1, m12, m13, m14])
theorem hold_keepX {M : Nat → Nat → Prop} {l : Nat} {t : Tr} {i x y : Nat} {p q : PV} {st : St} {a : Act} {w : World} (h : Hold 33 M (pvO st.t) a w) (hk : keepT l t i st) (hx : st.t x = .pv p) (hy : st.t y = .pv q) : Hold 33 M (tX l t i x y p q) a w := by
  have h2 := hold_keep h hk
  refine ⟨h.1, fun m => ?_⟩
  unfold tX
  split
  · rename_i e; subst e
    have := h.2 m
    simp only [pvO, hx] at this
    exact this
  · split
    · rename_i e; subst e
      have := h.2 m
      simp only [pvO, hy] at this
      exact this
    · exact h2.2 m
theorem keepG {M : Nat → Nat → Prop} {l : Nat} {t : Tr} {i x y : Nat} {p q : PV} {tt : Nat → AV} {a : Act} {w : World} (h : Hold 33 M tt a w) (k0 : tt 0 = .pv (.val (.func (.yield l) #[] #[]))) (k1 : tt 1 = .pv (.rptr (encT t) 0)) (k12 : tt 12 = .pv (.sl ((boxesL t).map iv))) (k13 : tt 13 = .pv (Z (boxesL t).length)) (k14 : tt 14 = .pv (Z i)) (hx : tt x = .pv p) (hy : tt y = .pv q) : Hold 33 M (tX l t i x y p q) a w := h.sub (fun m => by
  unfold tX tL
  by_cases mx : m = x
  · subst mx; right; simp [hx]
  by_cases my : m = y
  · subst my; right; simp [mx, hy]
  by_cases m0 : m = 0
  · subst m0; right; simp [k0, mx, my]
  by_cases m1 : m = 1
  · subst m1; right; simp [k1, mx, my]
  by_cases m12 : m = 12
  · subst m12; right; simp [k12, mx, my]
  by_cases m13 : m = 13
  · subst m13; right; simp [k13, mx, my]
  by_cases m14 : m = 14
  · subst m14; right; simp [k14, mx, my]
  · left; simp [m0, m1, m12, m13, m14, mx, my])
theorem leavesN_get {t : Tr} {i : Nat} (hlf : leafN t i = true) : ∀ {n : Nat}, i < n → (leavesN t n)[(leavesN t i).length]? = some i
  | 0, h => by omega
  | n + 1, h => by
    rw [leavesN_succ]
    by_cases e : i = n
    · subst e
      rw [if_pos hlf]; simp
    · have ih := leavesN_get hlf (n := n) (by omega)
      have hlt := (List.getElem?_eq_some_iff.1 ih).1
      split
      · rw [List.getElem?_append_left hlt]; exact ih
      · exact ih
theorem Hold.put {N : Nat} {M : Nat → Nat → Prop} {t : Nat → AV} {a : Act} {w : World} (h : Hold N M t a w) {d : Nat} (hd : d < N) {p : PV} {v : Value} (hv : Rep w M p v) : Hold N M (upd t d (.pv p)) (a.put (some d) v) w := by
  have hd' : d < a.tmps.size := by rw [h.1]; exact hd
  refine ⟨by simpa [Act.put] using h.1, fun m => ?_⟩
  rw [getD_put hd']
  simp only [upd]
  split
  · exact .inr ⟨p, rfl, hv⟩
  · exact h.2 m
theorem res_nil {fn : Func} (h : fn.results = #[]) (tmps : Array Value) (P : Program) (w : World) : (results fn tmps).run P w = .ok (.tuple #[]) w := by
  unfold results
  rw [h]
  simp [go_sem]
theorem hold_val {N : Nat} {M : Nat → Nat → Prop} {t : Nat → AV} {a : Act} {w : World} (h : Hold N M t a w) {m : Nat} {v : Value} (e : t m = .pv (.val v)) : a.tmps.getD m undef = v := by
  rcases h.2 m with e' | ⟨p, e', hr⟩
  · rw [e] at e'; cases e'
  · rw [e] at e'; injection e' with e'; subst e'
    exact rep_val_inv hr
theorem hold_rep {N : Nat} {M : Nat → Nat → Prop} {t : Nat → AV} {a : Act} {w : World} (h : Hold N M t a w) {m : Nat} {p : PV} (e : t m = .pv p) : Rep w M p (a.tmps.getD m undef) := by
  rcases h.2 m with e' | ⟨p', e', hr⟩
  · rw [e] at e'; cases e'
  · rw [e] at e'; injection e' with e'; subst e'
    exact hr
set_option maxRecDepth 100000 in
set_option maxHeartbeats 8000000 in
theorem i148 (t : Tr) (hl : t.cells.length ≤ 9223372036854775807) : IterC Try.prog 148 [.rptr (encT t) 0] (leafPairs t) := by
  refine ⟨by kernel_rfl, fun n l lb W M J hJb hJg hY h0 hcap => ?_⟩
  obtain ⟨v1, rfl⟩ : ∃ v, lb = [v] := by
    have := hcap.1
    cases lb with
    | nil => simp at this
    | cons v r => cases r with
      | nil => exact ⟨v, rfl⟩
      | cons => simp at this
  have hrep1 : Rep W M (.rptr (encT t) 0) v1 := hcap.2 0 _ _ rfl rfl
  have hF := wide_wide
  have cb := d77 t hl
  refine callsIn_of_wp_marks Try.func148 rfl trivial ?_ rfl
  have H0 : Hold 33 M (fun m => if m = 0 then .pv (.val (.func (.yield l) #[] #[])) else if m = 1 then .pv (.rptr (encT t) 0) else .undef) { tmps := ((#[Value.func (.yield l) #[] #[]] : Array Value) ++ [v1].toArray) ++ Array.replicate (Try.f148.ntmps - ((#[Value.func (.yield l) #[] #[]] : Array Value) ++ [v1].toArray).size) undef, defers := [] } W := by
    refine ⟨by rw [Try.ntmps148]; simp, fun m => ?_⟩
    by_cases m0 : m = 0
    · subst m0; exact .inr ⟨_, rfl, by simp; exact .val _⟩
    · by_cases m1 : m = 1
      · subst m1; exact .inr ⟨_, rfl, by simpa using hrep1⟩
      · left; simp [m0, m1]
  -- the boxes
  refine wpIn_seq (wpIn_mono (H0.step (hJb 0 M W h0) (Q := fun e st' => e = .normal ∧ st'.t 0 = .pv (.val (.func (.yield l) #[] #[])) ∧ st'.t 1 = .pv (.rptr (encT t) 0) ∧ st'.t 3 = .pv (.sl ((boxesL t).map iv))) (fun C hP hN => ?_)) ?_)
  · skip
    repeat' (first
      | with_reducible refine WPT.seq ?_
      | (with_reducible ((first | refine WPT.region hF (hn := []) (by kernel_rfl) ?_ | refine xC_intro (cb) ?_ | refine WPT.cond' ?_); simp -implicitDefEqProofs (maxSteps := 2000000) [hP, hN]))
      | (with_reducible refine xB_split (by simp) (fun hgd => ?_) (fun hgd => ?_) <;> first | (exfalso; simp at hgd; done) | (exfalso; simp at hgd; omega) | simp -implicitDefEqProofs (maxSteps := 2000000) [hP, hN])
      | with_reducible refine xTwo_intro ?_ ?_
      | (with_reducible refine xCondT_split (fun hcd => ?_) (fun hcd => ?_) <;> (try (exfalso; clear hP hN; simp_all; done)) <;> (try (exfalso; simp at *; omega)))
      | with_reducible refine WPT.block ?_
      | (with_reducible ((first | refine WPT.skip ?_ | refine WPT.exit ?_ | refine WPT.ret ?_); simp)))
  rintro e a1 w1 ⟨st1, ⟨rfl, g0, g1, g3⟩, H1, hx1, hd1⟩
  have hJ1 := hJg 0 M W w1 h0 hx1
  have H1' : Hold 33 M (fun m => if m = 0 then .pv (.val (.func (.yield l) #[] #[])) else if m = 1 then .pv (.rptr (encT t) 0) else if m = 3 then .pv (.sl ((boxesL t).map iv)) else .undef) a1 w1 := H1.sub (fun m => by
    by_cases m0 : m = 0
    · subst m0; right; simp [pvO, g0]
    · by_cases m1 : m = 1
      · subst m1; right; simp [pvO, g1]
      · by_cases m3 : m = 3
        · subst m3; right; simp [pvO, g3]
        · left; simp [m0, m1, m3])
  show Code.wpIn Fence.wide n Try.prog _ _ a1 w1
  refine wpIn_seq (wpIn_mono (H1'.step (hJb 0 M w1 hJ1) (Q := fun e st' => e = .normal ∧ st'.t 0 = .pv (.val (.func (.yield l) #[] #[])) ∧ st'.t 1 = .pv (.rptr (encT t) 0) ∧ st'.t 12 = .pv (.sl ((boxesL t).map iv)) ∧ st'.t 13 = .pv (Z (boxesL t).length) ∧ st'.t 14 = .pv (Z 0)) (fun C hP hN => ?_)) ?_)
  · skip
    repeat' (first
      | with_reducible refine WPT.seq ?_
      | (with_reducible ((first | refine WPT.region hF (hn := []) (by kernel_rfl) ?_ | refine WPT.cond' ?_); simp -implicitDefEqProofs (maxSteps := 2000000) [hP, hN]))
      | (with_reducible refine xB_split (by simp) (fun hgd => ?_) (fun hgd => ?_) <;> first | (exfalso; simp at hgd; done) | (exfalso; simp at hgd; omega) | simp -implicitDefEqProofs (maxSteps := 2000000) [hP, hN])
      | with_reducible refine xTwo_intro ?_ ?_
      | (with_reducible refine xCondT_split (fun hcd => ?_) (fun hcd => ?_) <;> (try (exfalso; clear hP hN; simp_all; done)) <;> (try (exfalso; simp at *; omega)))
      | with_reducible refine WPT.block ?_
      | (with_reducible ((first | refine WPT.skip ?_ | refine WPT.exit ?_ | refine WPT.ret ?_); simp)))
  rintro e a2 w2 ⟨st2, ⟨rfl, k0, k1, k12, k13, k14⟩, H2, hx2, hd2⟩
  have hJ2 := hJg 0 M w1 w2 hJ1 hx2
  have H2' : Hold 33 M (tL l t 0) a2 w2 := H2.sub (fun m => by
    unfold tL
    by_cases m0 : m = 0
    · subst m0; right; simp [pvO, k0]
    by_cases m1 : m = 1
    · subst m1; right; simp [pvO, k1]
    by_cases m12 : m = 12
    · subst m12; right; simp [pvO, k12]
    by_cases m13 : m = 13
    · subst m13; right; simp [pvO, k13]
    by_cases m14 : m = 14
    · subst m14; right; simp [pvO, k14]
    · left; simp [m0, m1, m12, m13, m14])
  have hdd : a2.defers = [] := by rw [hd2, hd1]
  clear H1 H1' H2 H0 g0 g1 g3 k0 k1 k12 k13 k14 hx1 hx2 hd1 hd2 hJ1 h0
  show Code.wpIn Fence.wide n Try.prog _ _ a2 w2
  refine wpIn_block (wpIn_loop (fun a w => ∃ i M', i ≤ (boxesL t).length ∧ J (leavesN t i).length M' w ∧ Hold 33 M' (tL l t i) a w ∧ a.defers = []) (fun a _ => (boxesL t).length - idx14 a) ⟨0, M, Nat.zero_le _, by simpa [leavesN] using hJ2, H2', hdd⟩ ?_)
  clear hJ2 H2' hdd a2 w2 st2 a1 w1 st1
  rintro a w ⟨i, M', hi, hJ, hH, hdd⟩
  have hidx : idx14 a = i := by simp [idx14, hold_val hH (m := 14) (v := .int .i64 i) (by simp [tL])]
  have hM' := hJb _ _ _ hJ
  by_cases hlt : i < (boxesL t).length
  · have hv : validT t = true := by
      cases h : validT t with
      | true => rfl
      | false =>
        have : boxesL t = [] := by
          simp only [validT] at h
          simp [boxesL, Option.isSome_eq_false_iff.1 h |> Option.isNone_iff_eq_none.1]
        rw [this] at hlt; simp at hlt
    have hbl := boxesL_len hv
    have hic : i < t.cells.length := by omega
    have hz := sizeOk_iff.1 (valid_size hv)
    generalize hc : t.cells[i] = c at *
    have hci : t.cells[i]? = some c := by rw [List.getElem?_eq_getElem hic, hc]
    obtain ⟨hbx, hbxl, _⟩ := boxAt_ok hv (c := (i : Int)) hic
    have hbx1 : (boxesL t)[i]? = some (boxAt t i) := hbx
    have hbx2 := get_of hbx1 hlt
    have hwi : IntKind.i64.wrap ((i : Int) + 1) = (i : Int) + 1 := wr_id (by omega) (by omega)
    have cl := d87 c
    have hstep := leavesN_succ t i
    have hlfN : leafN t i = leafB c := by simp [leafN, hci]
    rw [hlfN] at hstep
    refine wpIn_seq (wpIn_mono (hH.step hM' (Q := fun e st' => e = .normal ∧ keepT l t i st' ∧ st'.t 15 = .pv (.val (.bool true))) (fun C hP hN => ?_)) ?_)
    · skip
      repeat' (first
        | with_reducible refine WPT.seq ?_
        | (with_reducible ((first | refine WPT.region hF (hn := []) (by kernel_rfl) ?_ | refine WPT.cond' ?_); simp -implicitDefEqProofs (maxSteps := 2000000) [hP, hN, tL, keepT, hlt]))
        | (with_reducible refine xB_split (by simp [tL, keepT, hlt]) (fun hgd => ?_) (fun hgd => ?_) <;> first | (exfalso; simp at hgd; done) | (exfalso; simp at hgd; omega) | simp -implicitDefEqProofs (maxSteps := 2000000) [hP, hN, tL, keepT, hlt])
        | with_reducible refine xTwo_intro ?_ ?_
        | (with_reducible refine xCondT_split (fun hcd => ?_) (fun hcd => ?_) <;> (try (exfalso; clear hP hN; simp_all; done)) <;> (try (exfalso; simp at *; omega)))
        | with_reducible refine WPT.block ?_
        | (with_reducible ((first | refine WPT.skip ?_ | refine WPT.exit ?_ | refine WPT.ret ?_); simp [tL, keepT, hlt])))
    rintro e a1 w1 ⟨st1, ⟨rfl, hk1, h15⟩, H1, hx1, hd1⟩
    have hJ1 := hJg _ _ _ _ hJ hx1
    have e15 : a1.eval (.tmp 15) = .bool true := hold_val H1 (m := 15) (by simp [pvO, h15])
    have K1 := hold_keep H1 hk1
    show Code.wpIn Fence.wide n Try.prog _ _ a1 w1
    refine wpIn_seq (wpIn_cond_true e15 (wpIn_skip ?_))
    show Code.wpIn Fence.wide n Try.prog _ _ a1 w1
    refine wpIn_seq (wpIn_block ?_)
    refine wpIn_seq (wpIn_mono (K1.step (hJb _ _ _ hJ1) (Q := fun e st' => e = .normal ∧ keepT l t i st' ∧ st'.t 5 = .pv (Z i) ∧ st'.t 6 = .pv (iv (boxAt t i))) (fun C hP hN => ?_)) ?_)
    · skip
      repeat' (first
        | with_reducible refine WPT.seq ?_
        | (with_reducible ((first | refine WPT.region hF (hn := []) (by kernel_rfl) ?_ | refine WPT.cond' ?_); simp -implicitDefEqProofs (maxSteps := 2000000) [hP, hN, tL, keepT, hlt, hbx1, hbx2]))
        | (with_reducible refine xB_split (by simp [tL, keepT, hlt, hbx1, hbx2]) (fun hgd => ?_) (fun hgd => ?_) <;> first | (exfalso; simp at hgd; done) | (exfalso; simp at hgd; omega) | simp -implicitDefEqProofs (maxSteps := 2000000) [hP, hN, tL, keepT, hlt, hbx1, hbx2])
        | with_reducible refine xTwo_intro ?_ ?_
        | (with_reducible refine xCondT_split (fun hcd => ?_) (fun hcd => ?_) <;> (try (exfalso; clear hP hN; simp_all; done)) <;> (try (exfalso; simp at *; omega)))
        | with_reducible refine WPT.block ?_
        | (with_reducible ((first | refine WPT.skip ?_ | refine WPT.exit ?_ | refine WPT.ret ?_); simp [tL, keepT, hlt, hbx1, hbx2])))
    rintro e a2 w2 ⟨st2, ⟨rfl, hk2, h5, h6⟩, H2, hx2, hd2⟩
    have hJ2 := hJg _ _ _ _ hJ1 hx2
    have K2 := hold_keepX H2 hk2 h5 h6
    have hM2 := hJb _ _ _ hJ2
    show Code.wpIn Fence.wide n Try.prog _ _ a2 w2
    refine wpIn_seq (wpIn_mono (Q := fun e a3 w3 => e = .normal ∧ ∃ M3, J (leavesN t (i + 1)).length M3 w3 ∧ Hold 33 M3 (tX l t i 31 31 (B false) (B false)) a3 w3 ∧ a3.defers = []) ?_ ?_)
    · cases hlf : leafB c with
      | false =>
        rw [hlf] at cl hstep
        rw [if_neg (by simp)] at hstep
        refine wpIn_mono (K2.step hM2 (Q := fun e st' => e = .normal ∧ keepT l t i st' ∧ st'.t 31 = .pv (.val (.bool false))) (fun C hP hN => ?_)) ?_
        · skip
          repeat' (first
            | with_reducible refine WPT.seq ?_
            | (with_reducible ((first | refine WPT.region hF (hn := []) (by kernel_rfl) ?_ | refine xC_intro (cl) ?_ | refine WPT.cond' ?_); simp -implicitDefEqProofs (maxSteps := 2000000) [hP, hN, tX, tL, keepT, hic, hci, hc]))
            | (with_reducible refine xB_split (by simp [tX, tL, keepT, hic, hci, hc]) (fun hgd => ?_) (fun hgd => ?_) <;> first | (exfalso; simp at hgd; done) | (exfalso; simp at hgd; omega) | simp -implicitDefEqProofs (maxSteps := 2000000) [hP, hN, tX, tL, keepT, hic, hci, hc])
            | with_reducible refine xTwo_intro ?_ ?_
            | (with_reducible refine xCondT_split (fun hcd => ?_) (fun hcd => ?_) <;> (try (exfalso; clear hP hN; simp_all; done)) <;> (try (exfalso; simp at *; omega)))
            | with_reducible refine WPT.block ?_
            | (with_reducible ((first | refine WPT.skip ?_ | refine WPT.exit ?_ | refine WPT.ret ?_); simp [tX, tL, keepT, hic, hci, hc])))
        rintro e a3 w3 ⟨st3, ⟨rfl, hk3, h31⟩, H3, hx3, hd3⟩
        exact ⟨rfl, M', by rw [hstep]; exact hJg _ _ _ _ hJ2 hx3, hold_keepX H3 hk3 h31 h31, by rw [hd3, hd2, hd1]; exact hdd⟩
      | true =>
        rw [hlf] at cl hstep hlfN
        rw [if_pos rfl] at hstep
        refine wpIn_region_list ?_
        rw [← List.take_append_drop 10 (Array.toList _)]
        refine wpListIn_append _ ?_
        refine K2.list hM2 (hn := []) (Q := fun st' => keepT l t i st' ∧ st'.t 25 = .pv (.val (.bool true)) ∧ st'.t 26 = .pv (.val (.func (.yield l) #[] #[])) ∧ st'.t 27 = .pv (Z i) ∧ st'.t 28 = .pv (iv (boxAt t i))) (fun o ho => noDefer_of (by kernel_rfl) (List.mem_of_mem_take ho)) ?_ ?_
        · simp -implicitDefEqProofs [tX, tL, keepT, hic, hci, hc]
          refine xC_intro cl ?_
          simp -implicitDefEqProofs [tX, tL, keepT, hic, hci, hc]
        intro st3 a3 w3 ⟨hk3, h25, h26, h27, h28⟩ H3 hx3 hd3
        have hJ3 := hJg _ _ _ _ hJ2 hx3
        have hM3 := hJb _ _ _ hJ3
        have hxs : (leafPairs t)[(leavesN t i).length]? = some (zN' i, iv (boxAt t (i : Int))) := by
          have hL : leavesL t = leavesN t t.cells.length := by simp [leavesL, hv]
          simp [leafPairs, hL, leavesN_get hlfN hic]
        have hy := hY (n - 1) _ _ M' w3 _ _ hxs hJ3 (hold_rep H3 (m := 27) (by simp [pvO, h27])) (hold_rep H3 (m := 28) (by simp [pvO, h28]))
        refine yield_step ?_ rfl rfl rfl (hold_val H3 (m := 26) (by simp [pvO, h26])) hy ?_
        · exact guard_wanted (H3.sim (P := Try.prog) hM3).2.2 (by simp [guardB, pvO, h25])
        rintro e w4 ⟨rfl, M4, hJ4, hp4⟩
        refine ⟨_, rfl, ?_⟩
        obtain ⟨y0, y1, y12, y13, y14⟩ := hk3
        have H5 := (H3.mono hp4).put (d := 29) (by decide) (p := B true) (.val (.bool true))
        have K5 : Hold 33 M4 (tX l t i 25 29 (B true) (B true)) (a3.put (some 29) (.bool true)) w4 := keepG H5 (by simp [upd, pvO, y0]) (by simp [upd, pvO, y1]) (by simp [upd, pvO, y12]) (by simp [upd, pvO, y13]) (by simp [upd, pvO, y14]) (by simp [upd, pvO, h25]) (by simp [upd])
        refine K5.list (hJb _ _ _ hJ4) (hn := []) (Q := fun st' => keepT l t i st' ∧ st'.t 31 = .pv (.val (.bool false))) (fun o ho c' hc' => by simp at ho; rcases ho with rfl | rfl <;> cases hc') ?_ ?_
        · simp -implicitDefEqProofs [tX, tL, keepT]
        intro st6 a6 w6 ⟨hk6, h31⟩ H6 hx6 hd6
        refine ⟨rfl, M4, ?_, hold_keepX H6 hk6 h31 h31, ?_⟩
        · have : (leavesN t (i + 1)).length = (leavesN t i).length + 1 := by rw [hstep]; simp
          rw [this]; exact hJg _ _ _ _ hJ4 hx6
        · rw [hd6, put_defers, hd3, hd2, hd1]; exact hdd
    rintro e a3 w3 ⟨rfl, M3, hJ3, H3, hd3⟩
    show Code.wpIn Fence.wide n Try.prog _ _ a3 w3
    refine wpIn_cond_false (hold_val H3 (m := 31) (by simp [tX])) (wpIn_skip ?_)
    show Code.wpIn Fence.wide n Try.prog _ _ a3 w3
    refine wpIn_mono (H3.step (hJb _ _ _ hJ3) (Q := fun e st' => e = .normal ∧ keepT l t (i + 1) st') (fun C hP hN => ?_)) ?_
    · skip
      repeat' (first
        | with_reducible refine WPT.seq ?_
        | (with_reducible ((first | refine WPT.region hF (hn := []) (by kernel_rfl) ?_ | refine WPT.cond' ?_); simp -implicitDefEqProofs (maxSteps := 2000000) [hP, hN, tX, tL, keepT, hwi]))
        | (with_reducible refine xB_split (by simp [tX, tL, keepT, hwi]) (fun hgd => ?_) (fun hgd => ?_) <;> first | (exfalso; simp at hgd; done) | (exfalso; simp at hgd; omega) | simp -implicitDefEqProofs (maxSteps := 2000000) [hP, hN, tX, tL, keepT, hwi])
        | with_reducible refine xTwo_intro ?_ ?_
        | (with_reducible refine xCondT_split (fun hcd => ?_) (fun hcd => ?_) <;> (try (exfalso; clear hP hN; simp_all; done)) <;> (try (exfalso; simp at *; omega)))
        | with_reducible refine WPT.block ?_
        | (with_reducible ((first | refine WPT.skip ?_ | refine WPT.exit ?_ | refine WPT.ret ?_); simp [tX, tL, keepT, hwi])))
    rintro e a4 w4 ⟨st4, ⟨rfl, hk4⟩, H4, hx4, hd4⟩
    have K4 := hold_keep H4 hk4
    refine ⟨⟨i + 1, M3, by omega, hJg _ _ _ _ hJ3 hx4, K4, by rw [hd4]; exact hd3⟩, ?_⟩
    have hidx4 : idx14 a4 = i + 1 := by
      simp only [idx14, hold_val K4 (m := 14) (v := .int .i64 ((i + 1 : Nat) : Int)) (by simp [tL])]
      omega
    show (boxesL t).length - idx14 a4 < (boxesL t).length - idx14 a
    omega
  · have hin : i = (boxesL t).length := by omega
    refine wpIn_seq (wpIn_mono (hH.step hM' (Q := fun e st' => e = .normal ∧ st'.t 15 = .pv (.val (.bool false))) (fun C hP hN => ?_)) ?_)
    · skip
      repeat' (first
        | with_reducible refine WPT.seq ?_
        | (with_reducible ((first | refine WPT.region hF (hn := []) (by kernel_rfl) ?_ | refine WPT.cond' ?_); simp -implicitDefEqProofs (maxSteps := 2000000) [hP, hN, tL, hlt]))
        | (with_reducible refine xB_split (by simp [tL, hlt]) (fun hgd => ?_) (fun hgd => ?_) <;> first | (exfalso; simp at hgd; done) | (exfalso; simp at hgd; omega) | simp -implicitDefEqProofs (maxSteps := 2000000) [hP, hN, tL, hlt])
        | with_reducible refine xTwo_intro ?_ ?_
        | (with_reducible refine xCondT_split (fun hcd => ?_) (fun hcd => ?_) <;> (try (exfalso; clear hP hN; simp_all; done)) <;> (try (exfalso; simp at *; omega)))
        | with_reducible refine WPT.block ?_
        | (with_reducible ((first | refine WPT.skip ?_ | refine WPT.exit ?_ | refine WPT.ret ?_); simp [tL, hlt])))
    rintro e a1 w1 ⟨st1, ⟨rfl, h15⟩, H1, hx1, hd1⟩
    have hJ1 := hJg _ _ _ _ hJ hx1
    have e15 : a1.eval (.tmp 15) = .bool false := hold_val H1 (m := 15) (by simp [pvO, h15])
    show Code.wpIn Fence.wide n Try.prog _ _ a1 w1
    refine wpIn_seq (wpIn_cond_false e15 (wpIn_exit ?_))
    show LeavesInM Fence.wide n Try.prog Try.f148 a1.tmps _ a1.defers .returning w1
    rw [hd1, hdd]
    refine ⟨_, res_nil Try.results148 _ _ _, ⟨_, rfl⟩, M', ?_⟩
    have hlen : (leafPairs t).length = (leavesN t i).length := by
      cases hv : validT t with
      | true =>
        have := boxesL_len hv
        rw [hin, this]; simp [leafPairs, leavesL, hv]
      | false =>
        have : boxesL t = [] := by
          simp only [validT] at hv
          simp [boxesL, Option.isSome_eq_false_iff.1 hv |> Option.isNone_iff_eq_none.1]
        rw [hin, this]; simp [leafPairs, leavesL, hv, leavesN]
    rw [hlen]; exact hJ1
end Go.Ab

/- Contracts: the leaves of a tree, told by a range over a function. -/
namespace Go.Ab
open Go.Proofs
set_option maxRecDepth 100000 in
theorem quietIn78 : QuietIn Try.prog 78 := by
  refine ⟨by kernel_rfl, fun n args w => ?_⟩
  refine callsDIn_of_wpSIn Try.func78 rfl trivial fun c₀ cs hu => ?_
  apply wpSIn_seq
  apply wpSIn_region
  have hk : ∀ k, k < Try.f78.ntmps → k < args.size + (Try.f78.ntmps - args.size) := by intro k h; omega
  rw [Try.ntmps78] at hk
  have h0 := hk 0 (by decide)
  have h1 := hk 1 (by decide)
  have h2 := hk 2 (by decide)
  simp [wpOpsSIn, go_sem, recoverD, hu, Try.ntmps78, Exit.thenS, h0, h1, h2]
  refine wpSIn_cond (t := false) (by simp [Act.eval, h0, h1, h2]) ?_
  simp only [Bool.false_eq_true, if_false]
  refine wpSIn_of_wpIn rfl (wpIn_skip ?_)
  cases c₀
  simp_all [bodyPostS, results, Try.results78]
set_option maxRecDepth 100000 in
theorem quietIn88 : QuietIn Try.prog 88 := by
  refine ⟨by kernel_rfl, fun n args w => ?_⟩
  refine callsDIn_of_wpSIn Try.func88 rfl trivial fun c₀ cs hu => ?_
  apply wpSIn_seq
  apply wpSIn_region
  have hk : ∀ k, k < Try.f88.ntmps → k < args.size + (Try.f88.ntmps - args.size) := by intro k h; omega
  rw [Try.ntmps88] at hk
  have h0 := hk 0 (by decide)
  have h1 := hk 1 (by decide)
  have h2 := hk 2 (by decide)
  simp [wpOpsSIn, go_sem, recoverD, hu, Try.ntmps88, Exit.thenS, h0, h1, h2]
  refine wpSIn_cond (t := false) (by simp [Act.eval, h0, h1, h2]) ?_
  simp only [Bool.false_eq_true, if_false]
  refine wpSIn_of_wpIn rfl (wpIn_skip ?_)
  cases c₀
  simp_all [bodyPostS, results, Try.results88]
set_option maxRecDepth 100000 in
theorem quietIn103 : QuietIn Try.prog 103 := by
  refine ⟨by kernel_rfl, fun n args w => ?_⟩
  refine callsDIn_of_wpSIn Try.func103 rfl trivial fun c₀ cs hu => ?_
  apply wpSIn_seq
  apply wpSIn_region
  have hk : ∀ k, k < Try.f103.ntmps → k < args.size + (Try.f103.ntmps - args.size) := by intro k h; omega
  rw [Try.ntmps103] at hk
  have h0 := hk 0 (by decide)
  have h1 := hk 1 (by decide)
  have h2 := hk 2 (by decide)
  simp [wpOpsSIn, go_sem, recoverD, hu, Try.ntmps103, Exit.thenS, h0, h1, h2]
  refine wpSIn_cond (t := false) (by simp [Act.eval, h0, h1, h2]) ?_
  simp only [Bool.false_eq_true, if_false]
  refine wpSIn_of_wpIn rfl (wpIn_skip ?_)
  cases c₀
  simp_all [bodyPostS, results, Try.results103]
theorem d79 (t : Tr) : DetH Try.prog 79 [.pv (encT t)] [] [] (.pv (.fn (.func 148) [] [.rptr (encT t) 0])) := by
  refine detP_of Try.func79 rfl (by kernel_rfl) (by simp [Try.f79]) rfl ?_
  intro C hP hN
  simp only [Try.f79] at hN ⊢
  repeat' (first
    | with_reducible refine WP.seq ?_
    | (with_reducible ((first | refine WP.region (hn := []) ?_ | refine WP.cond' ?_); simp -implicitDefEqProofs (maxSteps := 2000000) [hP, hN]))
    | (with_reducible ((first | refine WP.draw (hn := []) (by rw [hP]; kernel_rfl) (by kernel_rfl) ?_); simp -implicitDefEqProofs (maxSteps := 2000000) [hP, hN]; (try refine ⟨by kernel_rfl, ?_⟩)))
    | (with_reducible refine xB_split (by simp) (fun hgd => ?_) (fun hgd => ?_) <;> first | (exfalso; simp at hgd; done) | (exfalso; simp at hgd; omega) | simp -implicitDefEqProofs (maxSteps := 2000000) [hP, hN])
    | (with_reducible refine yB_split (by simp) (fun hgd => ?_) (fun hgd => ?_) <;> first | (exfalso; simp at hgd; done) | (exfalso; simp at hgd; omega) | (simp -implicitDefEqProofs (maxSteps := 2000000) [hP, hN] <;> (try refine ⟨by kernel_rfl, ?_⟩)))
    | with_reducible refine xTwo_intro ?_ ?_
    | (with_reducible refine xCond_split (fun hcd => ?_) (fun hcd => ?_) <;> (try (exfalso; clear hP hN; simp_all; done)) <;> (try (exfalso; simp at *; omega)))
    | with_reducible refine WP.block ?_
    | (with_reducible ((first | refine WP.skip ?_ | refine WP.exit ?_ | refine WP.ret ?_); simp)))
/-- A list that grows round by round. -/
def LI (kb kr : Nat) (acc : List Nat) (h : Hp) : Prop := (acc = [] ∧ h kb = some (.box [.pv (.val (.slice none 0 0))] false false) ∧ h kr = none) ∨ (acc ≠ [] ∧ h kb = some (.box [.arr kr acc.length] false false) ∧ h kr = some (.row 3 1 (acc.map zN') 0))
theorem pairs_get {t : Tr} {i : Nat} {x : PV × PV} (h : (leafPairs t)[i]? = some x) : ∃ e, (leavesL t)[i]? = some e ∧ x = (zN' e, iv (boxAt t (e : Int))) := by
  rw [leafPairs, List.getElem?_map, Option.map_eq_some_iff] at h
  obtain ⟨e, h1, h2⟩ := h
  exact ⟨e, h1, h2.symm⟩
theorem take_one {l : List Nat} {i e : Nat} (h : l[i]? = some e) : l.take (i + 1) = l.take i ++ [e] := by
  obtain ⟨h1, h2⟩ := List.getElem?_eq_some_iff.1 h
  rw [List.take_succ_eq_append_getElem h1, h2]
theorem leaves_small (t : Tr) : (leavesL t).length ≤ 2048 := by
  cases hv : validT t with
  | false => simp [leavesL, hv]
  | true =>
    have := sizeOk_iff.1 (valid_size hv)
    have := leavesN_len t t.cells.length
    simp [leavesL, hv]; omega
set_option maxRecDepth 100000 in
set_option maxHeartbeats 4000000 in
theorem d27 (t : Tr) (hl : t.cells.length ≤ 9223372036854775807) : DetH Try.prog 27 [.pv (encT t)] [] [] (.pv (.sl ((leavesL t).map zN'))) := by
  refine detF_of (args := [encT t]) Try.func27 rfl (by kernel_rfl) (by simp [Try.f27]) ?_
  intro C hP hN hCS
  simp only [Try.f27] at hN ⊢
  have hF := wide_wide
  refine WPF.seq hCS ?_
  repeat' (first
    | with_reducible refine WPT.seq ?_
    | (with_reducible ((first | refine WPT.region hF (hn := []) (by kernel_rfl) ?_ | refine WPT.cond' ?_); simp -implicitDefEqProofs (maxSteps := 2000000) [hP, hN]))
    | (with_reducible refine xB_split (by simp) (fun hgd => ?_) (fun hgd => ?_) <;> first | (exfalso; simp at hgd; done) | (exfalso; simp at hgd; omega) | simp -implicitDefEqProofs (maxSteps := 2000000) [hP, hN])
    | with_reducible refine xTwo_intro ?_ ?_
    | (with_reducible refine xCondT_split (fun hcd => ?_) (fun hcd => ?_) <;> (try (exfalso; clear hP hN; simp_all; done)) <;> (try (exfalso; simp at *; omega)))
    | with_reducible refine WPT.block ?_
    | (with_reducible ((first | refine WPT.skip ?_ | refine WPT.exit ?_ | refine WPT.ret ?_); simp)))
  refine WPF.defer (pre := [_]) (hn := []) (g := 78) rfl (fun o ho c' hc' => by simp at ho; subst ho; cases hc') rfl rfl rfl rfl rfl (by rw [hP]; exact quietIn78) ?_
  simp -implicitDefEqProofs [hP, hN]
  refine WPF.range hCS (gf := 148) (caps := [.rptr (encT t) 0]) (xs := leafPairs t) (by rw [hP]; exact i148 t hl) (by rw [hN]; decide) (by rw [hN]; decide) (ks := [2]) (hin := fun _ => [.val (.slice none 0 0)]) (t := fun m => if m = 2 then .ptr 2 0 else .undef) ?_ (fun i h => LI 2 12 ((leavesL t).take i) h) ?_ ?_ ?_ (by kernel_rfl) (hn := []) ?_
  · skip
    repeat' (first
      | with_reducible refine WPT.seq ?_
      | (with_reducible ((first | refine WPT.region hF (hn := []) (by kernel_rfl) ?_ | refine xC_intro (d79 t) ?_ | refine WPT.cond' ?_); simp -implicitDefEqProofs (maxSteps := 2000000) [hP, hN]))
      | (with_reducible refine xB_split (by simp) (fun hgd => ?_) (fun hgd => ?_) <;> first | (exfalso; simp at hgd; done) | (exfalso; simp at hgd; omega) | simp -implicitDefEqProofs (maxSteps := 2000000) [hP, hN])
      | with_reducible refine xTwo_intro ?_ ?_
      | (with_reducible refine xCondT_split (fun hcd => ?_) (fun hcd => ?_) <;> (try (exfalso; clear hP hN; simp_all; done)) <;> (try (exfalso; simp at *; omega)))
      | with_reducible refine WPT.block ?_
      | (with_reducible ((first | refine WPT.skip ?_ | refine WPT.exit ?_ | refine WPT.ret ?_); simp)))
    all_goals (intro m; by_cases hm : m = 2 <;> simp [hm])
  · left; simp [handH]
  · intro i h k hk hi
    simp at hk; subst hk
    rcases hi with ⟨_, h2, _⟩ | ⟨_, h2, _⟩
    · exact ⟨_, h2⟩
    · exact ⟨_, h2⟩
  · intro C1 C2 l i x h hP1 hN1 hP2 hN2 hx hI
    obtain ⟨e, he, rfl⟩ := pairs_get hx
    have hac := take_one he
    have hsm := leaves_small t
    have hlen : ((leavesL t).take i).length ≤ 2048 := by rw [List.length_take]; omega
    rw [hac]
    generalize (leavesL t).take i = acc at *
    have hF := wide_round l
    have hP0 := hP
    have hN0 := hN
    clear hP hN
    have hP := hP1.trans hP0
    have hN := hN1.trans hN0
    have hPb := hP2.trans hP0
    have hNb := hN2.trans hN0
    have hA : (acc.length + 1) * 8 ≤ 140737488355328 := by omega
    have hA' : acc.length + 1 ≤ 9223372036854775807 := by omega
    rcases hI with ⟨rfl, q2, q12⟩ | ⟨hne, q2, q12⟩
    · skip
      repeat' (first
        | with_reducible refine WPT.seq ?_
        | (with_reducible ((first | refine WPT.region hF (hn := []) (by kernel_rfl) ?_ | refine WPT.cond' ?_); simp -implicitDefEqProofs (maxSteps := 2000000) [hP, hN, hPb, hNb, setP, q2, q12]))
        | (with_reducible refine xB_split (by simp [hPb, hNb, setP, q2, q12]) (fun hgd => ?_) (fun hgd => ?_) <;> first | (exfalso; simp at hgd; done) | (exfalso; simp at hgd; omega) | simp -implicitDefEqProofs (maxSteps := 2000000) [hP, hN, hPb, hNb, setP, q2, q12])
        | with_reducible refine xTwo_intro ?_ ?_
        | (with_reducible refine xCondT_split (fun hcd => ?_) (fun hcd => ?_) <;> (try (exfalso; clear hP hN; simp_all; done)) <;> (try (exfalso; simp at *; omega)))
        | with_reducible refine WPT.block ?_
        | (with_reducible ((first | refine WPT.skip ?_ | refine WPT.exit ?_ | refine WPT.ret ?_); simp [hPb, hNb, setP, q2, q12])))
      all_goals exact .inr ⟨by simp, by simp [upd], by simp [upd]⟩
    · skip
      repeat' (first
        | with_reducible refine WPT.seq ?_
        | (with_reducible ((first | refine WPT.region hF (hn := []) (by kernel_rfl) ?_ | refine WPT.cond' ?_); simp -implicitDefEqProofs (maxSteps := 2000000) [hP, hN, hPb, hNb, setP, q2, q12, hA, hA']))
        | (with_reducible refine xB_split (by simp [hPb, hNb, setP, q2, q12, hA, hA']) (fun hgd => ?_) (fun hgd => ?_) <;> first | (exfalso; simp at hgd; done) | (exfalso; simp at hgd; omega) | simp -implicitDefEqProofs (maxSteps := 2000000) [hP, hN, hPb, hNb, setP, q2, q12, hA, hA'])
        | with_reducible refine xTwo_intro ?_ ?_
        | (with_reducible refine xCondT_split (fun hcd => ?_) (fun hcd => ?_) <;> (try (exfalso; clear hP hN; simp_all; done)) <;> (try (exfalso; simp at *; omega)))
        | with_reducible refine WPT.block ?_
        | (with_reducible ((first | refine WPT.skip ?_ | refine WPT.exit ?_ | refine WPT.ret ?_); simp [hPb, hNb, setP, q2, q12, hA, hA'])))
      all_goals exact .inr ⟨by simp, by simp [upd], by simp [upd]⟩
  · intro h hI
    have hall : (leavesL t).take (leafPairs t).length = leavesL t := List.take_of_length_le (by simp [leafPairs])
    rw [hall] at hI
    rcases hI with ⟨e, q2, q12⟩ | ⟨hne, q2, q12⟩
    · rw [e]
      simp -implicitDefEqProofs [hP, hN, q2, q12]
    · simp -implicitDefEqProofs [hP, hN, q2, q12]
/-- The leaves whose boxes contain a configuration. -/
def locP (t : Tr) (q : List Int) (e : Nat) : Bool := hasC (boxAt t (e : Int)) q
def locL (t : Tr) (q : List Int) : List Nat := (leavesL t).filter (locP t q)
theorem leaf_box {t : Tr} {i e : Nat} (h : (leavesL t)[i]? = some e) : (boxAt t (e : Int)).length ≤ 10 := by
  obtain ⟨hv, c, hc, _⟩ := leavesL_mem.1 (List.mem_of_getElem? h)
  have := (boxAt_ok hv (c := (e : Int)) (List.getElem?_eq_some_iff.1 hc).1).2.1
  have := sizeOk_iff.1 (valid_size hv)
  omega
set_option maxRecDepth 100000 in
set_option maxHeartbeats 4000000 in
theorem d34 (t : Tr) (q : List Int) (hl : t.cells.length ≤ 9223372036854775807) : DetH Try.prog 34 [.pv (encT t), .pv (zs q)] [] [] (.pv (.sl ((locL t q).map zN'))) := by
  refine detF_of (args := [encT t, zs q]) Try.func34 rfl (by kernel_rfl) (by simp [Try.f34]) ?_
  intro C hP hN hCS
  simp only [Try.f34] at hN ⊢
  have hF := wide_wide
  refine WPF.seq hCS ?_
  repeat' (first
    | with_reducible refine WPT.seq ?_
    | (with_reducible ((first | refine WPT.region hF (hn := []) (by kernel_rfl) ?_ | refine WPT.cond' ?_); simp -implicitDefEqProofs (maxSteps := 2000000) [hP, hN]))
    | (with_reducible refine xB_split (by simp) (fun hgd => ?_) (fun hgd => ?_) <;> first | (exfalso; simp at hgd; done) | (exfalso; simp at hgd; omega) | simp -implicitDefEqProofs (maxSteps := 2000000) [hP, hN])
    | with_reducible refine xTwo_intro ?_ ?_
    | (with_reducible refine xCondT_split (fun hcd => ?_) (fun hcd => ?_) <;> (try (exfalso; clear hP hN; simp_all; done)) <;> (try (exfalso; simp at *; omega)))
    | with_reducible refine WPT.block ?_
    | (with_reducible ((first | refine WPT.skip ?_ | refine WPT.exit ?_ | refine WPT.ret ?_); simp)))
  refine WPF.defer (pre := [_]) (hn := []) (g := 88) rfl (fun o ho c' hc' => by simp at ho; subst ho; cases hc') rfl rfl rfl rfl rfl (by rw [hP]; exact quietIn88) ?_
  simp -implicitDefEqProofs [hP, hN]
  refine WPF.range hCS (gf := 148) (caps := [.rptr (encT t) 0]) (xs := leafPairs t) (by rw [hP]; exact i148 t hl) (by rw [hN]; decide) (by rw [hN]; decide) (ks := [3, 4]) (hin := fun k => if k = 3 then [zs q] else [.val (.slice none 0 0)]) (t := fun m => if m = 3 then .ptr 3 0 else if m = 4 then .ptr 4 0 else .undef) ?_ (fun i h => LI 4 18 (((leavesL t).take i).filter (locP t q)) h ∧ h 3 = some (.box [.pv (zs q)] false false)) ?_ ?_ ?_ (by kernel_rfl) (hn := []) ?_
  · skip
    repeat' (first
      | with_reducible refine WPT.seq ?_
      | (with_reducible ((first | refine WPT.region hF (hn := []) (by kernel_rfl) ?_ | refine xC_intro (d79 t) ?_ | refine WPT.cond' ?_); simp -implicitDefEqProofs (maxSteps := 2000000) [hP, hN]))
      | (with_reducible refine xB_split (by simp) (fun hgd => ?_) (fun hgd => ?_) <;> first | (exfalso; simp at hgd; done) | (exfalso; simp at hgd; omega) | simp -implicitDefEqProofs (maxSteps := 2000000) [hP, hN])
      | with_reducible refine xTwo_intro ?_ ?_
      | (with_reducible refine xCondT_split (fun hcd => ?_) (fun hcd => ?_) <;> (try (exfalso; clear hP hN; simp_all; done)) <;> (try (exfalso; simp at *; omega)))
      | with_reducible refine WPT.block ?_
      | (with_reducible ((first | refine WPT.skip ?_ | refine WPT.exit ?_ | refine WPT.ret ?_); simp)))
    all_goals (intro m; by_cases hm : m = 3 <;> by_cases hm' : m = 4 <;> simp [hm, hm'])
  · refine ⟨.inl ?_, ?_⟩ <;> simp [handH]
  · intro i h k hk hi
    simp at hk
    rcases hk with rfl | rfl
    · exact ⟨_, hi.2⟩
    · rcases hi.1 with ⟨_, h2, _⟩ | ⟨_, h2, _⟩
      · exact ⟨_, h2⟩
      · exact ⟨_, h2⟩
  · intro C1 C2 l i x h hP1 hN1 hP2 hN2 hx ⟨hI, q3⟩
    obtain ⟨e, he, rfl⟩ := pairs_get hx
    have hac := take_one he
    have hsm := leaves_small t
    have hlen : (((leavesL t).take i).filter (locP t q)).length ≤ 2048 := by
      have := List.length_filter_le (locP t q) ((leavesL t).take i)
      rw [List.length_take] at this; omega
    have hbl := leaf_box he
    have ch := d86 (boxAt t (e : Int)) q (by omega)
    have hac2 : ((leavesL t).take (i + 1)).filter (locP t q) = ((leavesL t).take i).filter (locP t q) ++ (if locP t q e then [e] else []) := by
      rw [hac, List.filter_append]
      cases h : locP t q e <;> simp [h]
    rw [hac2]
    have hlp : locP t q e = hasC (boxAt t (e : Int)) q := rfl
    rw [hlp]
    generalize ((leavesL t).take i).filter (locP t q) = acc at *
    have hF := wide_round l
    have hP0 := hP
    have hN0 := hN
    clear hP hN
    have hP := hP1.trans hP0
    have hN := hN1.trans hN0
    have hPb := hP2.trans hP0
    have hNb := hN2.trans hN0
    have hA : (acc.length + 1) * 8 ≤ 140737488355328 := by omega
    have hA' : acc.length + 1 ≤ 9223372036854775807 := by omega
    cases hh : hasC (boxAt t (e : Int)) q with
    | false =>
      rw [hh] at ch
      rcases hI with ⟨rfl, q2, q12⟩ | ⟨hne, q2, q12⟩
      · skip
        repeat' (first
          | with_reducible refine WPT.seq ?_
          | (with_reducible ((first | refine WPT.region hF (hn := []) (by kernel_rfl) ?_ | refine xC_intro (ch) ?_ | refine WPT.cond' ?_); simp -implicitDefEqProofs (maxSteps := 2000000) [hP, hN, hPb, hNb, setP, q2, q12, q3]))
          | (with_reducible refine xB_split (by simp [hPb, hNb, setP, q2, q12, q3]) (fun hgd => ?_) (fun hgd => ?_) <;> first | (exfalso; simp at hgd; done) | (exfalso; simp at hgd; omega) | simp -implicitDefEqProofs (maxSteps := 2000000) [hP, hN, hPb, hNb, setP, q2, q12, q3])
          | with_reducible refine xTwo_intro ?_ ?_
          | (with_reducible refine xCondT_split (fun hcd => ?_) (fun hcd => ?_) <;> (try (exfalso; clear hP hN; simp_all; done)) <;> (try (exfalso; simp at *; omega)))
          | with_reducible refine WPT.block ?_
          | (with_reducible ((first | refine WPT.skip ?_ | refine WPT.exit ?_ | refine WPT.ret ?_); simp [hPb, hNb, setP, q2, q12, q3])))
        all_goals exact .inl ⟨by simp, q2, q12⟩
      · skip
        repeat' (first
          | with_reducible refine WPT.seq ?_
          | (with_reducible ((first | refine WPT.region hF (hn := []) (by kernel_rfl) ?_ | refine xC_intro (ch) ?_ | refine WPT.cond' ?_); simp -implicitDefEqProofs (maxSteps := 2000000) [hP, hN, hPb, hNb, setP, q2, q12, q3]))
          | (with_reducible refine xB_split (by simp [hPb, hNb, setP, q2, q12, q3]) (fun hgd => ?_) (fun hgd => ?_) <;> first | (exfalso; simp at hgd; done) | (exfalso; simp at hgd; omega) | simp -implicitDefEqProofs (maxSteps := 2000000) [hP, hN, hPb, hNb, setP, q2, q12, q3])
          | with_reducible refine xTwo_intro ?_ ?_
          | (with_reducible refine xCondT_split (fun hcd => ?_) (fun hcd => ?_) <;> (try (exfalso; clear hP hN; simp_all; done)) <;> (try (exfalso; simp at *; omega)))
          | with_reducible refine WPT.block ?_
          | (with_reducible ((first | refine WPT.skip ?_ | refine WPT.exit ?_ | refine WPT.ret ?_); simp [hPb, hNb, setP, q2, q12, q3])))
        all_goals exact .inr ⟨by simp [hne], by simp [q2], by simp [q12]⟩
    | true =>
      rw [hh] at ch
      rcases hI with ⟨rfl, q2, q12⟩ | ⟨hne, q2, q12⟩
      · skip
        repeat' (first
          | with_reducible refine WPT.seq ?_
          | (with_reducible ((first | refine WPT.region hF (hn := []) (by kernel_rfl) ?_ | refine xC_intro (ch) ?_ | refine WPT.cond' ?_); simp -implicitDefEqProofs (maxSteps := 2000000) [hP, hN, hPb, hNb, setP, q2, q12, q3]))
          | (with_reducible refine xB_split (by simp [hPb, hNb, setP, q2, q12, q3]) (fun hgd => ?_) (fun hgd => ?_) <;> first | (exfalso; simp at hgd; done) | (exfalso; simp at hgd; omega) | simp -implicitDefEqProofs (maxSteps := 2000000) [hP, hN, hPb, hNb, setP, q2, q12, q3])
          | with_reducible refine xTwo_intro ?_ ?_
          | (with_reducible refine xCondT_split (fun hcd => ?_) (fun hcd => ?_) <;> (try (exfalso; clear hP hN; simp_all; done)) <;> (try (exfalso; simp at *; omega)))
          | with_reducible refine WPT.block ?_
          | (with_reducible ((first | refine WPT.skip ?_ | refine WPT.exit ?_ | refine WPT.ret ?_); simp [hPb, hNb, setP, q2, q12, q3])))
        all_goals exact .inr ⟨by simp, by simp [upd], by simp [upd]⟩
      · skip
        repeat' (first
          | with_reducible refine WPT.seq ?_
          | (with_reducible ((first | refine WPT.region hF (hn := []) (by kernel_rfl) ?_ | refine xC_intro (ch) ?_ | refine WPT.cond' ?_); simp -implicitDefEqProofs (maxSteps := 2000000) [hP, hN, hPb, hNb, setP, q2, q12, q3, hA, hA']))
          | (with_reducible refine xB_split (by simp [hPb, hNb, setP, q2, q12, q3, hA, hA']) (fun hgd => ?_) (fun hgd => ?_) <;> first | (exfalso; simp at hgd; done) | (exfalso; simp at hgd; omega) | simp -implicitDefEqProofs (maxSteps := 2000000) [hP, hN, hPb, hNb, setP, q2, q12, q3, hA, hA'])
          | with_reducible refine xTwo_intro ?_ ?_
          | (with_reducible refine xCondT_split (fun hcd => ?_) (fun hcd => ?_) <;> (try (exfalso; clear hP hN; simp_all; done)) <;> (try (exfalso; simp at *; omega)))
          | with_reducible refine WPT.block ?_
          | (with_reducible ((first | refine WPT.skip ?_ | refine WPT.exit ?_ | refine WPT.ret ?_); simp [hPb, hNb, setP, q2, q12, q3, hA, hA'])))
        all_goals exact .inr ⟨by simp, by simp [upd], by simp [upd]⟩
  · intro h ⟨hI, q3⟩
    have hall : (leavesL t).take (leafPairs t).length = leavesL t := List.take_of_length_le (by simp [leafPairs])
    rw [hall] at hI
    show evR _ _ _ _ _ _ _
    unfold locL
    rcases hI with ⟨e, q2, q12⟩ | ⟨hne, q2, q12⟩
    · rw [e]
      simp -implicitDefEqProofs [hP, hN, q2, q12]
    · simp -implicitDefEqProofs [hP, hN, q2, q12]
end Go.Ab

/- Plain facts: what the boxes of a valid tree are to one another. -/
namespace Go.Ab
open Go.Proofs
theorem boxAt_of {t : Tr} {L : OL} (h : boxesO t = some L) {i : Nat} {b : Bx} (hb : L[i]? = some (some b)) : boxAt t (i : Int) = b := by
  rw [boxesO_map h] at hb
  rw [List.getElem?_map, Option.map_eq_some_iff] at hb
  obtain ⟨x, h1, h2⟩ := hb
  injection h2 with h2; subst h2
  simp [boxAt, h1]
/-- An inner cell: its two halves. -/
theorem inner_facts {t : Tr} (hv : validT t = true) {i : Nat} {c : Cel} (hc : t.cells[i]? = some c) (hlf : leafB c = false) :
    innerB t.cells.length i c = true ∧ halveOk (boxAt t (i : Int)) c.joint = true ∧ boxAt t c.low = halveA (boxAt t (i : Int)) c.joint ∧ boxAt t c.high = halveZ (boxAt t (i : Int)) c.joint := by
  obtain ⟨L, hL⟩ := Option.isSome_iff_exists.1 hv
  have hlt := (List.getElem?_eq_some_iff.1 hc).1
  have hP := boxes_ind (P := fun k M => BOk t k M ∧ (i < k → ∃ b, M[i]? = some (some b) ∧ innerB t.cells.length i c = true ∧ halveOk b c.joint = true ∧ M[c.low.toNat]? = some (some (halveA b c.joint)) ∧ M[c.high.toNat]? = some (some (halveZ b c.joint)))) hL ⟨bok_init (boxesO_size hL), by omega⟩ (by
    rintro k d M M' hk ⟨hbo, hp⟩ hm
    refine ⟨bok_step hbo hm, fun hik => ?_⟩
    by_cases e : k = i
    · subst e
      rw [hc] at hk; injection hk with hk; subst hk
      obtain ⟨b, hb, ⟨h1, _⟩ | ⟨_, hi, hh, hlo, hhi, rfl⟩⟩ := bStep_some hm
      · rw [hlf] at h1; cases h1
      · have hin := innerB_iff.1 hi
        refine ⟨b, ?_, hi, hh, ?_, ?_⟩
        · rw [step_get hbo.len hi, if_neg (by omega), if_neg (by omega)]; exact hb
        · rw [step_get hbo.len hi, if_neg (by omega), if_pos rfl]
        · rw [step_get hbo.len hi, if_pos rfl]
    · obtain ⟨b, h1, h2, h3, h4, h5⟩ := hp (by omega)
      exact ⟨b, bStep_mono hm h1, h2, h3, bStep_mono hm h4, bStep_mono hm h5⟩)
  obtain ⟨b, h1, h2, h3, h4, h5⟩ := hP.2 hlt
  have hin := innerB_iff.1 h2
  have e0 := boxAt_of hL h1
  have e1 := boxAt_of hL h4
  have e2 := boxAt_of hL h5
  rw [Int.toNat_of_nonneg (by omega)] at e1 e2
  rw [e0, e1, e2]
  exact ⟨h2, h3, rfl, rfl⟩
theorem root_box {t : Tr} (hv : validT t = true) : boxAt t 0 = t.root := by
  obtain ⟨L, hL⟩ := Option.isSome_iff_exists.1 hv
  have hP := boxes_ind (P := fun _ M => M[0]? = some (some t.root)) hL (by simp [bInit]) (fun k d M M' _ hp hm => bStep_mono hm hp)
  exact boxAt_of hL hP
/-- A configuration of a box is in one of its halves. -/
theorem halves_has {b : Bx} {j : Int} (h : halveOk b j = true) {q : List Int} (hq : hasC b q = true) : ∃ c x, q[j.toNat]? = some c ∧ (halveA b j)[j.toNat]? = some x ∧ (c ≤ x.2 → hasC (halveA b j) q = true) ∧ (x.2 ≤ c → hasC (halveZ b j) q = true) := by
  obtain ⟨x, hx, hv, h3, ea, ez⟩ := halve_eq h
  have hvb := (hvOk_iff.1 h).2.1
  obtain ⟨va, vz⟩ := halve_valid h
  obtain ⟨l1, m1⟩ := (hasC_vi hvb).1 hq
  have hlt := (List.getElem?_eq_some_iff.1 hx).1
  have hqj : q[j.toNat]? = some (q[j.toNat]'(by omega)) := List.getElem?_eq_getElem _
  have hm := m1 j.toNat x _ hx hqj
  refine ⟨_, (x.1, (x.1 + x.2) / 2), hqj, by rw [ea]; simp [hlt], fun hle => ?_, fun hle => ?_⟩
  · refine (hasC_vi va).2 ⟨by rw [ea]; simpa using l1, fun i y z hy hz => ?_⟩
    rw [ea, List.getElem?_set] at hy
    split at hy
    · rename_i e; subst e
      simp [hlt] at hy; subst hy
      rw [hqj] at hz; injection hz with hz; subst hz
      exact ⟨hm.1, hle⟩
    · exact m1 i y z hy hz
  · refine (hasC_vi vz).2 ⟨by rw [ez]; simpa using l1, fun i y z hy hz => ?_⟩
    rw [ez, List.getElem?_set] at hy
    split at hy
    · rename_i e; subst e
      simp [hlt] at hy; subst hy
      rw [hqj] at hz; injection hz with hz; subst hz
      exact ⟨hle, hm.2⟩
    · exact m1 i y z hy hz
/-! Home -/
def homeN (t : Tr) (q : List Int) (at_ : Nat) : Nat := match t.cells[at_]? with
  | some c => if leafB c then at_ else if q[c.joint.toNat]?.getD 0 ≤ ((boxAt t c.low)[c.joint.toNat]?.getD (0, 0)).2 then c.low.toNat else c.high.toNat
  | none => at_
def homeS (t : Tr) (q : List Int) : Nat → Nat
  | 0 => 0
  | k + 1 => homeN t q (homeS t q k)
def homeOk (t : Tr) (q : List Int) : Bool := validT t && hasC t.root q
def homeR (t : Tr) (q : List Int) : Int := if homeOk t q then (homeS t q t.cells.length : Nat) else 0
theorem homeN_ok {t : Tr} (hv : validT t = true) {q : List Int} {i : Nat} {c : Cel} (hc : t.cells[i]? = some c) (hlf : leafB c = false) (hq : hasC (boxAt t (i : Int)) q = true) :
    i < homeN t q i ∧ homeN t q i < t.cells.length ∧ hasC (boxAt t (homeN t q i : Int)) q = true := by
  obtain ⟨h1, h2, h3, h4⟩ := inner_facts hv hc hlf
  have hin := innerB_iff.1 h1
  obtain ⟨cc, x, e1, e2, e3, e4⟩ := halves_has h2 hq
  unfold homeN
  rw [hc]
  simp only [hlf, Bool.false_eq_true, if_false, e1, h3, e2, Option.getD_some]
  split
  · rename_i hle
    refine ⟨by omega, by omega, ?_⟩
    rw [Int.toNat_of_nonneg (by omega), h3]; exact e3 hle
  · rename_i hle
    refine ⟨by omega, by omega, ?_⟩
    rw [Int.toNat_of_nonneg (by omega), h4]; exact e4 (by omega)
theorem homeS_ok {t : Tr} {q : List Int} (h : homeOk t q = true) : ∀ k, homeS t q k < t.cells.length ∧ hasC (boxAt t (homeS t q k : Int)) q = true ∧ (leafN t (homeS t q k) = true ∨ k ≤ homeS t q k)
  | 0 => by
    simp only [homeOk, Bool.and_eq_true] at h
    have hz := sizeOk_iff.1 (valid_size h.1)
    refine ⟨by simp only [homeS]; omega, ?_, .inr (Nat.zero_le _)⟩
    simp only [homeS]
    rw [show ((0 : Nat) : Int) = 0 from rfl, root_box h.1]; exact h.2
  | k + 1 => by
    obtain ⟨i1, i2, i3⟩ := homeS_ok h k
    have hv : validT t = true := by simp only [homeOk, Bool.and_eq_true] at h; exact h.1
    have hc := List.getElem?_eq_getElem i1
    simp only [homeS]
    cases hlf : leafB t.cells[homeS t q k] with
    | true =>
      have e : homeN t q (homeS t q k) = homeS t q k := by simp [homeN, hc, hlf]
      rw [e]
      exact ⟨i1, i2, .inl (by simp [leafN, hc, hlf])⟩
    | false =>
      obtain ⟨j1, j2, j3⟩ := homeN_ok hv hc hlf i2
      refine ⟨j2, j3, .inr ?_⟩
      rcases i3 with i3 | i3
      · simp [leafN, hc, hlf] at i3
      · omega
theorem homeS_stop {t : Tr} {q : List Int} {k : Nat} (h : leafN t (homeS t q k) = true) : ∀ m, homeS t q (k + m) = homeS t q k
  | 0 => rfl
  | m + 1 => by
    rw [← Nat.add_assoc]
    simp only [homeS]
    rw [homeS_stop h m]
    obtain ⟨c, hc, hl, _⟩ := leafN_get h
    simp [homeN, hc, hl]
theorem home_leaf {t : Tr} {q : List Int} (h : homeOk t q = true) : leafN t (homeS t q t.cells.length) = true ∧ hasC (boxAt t (homeS t q t.cells.length : Int)) q = true ∧ homeS t q t.cells.length < t.cells.length := by
  obtain ⟨h1, h2, h3⟩ := homeS_ok h t.cells.length
  refine ⟨?_, h2, h1⟩
  rcases h3 with h3 | h3
  · exact h3
  · omega
/-! leaves are apart -/
def apart (a b : Bx) : Prop := ∃ (j : Nat) (x y : Int × Int), a[j]? = some x ∧ b[j]? = some y ∧ (x.2 ≤ y.1 ∨ y.2 ≤ x.1)
theorem apart.symm {a b : Bx} (h : apart a b) : apart b a := by
  obtain ⟨j, x, y, h1, h2, h3⟩ := h
  exact ⟨j, y, x, h2, h1, h3.symm⟩
theorem apart_half {a b : Bx} {j : Int} (h : halveOk b j = true) (hab : apart a b) : apart a (halveA b j) ∧ apart a (halveZ b j) := by
  obtain ⟨x, hx, hv, h3, ea, ez⟩ := halve_eq h
  have hlt := (List.getElem?_eq_some_iff.1 hx).1
  obtain ⟨m, u, v, h1, h2, h4⟩ := hab
  by_cases e : j.toNat = m
  · subst e
    rw [hx] at h2; injection h2 with h2; subst h2
    refine ⟨⟨j.toNat, u, (x.1, (x.1 + x.2) / 2), h1, by rw [ea]; simp [hlt], by simp only; omega⟩, ⟨j.toNat, u, ((x.1 + x.2) / 2, x.2), h1, by rw [ez]; simp [hlt], by simp only; omega⟩⟩
  · exact ⟨⟨m, u, v, h1, by rw [ea, List.getElem?_set, if_neg e]; exact h2, h4⟩, ⟨m, u, v, h1, by rw [ez, List.getElem?_set, if_neg e]; exact h2, h4⟩⟩
theorem halves_apart {b : Bx} {j : Int} (h : halveOk b j = true) : apart (halveA b j) (halveZ b j) := by
  obtain ⟨x, hx, hv, h3, ea, ez⟩ := halve_eq h
  have hlt := (List.getElem?_eq_some_iff.1 hx).1
  exact ⟨j.toNat, (x.1, (x.1 + x.2) / 2), ((x.1 + x.2) / 2, x.2), by rw [ea]; simp [hlt], by rw [ez]; simp [hlt], .inl (Int.le_refl _)⟩
/-- The cells that are still to be looked at, and the leaves before. -/
def live (t : Tr) (k j : Nat) : Prop := k ≤ j ∨ leafN t j = true
theorem leaves_apart {t : Tr} (hv : validT t = true) {i j : Nat} (hi : leafN t i = true) (hj : leafN t j = true) (hne : i ≠ j) : apart (boxAt t (i : Int)) (boxAt t (j : Int)) := by
  obtain ⟨L, hL⟩ := Option.isSome_iff_exists.1 hv
  have hP := boxes_ind (P := fun k M => BOk t k M ∧ ∀ a b x y, a ≠ b → live t k a → live t k b → M[a]? = some (some x) → M[b]? = some (some y) → apart x y) hL ⟨bok_init (boxesO_size hL), by
    intro a b x y hab _ _ hx hy
    cases a with
    | zero => cases b with
      | zero => exact absurd rfl hab
      | succ b => simp [bInit, List.getElem?_replicate] at hy
    | succ a => simp [bInit, List.getElem?_replicate] at hx⟩ (by
    rintro k d M M' hk ⟨hbo, hp⟩ hm
    refine ⟨bok_step hbo hm, ?_⟩
    intro a b x y hab la lb hx hy
    obtain ⟨b0, hb0, ⟨hlf, _, rfl⟩ | ⟨hlf, hi, hh, hlo, hhi, rfl⟩⟩ := bStep_some hm
    · have wk : ∀ j, live t (k + 1) j → live t k j := fun j hj => hj.imp (fun h => by omega) id
      exact hp a b x y hab (wk a la) (wk b lb) hx hy
    · have hin := innerB_iff.1 hi
      have nk : ∀ j, live t (k + 1) j → j ≠ k ∧ live t k j := by
        intro j hj
        refine ⟨?_, hj.imp (fun h => by omega) id⟩
        intro e; subst e
        rcases hj with h | h
        · omega
        · simp [leafN, hk, hlf] at h
      obtain ⟨na, la'⟩ := nk a la
      obtain ⟨nb, lb'⟩ := nk b lb
      have lk : live t k k := .inl (Nat.le_refl _)
      rw [step_get hbo.len hi] at hx hy
      have old : ∀ {a : Nat} {x : Bx}, a ≠ k → live t k a → M[a]? = some (some x) → apart x (halveA b0 d.joint) ∧ apart x (halveZ b0 d.joint) := fun ha hl hx => apart_half hh (hp _ k _ b0 ha hl lk hx hb0)
      have hap := halves_apart hh
      by_cases a1 : a = d.high.toNat
      · rw [if_pos a1] at hx; injection hx with hx; injection hx with hx; subst hx
        by_cases b1 : b = d.high.toNat
        · omega
        · rw [if_neg b1] at hy
          by_cases b2 : b = d.low.toNat
          · rw [if_pos b2] at hy; injection hy with hy; injection hy with hy; subst hy
            exact hap.symm
          · rw [if_neg b2] at hy
            exact (old nb lb' hy).2.symm
      · rw [if_neg a1] at hx
        by_cases a2 : a = d.low.toNat
        · rw [if_pos a2] at hx; injection hx with hx; injection hx with hx; subst hx
          by_cases b1 : b = d.high.toNat
          · rw [if_pos b1] at hy; injection hy with hy; injection hy with hy; subst hy
            exact hap
          · rw [if_neg b1] at hy
            by_cases b2 : b = d.low.toNat
            · omega
            · rw [if_neg b2] at hy
              exact (old nb lb' hy).1.symm
        · rw [if_neg a2] at hx
          by_cases b1 : b = d.high.toNat
          · rw [if_pos b1] at hy; injection hy with hy; injection hy with hy; subst hy
            exact (old na la' hx).2
          · rw [if_neg b1] at hy
            by_cases b2 : b = d.low.toNat
            · rw [if_pos b2] at hy; injection hy with hy; injection hy with hy; subst hy
              exact (old na la' hx).1
            · rw [if_neg b2] at hy
              exact hp a b x y hab la' lb' hx hy)
  have key : ∀ i, leafN t i = true → L[i]? = some (some (boxAt t (i : Int))) := by
    intro i hi
    obtain ⟨c, hc, _, _⟩ := leafN_get hi
    obtain ⟨b, hb⟩ := (boxesO_ok hL).pre i (List.getElem?_eq_some_iff.1 hc).1
    rw [boxAt_of hL hb]; exact hb
  exact hP.2 i j _ _ hne (.inr hi) (.inr hj) (key i hi) (key j hj)
/-- Boxes lie in the root's. -/
theorem box_within {t : Tr} (hv : validT t = true) {i : Nat} (hi : i < t.cells.length) : ∀ (j : Nat) x y, (boxAt t (i : Int))[j]? = some x → t.root[j]? = some y → y.1 ≤ x.1 ∧ x.2 ≤ y.2 := by
  obtain ⟨L, hL⟩ := Option.isSome_iff_exists.1 hv
  have hP := boxes_ind (P := fun _ M => ∀ (k : Nat) d, M[k]? = some (some d) → ∀ (j : Nat) x y, d[j]? = some x → t.root[j]? = some y → y.1 ≤ x.1 ∧ x.2 ≤ y.2) hL (by
    intro k d hd j x y hx hy
    cases k with
    | zero => simp [bInit] at hd; subst hd; rw [hx] at hy; injection hy with hy; subst hy; exact ⟨Int.le_refl _, Int.le_refl _⟩
    | succ k => simp [bInit, List.getElem?_replicate] at hd) (by
    intro k c M M' hk hp hm
    obtain ⟨d, hd, ⟨_, _, rfl⟩ | ⟨_, hi', hh, hlo, hhi, rfl⟩⟩ := bStep_some hm
    · exact hp
    · have hdr := hp k d hd
      obtain ⟨x, hx, hv, h3, ea, ez⟩ := halve_eq hh
      have hlt := (List.getElem?_eq_some_iff.1 hx).1
      have key : ∀ y : Int × Int, x.1 ≤ y.1 → y.2 ≤ x.2 → ∀ (j : Nat) u v, (d.set c.joint.toNat y)[j]? = some u → t.root[j]? = some v → v.1 ≤ u.1 ∧ u.2 ≤ v.2 := by
        intro y h1 h2 j u v hu hv'
        rw [List.getElem?_set] at hu
        split at hu
        · rename_i e; subst e
          simp [hlt] at hu; subst hu
          have := hdr _ x v hx hv'
          omega
        · exact hdr j u v hu hv'
      intro k' e he
      rw [List.getElem?_set] at he
      split at he
      · split at he
        · injection he with he; injection he with he; subst he
          rw [ez]; exact key _ (by simp only; omega) (by simp only; omega)
        · cases he
      · rw [List.getElem?_set] at he
        split at he
        · split at he
          · injection he with he; injection he with he; subst he
            rw [ea]; exact key _ (by simp only; omega) (by simp only; omega)
          · cases he
        · exact hp k' e he)
  obtain ⟨b, hb⟩ := (boxesO_ok hL).pre i hi
  rw [boxAt_of hL hb]
  exact hP i b hb
end Go.Ab
