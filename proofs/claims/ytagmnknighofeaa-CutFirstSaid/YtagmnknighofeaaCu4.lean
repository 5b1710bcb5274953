/- Contracts: floods, III. -/
import Derived.Test.YtagmnknighofeaaCu3
set_option linter.all false
namespace Go.Ab
open Go.Proofs
def sB (bs : List Bx) (op : List Bool) (q : List Int) (i : Nat) : Bool := opL op i && hasC (bxB bs i) q
set_option maxRecDepth 10000 in
set_option maxHeartbeats 16000000 in
theorem d131 (bs : List Bx) (op : List Bool) (q : List Int) (V : List Bool) (hb : bs.length = op.length) (h1 : 1 ≤ op.length) (hn : op.length ≤ 2048) (hbx : ∀ b ∈ bs, b.length ≤ 9223372036854775807) (hV : IsR op.length (opL op) (tL9 bs) (fun i => i < op.length ∧ sB bs op q i = true) V) : DetH Try.prog 131 [.pv (encLand bs op), .pv (zs q)] [] [] (.pv (.sl (V.map B))) := by
  obtain ⟨n, hnn⟩ : ∃ n, op.length = n := ⟨_, rfl⟩
  have hfi := fi_init op.length (opL op) (tL9 bs) (sB bs op q)
  have hfl := fF_len (sB bs op q) op.length
  have csp := s173 bs op _ _ V _ hb hn hbx (by omega) hfi hV
  rw [hnn] at hV hn hb h1 hfl csp hfi
  refine detP_of Try.func131 rfl (by kernel_rfl) (by simp [Try.f131]) rfl ?_
  intro C hP hN
  simp only [Try.f131] at hN ⊢
  repeat' (first
    | with_reducible refine WP.seq ?_
    | (with_reducible ((first | refine WP.region (hn := [6]) ?_ | refine WP.cond' ?_); simp -implicitDefEqProofs (maxSteps := 2000000) [hP, hN, hnn, show (1 : Int) * n ≤ 281474976710656 by omega, show (n : Int) ≤ 281474976710656 by omega, show (n : Int) ≤ 9223372036854775807 by omega]))
    | (with_reducible ((first | refine WP.draw (hn := [6]) (by rw [hP]; kernel_rfl) (by kernel_rfl) ?_); simp -implicitDefEqProofs (maxSteps := 2000000) [hP, hN, hnn, show (1 : Int) * n ≤ 281474976710656 by omega, show (n : Int) ≤ 281474976710656 by omega, show (n : Int) ≤ 9223372036854775807 by omega]; (try refine ⟨by kernel_rfl, ?_⟩)))
    | (with_reducible refine xB_split (by simp [hnn, show (1 : Int) * n ≤ 281474976710656 by omega, show (n : Int) ≤ 281474976710656 by omega, show (n : Int) ≤ 9223372036854775807 by omega]) (fun hgd => ?_) (fun hgd => ?_) <;> first | (exfalso; simp at hgd; done) | (exfalso; simp at hgd; omega) | simp -implicitDefEqProofs (maxSteps := 2000000) [hP, hN, hnn, show (1 : Int) * n ≤ 281474976710656 by omega, show (n : Int) ≤ 281474976710656 by omega, show (n : Int) ≤ 9223372036854775807 by omega])
    | (with_reducible refine yB_split (by simp [hnn, show (1 : Int) * n ≤ 281474976710656 by omega, show (n : Int) ≤ 281474976710656 by omega, show (n : Int) ≤ 9223372036854775807 by omega]) (fun hgd => ?_) (fun hgd => ?_) <;> first | (exfalso; simp at hgd; done) | (exfalso; simp at hgd; omega) | (simp -implicitDefEqProofs (maxSteps := 2000000) [hP, hN, hnn, show (1 : Int) * n ≤ 281474976710656 by omega, show (n : Int) ≤ 281474976710656 by omega, show (n : Int) ≤ 9223372036854775807 by omega] <;> (try refine ⟨by kernel_rfl, ?_⟩)))
    | with_reducible refine xTwo_intro ?_ ?_
    | (with_reducible refine xCond_split (fun hcd => ?_) (fun hcd => ?_) <;> (try (exfalso; clear hP hN; simp_all; done)) <;> (try (exfalso; simp at *; omega)))
    | with_reducible refine WP.block ?_
    | (with_reducible ((first | refine WP.skip ?_ | refine WP.exit ?_ | refine WP.ret ?_); simp [hnn, show (1 : Int) * n ≤ 281474976710656 by omega, show (n : Int) ≤ 281474976710656 by omega, show (n : Int) ≤ 9223372036854775807 by omega])))
  refine WP.loopN [] n (fun i st => st.t 1 = .pv (zs q) ∧ st.t 2 = .ptr 2 0 ∧ st.t 5 = .arr 12 n ∧ st.t 6 = .arr 6 (fF (sB bs op q) i).length ∧ st.t 14 = .pv (.sl (op.map B)) ∧ st.t 15 = .pv (Z n) ∧ st.t 16 = .pv (Z i) ∧ st.h 2 = some (.box [.pv (.sl (bs.map iv)), .pv (.sl (op.map B))] true false) ∧ st.h 12 = some (.row 4 1 ((fU n (sB bs op q) i).map B) 0) ∧ st.h 6 = some (.row 3 1 ((fF (sB bs op q) i).map zN) 0)) (by simp [fU_zero, fF]) ?_
  rintro i st hi ⟨g1, g2, g5, g6, g14, g15, g16, hb2, hb12, hb6⟩
  have hUl := fU_len n (sB bs op q) i
  have hFl := fF_len (sB bs op q) i
  by_cases hlt : i < n
  · have hw := wr_succ hlt (by omega)
    have hio : i < op.length := by omega
    have hop := opL_get hio
    have hop' := get_of hop hio
    have hib : i < bs.length := by omega
    have hbi := bxB_get hib
    have hbi' := get_of hbi hib
    have ch := d86 (bxB bs i) q (hbx _ (List.mem_of_getElem? hbi))
    have hs9 : sB bs op q i = (opL op i && hasC (bxB bs i) q) := rfl
    have hUn := fU_no (n := n) (s := sB bs op q) (i := i)
    have hFn := fF_no (s := sB bs op q) (i := i)
    have hUy := fU_yes (n := n) (s := sB bs op q) hlt
    have hFy := fF_yes (s := sB bs op q) (i := i)
    rw [hs9] at hUn hFn hUy hFy
    generalize fU n (sB bs op q) i = U at *
    generalize fU n (sB bs op q) (i + 1) = U' at *
    generalize fF (sB bs op q) i = F at *
    generalize fF (sB bs op q) (i + 1) = F' at *
    have hiU : i < U.length := by omega
    cases ho : opL op i with
    | false =>
      rw [ho] at hop hop' hUn hFn
      have e1 := hUn (by simp)
      have e2 := hFn (by simp)
      subst e1; subst e2
      repeat' (first
        | with_reducible refine WP.seq ?_
        | (with_reducible ((first | refine WP.region (hn := []) ?_ | refine WP.cond' ?_); simp -implicitDefEqProofs (maxSteps := 2000000) [hP, hN, g1, g2, g5, g6, g14, g15, g16, hb2, hb12, hb6, hlt, hw, hnn, hop, hop', hio]))
        | (with_reducible ((first | refine WP.draw (hn := []) (by rw [hP]; kernel_rfl) (by kernel_rfl) ?_); simp -implicitDefEqProofs (maxSteps := 2000000) [hP, hN, g1, g2, g5, g6, g14, g15, g16, hb2, hb12, hb6, hlt, hw, hnn, hop, hop', hio]; (try refine ⟨by kernel_rfl, ?_⟩)))
        | (with_reducible refine xB_split (by simp [g1, g2, g5, g6, g14, g15, g16, hb2, hb12, hb6, hlt, hw, hnn, hop, hop', hio]) (fun hgd => ?_) (fun hgd => ?_) <;> first | (exfalso; simp at hgd; done) | (exfalso; simp at hgd; omega) | simp -implicitDefEqProofs (maxSteps := 2000000) [hP, hN, g1, g2, g5, g6, g14, g15, g16, hb2, hb12, hb6, hlt, hw, hnn, hop, hop', hio])
        | (with_reducible refine yB_split (by simp [g1, g2, g5, g6, g14, g15, g16, hb2, hb12, hb6, hlt, hw, hnn, hop, hop', hio]) (fun hgd => ?_) (fun hgd => ?_) <;> first | (exfalso; simp at hgd; done) | (exfalso; simp at hgd; omega) | (simp -implicitDefEqProofs (maxSteps := 2000000) [hP, hN, g1, g2, g5, g6, g14, g15, g16, hb2, hb12, hb6, hlt, hw, hnn, hop, hop', hio] <;> (try refine ⟨by kernel_rfl, ?_⟩)))
        | with_reducible refine xTwo_intro ?_ ?_
        | (with_reducible refine xCond_split (fun hcd => ?_) (fun hcd => ?_) <;> (try (exfalso; clear hP hN; simp_all; done)) <;> (try (exfalso; simp at *; omega)))
        | with_reducible refine WP.block ?_
        | (with_reducible ((first | refine WP.skip ?_ | refine WP.exit ?_ | refine WP.ret ?_); simp [g1, g2, g5, g6, g14, g15, g16, hb2, hb12, hb6, hlt, hw, hnn, hop, hop', hio])))
    | true =>
    rw [ho] at hop hop' hUn hFn hUy hFy
    cases hh : hasC (bxB bs i) q with
    | false =>
      rw [hh] at ch hUn hFn
      have e1 := hUn (by simp)
      have e2 := hFn (by simp)
      subst e1; subst e2
      repeat' (first
        | with_reducible refine WP.seq ?_
        | (with_reducible ((first | refine WP.region (hn := []) ?_ | refine xC_intro (ch) ?_ | refine WP.cond' ?_); simp -implicitDefEqProofs (maxSteps := 2000000) [hP, hN, g1, g2, g5, g6, g14, g15, g16, hb2, hb12, hb6, hlt, hw, hnn, hop, hop', hio, hib, hbi, hbi']))
        | (with_reducible ((first | refine WP.draw (hn := []) (by rw [hP]; kernel_rfl) (by kernel_rfl) ?_ | refine yC_intro (ch) ?_); simp -implicitDefEqProofs (maxSteps := 2000000) [hP, hN, g1, g2, g5, g6, g14, g15, g16, hb2, hb12, hb6, hlt, hw, hnn, hop, hop', hio, hib, hbi, hbi']; (try refine ⟨by kernel_rfl, ?_⟩)))
        | (with_reducible refine xB_split (by simp [g1, g2, g5, g6, g14, g15, g16, hb2, hb12, hb6, hlt, hw, hnn, hop, hop', hio, hib, hbi, hbi']) (fun hgd => ?_) (fun hgd => ?_) <;> first | (exfalso; simp at hgd; done) | (exfalso; simp at hgd; omega) | simp -implicitDefEqProofs (maxSteps := 2000000) [hP, hN, g1, g2, g5, g6, g14, g15, g16, hb2, hb12, hb6, hlt, hw, hnn, hop, hop', hio, hib, hbi, hbi'])
        | (with_reducible refine yB_split (by simp [g1, g2, g5, g6, g14, g15, g16, hb2, hb12, hb6, hlt, hw, hnn, hop, hop', hio, hib, hbi, hbi']) (fun hgd => ?_) (fun hgd => ?_) <;> first | (exfalso; simp at hgd; done) | (exfalso; simp at hgd; omega) | (simp -implicitDefEqProofs (maxSteps := 2000000) [hP, hN, g1, g2, g5, g6, g14, g15, g16, hb2, hb12, hb6, hlt, hw, hnn, hop, hop', hio, hib, hbi, hbi'] <;> (try refine ⟨by kernel_rfl, ?_⟩)))
        | with_reducible refine xTwo_intro ?_ ?_
        | (with_reducible refine xCond_split (fun hcd => ?_) (fun hcd => ?_) <;> (try (exfalso; clear hP hN; simp_all; done)) <;> (try (exfalso; simp at *; omega)))
        | with_reducible refine WP.block ?_
        | (with_reducible ((first | refine WP.skip ?_ | refine WP.exit ?_ | refine WP.ret ?_); simp [g1, g2, g5, g6, g14, g15, g16, hb2, hb12, hb6, hlt, hw, hnn, hop, hop', hio, hib, hbi, hbi'])))
    | true =>
      rw [hh] at ch hUy hFy
      have e1 := hUy rfl
      have e2 := hFy rfl
      repeat' (first
        | with_reducible refine WP.seq ?_
        | (with_reducible ((first | refine WP.region (hn := []) ?_ | refine xC_intro (ch) ?_ | refine WP.cond' ?_); simp -implicitDefEqProofs (maxSteps := 2000000) [hP, hN, g1, g2, g5, g6, g14, g15, g16, hb2, hb12, hb6, hlt, hw, hnn, hop, hop', hio, hib, hbi, hbi', hUl, hiU, show (F.length + 1) * 8 ≤ 140737488355328 by omega, show F.length + 1 ≤ 9223372036854775807 by omega]))
        | (with_reducible ((first | refine WP.draw (hn := []) (by rw [hP]; kernel_rfl) (by kernel_rfl) ?_ | refine yC_intro (ch) ?_); simp -implicitDefEqProofs (maxSteps := 2000000) [hP, hN, g1, g2, g5, g6, g14, g15, g16, hb2, hb12, hb6, hlt, hw, hnn, hop, hop', hio, hib, hbi, hbi', hUl, hiU, show (F.length + 1) * 8 ≤ 140737488355328 by omega, show F.length + 1 ≤ 9223372036854775807 by omega]; (try refine ⟨by kernel_rfl, ?_⟩)))
        | (with_reducible refine xB_split (by simp [g1, g2, g5, g6, g14, g15, g16, hb2, hb12, hb6, hlt, hw, hnn, hop, hop', hio, hib, hbi, hbi', hUl, hiU, show (F.length + 1) * 8 ≤ 140737488355328 by omega, show F.length + 1 ≤ 9223372036854775807 by omega]) (fun hgd => ?_) (fun hgd => ?_) <;> first | (exfalso; simp at hgd; done) | (exfalso; simp at hgd; omega) | simp -implicitDefEqProofs (maxSteps := 2000000) [hP, hN, g1, g2, g5, g6, g14, g15, g16, hb2, hb12, hb6, hlt, hw, hnn, hop, hop', hio, hib, hbi, hbi', hUl, hiU, show (F.length + 1) * 8 ≤ 140737488355328 by omega, show F.length + 1 ≤ 9223372036854775807 by omega])
        | (with_reducible refine yB_split (by simp [g1, g2, g5, g6, g14, g15, g16, hb2, hb12, hb6, hlt, hw, hnn, hop, hop', hio, hib, hbi, hbi', hUl, hiU, show (F.length + 1) * 8 ≤ 140737488355328 by omega, show F.length + 1 ≤ 9223372036854775807 by omega]) (fun hgd => ?_) (fun hgd => ?_) <;> first | (exfalso; simp at hgd; done) | (exfalso; simp at hgd; omega) | (simp -implicitDefEqProofs (maxSteps := 2000000) [hP, hN, g1, g2, g5, g6, g14, g15, g16, hb2, hb12, hb6, hlt, hw, hnn, hop, hop', hio, hib, hbi, hbi', hUl, hiU, show (F.length + 1) * 8 ≤ 140737488355328 by omega, show F.length + 1 ≤ 9223372036854775807 by omega] <;> (try refine ⟨by kernel_rfl, ?_⟩)))
        | with_reducible refine xTwo_intro ?_ ?_
        | (with_reducible refine xCond_split (fun hcd => ?_) (fun hcd => ?_) <;> (try (exfalso; clear hP hN; simp_all; done)) <;> (try (exfalso; simp at *; omega)))
        | with_reducible refine WP.block ?_
        | (with_reducible ((first | refine WP.skip ?_ | refine WP.exit ?_ | refine WP.ret ?_); simp [g1, g2, g5, g6, g14, g15, g16, hb2, hb12, hb6, hlt, hw, hnn, hop, hop', hio, hib, hbi, hbi', hUl, hiU, show (F.length + 1) * 8 ≤ 140737488355328 by omega, show F.length + 1 ≤ 9223372036854775807 by omega])))
      all_goals simp [e2, ← e1, List.map_set]
  · have hi' : i = n := by omega
    subst hi'
    have hne : fU i (sB bs op q) i ≠ [] := by intro h; rw [h] at hUl; simp at hUl; omega
    generalize fU i (sB bs op q) i = U at *
    generalize fF (sB bs op q) i = F at *
    repeat' (first
      | with_reducible refine WP.seq ?_
      | ((refine WP.hand (hn := []) (pre := [_, _, _]) rfl rfl rfl rfl ?_); simp -implicitDefEqProofs (maxSteps := 2000000) [hP, hN, g1, g2, g5, g6, g14, g15, g16, hb2, hb12, hb6, hlt])
      | (with_reducible ((first | refine WP.region (hn := []) ?_ | refine WP.cond' ?_); simp -implicitDefEqProofs (maxSteps := 2000000) [hP, hN, g1, g2, g5, g6, g14, g15, g16, hb2, hb12, hb6, hlt]))
      | (with_reducible ((first | refine WP.draw (hn := []) (by rw [hP]; kernel_rfl) (by kernel_rfl) ?_); simp -implicitDefEqProofs (maxSteps := 2000000) [hP, hN, g1, g2, g5, g6, g14, g15, g16, hb2, hb12, hb6, hlt]; (try refine ⟨by kernel_rfl, ?_⟩)))
      | (with_reducible refine xB_split (by simp [g1, g2, g5, g6, g14, g15, g16, hb2, hb12, hb6, hlt]) (fun hgd => ?_) (fun hgd => ?_) <;> first | (exfalso; simp at hgd; done) | (exfalso; simp at hgd; omega) | simp -implicitDefEqProofs (maxSteps := 2000000) [hP, hN, g1, g2, g5, g6, g14, g15, g16, hb2, hb12, hb6, hlt])
      | (with_reducible refine yB_split (by simp [g1, g2, g5, g6, g14, g15, g16, hb2, hb12, hb6, hlt]) (fun hgd => ?_) (fun hgd => ?_) <;> first | (exfalso; simp at hgd; done) | (exfalso; simp at hgd; omega) | (simp -implicitDefEqProofs (maxSteps := 2000000) [hP, hN, g1, g2, g5, g6, g14, g15, g16, hb2, hb12, hb6, hlt] <;> (try refine ⟨by kernel_rfl, ?_⟩)))
      | with_reducible refine xTwo_intro ?_ ?_
      | (with_reducible refine xCond_split (fun hcd => ?_) (fun hcd => ?_) <;> (try (exfalso; clear hP hN; simp_all; done)) <;> (try (exfalso; simp at *; omega)))
      | with_reducible refine WP.block ?_
      | (with_reducible ((first | refine WP.skip ?_ | refine WP.exit ?_ | refine WP.ret ?_); simp [g1, g2, g5, g6, g14, g15, g16, hb2, hb12, hb6, hlt])))
    refine ⟨173, encLand bs op, [], 12, 6, 4, 1, 3, 1, U.map B, V.map B, F.map zN, by simp, by simp [hb2], by simp [g5, hUl], by simp [g6], by simp [hb12], by simp [hb6], by decide, by simp [hne], by rw [hP]; exact csp, by rw [hN]; decide, ?_⟩
    simp -implicitDefEqProofs (maxSteps := 2000000) [hP, hN, g1, g2, g5, g6, hb2, hb12, hb6]
    have hVl := hV.len
    repeat' (first
      | with_reducible refine WP.seq ?_
      | (with_reducible ((first | refine WP.region (hn := []) ?_ | refine WP.cond' ?_); simp -implicitDefEqProofs (maxSteps := 2000000) [hP, hN, g1, g2, g5, g6, hb2, hb12, hb6, hVl]))
      | (with_reducible ((first | refine WP.draw (hn := []) (by rw [hP]; kernel_rfl) (by kernel_rfl) ?_); simp -implicitDefEqProofs (maxSteps := 2000000) [hP, hN, g1, g2, g5, g6, hb2, hb12, hb6, hVl]; (try refine ⟨by kernel_rfl, ?_⟩)))
      | (with_reducible refine xB_split (by simp [g1, g2, g5, g6, hb2, hb12, hb6, hVl]) (fun hgd => ?_) (fun hgd => ?_) <;> first | (exfalso; simp at hgd; done) | (exfalso; simp at hgd; omega) | simp -implicitDefEqProofs (maxSteps := 2000000) [hP, hN, g1, g2, g5, g6, hb2, hb12, hb6, hVl])
      | (with_reducible refine yB_split (by simp [g1, g2, g5, g6, hb2, hb12, hb6, hVl]) (fun hgd => ?_) (fun hgd => ?_) <;> first | (exfalso; simp at hgd; done) | (exfalso; simp at hgd; omega) | (simp -implicitDefEqProofs (maxSteps := 2000000) [hP, hN, g1, g2, g5, g6, hb2, hb12, hb6, hVl] <;> (try refine ⟨by kernel_rfl, ?_⟩)))
      | with_reducible refine xTwo_intro ?_ ?_
      | (with_reducible refine xCond_split (fun hcd => ?_) (fun hcd => ?_) <;> (try (exfalso; clear hP hN; simp_all; done)) <;> (try (exfalso; simp at *; omega)))
      | with_reducible refine WP.block ?_
      | (with_reducible ((first | refine WP.skip ?_ | refine WP.exit ?_ | refine WP.ret ?_); simp [g1, g2, g5, g6, hb2, hb12, hb6, hVl])))
end Go.Ab
