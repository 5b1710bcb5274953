/- Contracts: floods, II. -/
import Derived.Test.YtagmnknighofeaaCu2
set_option linter.all false
namespace Go.Ab
open Go.Proofs
def bxB (bs : List Bx) (i : Nat) : Bx := bs[i]?.getD []
def opL (op : List Bool) (i : Nat) : Bool := op[i]?.getD false
def tL9 (bs : List Bx) (i j : Nat) : Bool := touchC (bxB bs i) (bxB bs j)
theorem opL_get {op : List Bool} {i : Nat} (h : i < op.length) : op[i]? = some (opL op i) := by simp [opL, List.getElem?_eq_getElem h]
theorem bxB_get {bs : List Bx} {i : Nat} (h : i < bs.length) : bs[i]? = some (bxB bs i) := by simp [bxB, List.getElem?_eq_getElem h]
theorem mk1_or {U : List Bool} {j : Nat} (h : j < U.length) : mk1 U j ∨ U[j]? = some false := by
  unfold mk1
  rw [List.getElem?_eq_getElem h]
  cases U[j] <;> simp
set_option maxRecDepth 10000 in
set_option maxHeartbeats 16000000 in
theorem s173 (bs : List Bx) (op : List Bool) (S : Nat → Prop) (U V : List Bool) (F : List Nat) (hb : bs.length = op.length) (hn : op.length ≤ 2048) (hbx : ∀ b ∈ bs, b.length ≤ 9223372036854775807) (hF : F.length ≤ 4096)
    (hI : FI op.length (opL op) (tL9 bs) S U F) (hV : IsR op.length (opL op) (tL9 bs) S V) : DetS Try.prog 173 [encLand bs op] 4 1 (U.map B) (V.map B) 3 1 (F.map zN) := by
  have hUl := hI.len
  refine detS_of Try.func173 rfl (by kernel_rfl) rfl (by simp [Try.f173]) (by simp [hUl, hV.len]) ?_
  intro C hP hN
  simp only [Try.f173] at hN ⊢
  obtain ⟨n, hnn⟩ : ∃ n, op.length = n := ⟨_, rfl⟩
  rw [hnn] at hI hV hn hb hUl
  have hUm := unm_le U
  have hUm2 : unm U ≤ 2048 := by omega
  have hTI : ∃ ti e' b z, tiOf Try.prog 26 = some ti ∧ ti.kind = TK.slice e' 1 b z := by refine ⟨_, _, _, _, ti26, rfl⟩
  repeat' (first
    | with_reducible refine WP.seq ?_
    | (with_reducible ((first | refine WP.region (hn := []) ?_ | refine WP.cond' ?_); simp -implicitDefEqProofs (maxSteps := 2000000) [hP, hN, hnn, stS]))
    | (with_reducible ((first | refine WP.draw (hn := []) (by rw [hP]; kernel_rfl) (by kernel_rfl) ?_); simp -implicitDefEqProofs (maxSteps := 2000000) [hP, hN, hnn, stS]; (try refine ⟨by kernel_rfl, ?_⟩)))
    | (with_reducible refine xB_split (by simp [hnn, stS]) (fun hgd => ?_) (fun hgd => ?_) <;> first | (exfalso; simp at hgd; done) | (exfalso; simp at hgd; omega) | simp -implicitDefEqProofs (maxSteps := 2000000) [hP, hN, hnn, stS])
    | (with_reducible refine yB_split (by simp [hnn, stS]) (fun hgd => ?_) (fun hgd => ?_) <;> first | (exfalso; simp at hgd; done) | (exfalso; simp at hgd; omega) | (simp -implicitDefEqProofs (maxSteps := 2000000) [hP, hN, hnn, stS] <;> (try refine ⟨by kernel_rfl, ?_⟩)))
    | with_reducible refine xTwo_intro ?_ ?_
    | (with_reducible refine xCond_split (fun hcd => ?_) (fun hcd => ?_) <;> (try (exfalso; clear hP hN; simp_all; done)) <;> (try (exfalso; simp at *; omega)))
    | with_reducible refine WP.block ?_
    | (with_reducible ((first | refine WP.skip ?_ | refine WP.exit ?_ | refine WP.ret ?_); simp [hnn, stS])))
  refine WP.loopN [] (F.length + unm U) (fun i st => ∃ U' F', FI n (opL op) (tL9 bs) S U' F' ∧ i + F'.length + unm U' = F.length + unm U ∧ st.t 1 = .arr 2000000 n ∧ st.t 2 = .arr 1500000 F'.length ∧ st.t 3 = .ptr 3 0 ∧ st.h 3 = some (.box [.pv (.sl (bs.map iv)), .pv (.sl (op.map B))] true false) ∧ st.h 2000000 = some (.row 4 1 (U'.map B) 0) ∧ st.h 1500000 = some (.row 3 1 (F'.map zN) 0)) (by exact ⟨U, F, hI, by omega, by simp [hUl]⟩) ?_
  clear hI hUl
  rintro i st hi ⟨U', F', hI, hcnt, g1, g2, g3, hb3, hbU, hbF⟩
  have hUl := hI.len
  by_cases hF0 : F' = []
  · subst hF0
    have hUV : U' = V := isR_unique hI.fin hV
    subst hUV
    repeat' (first
      | with_reducible refine WP.seq ?_
      | (with_reducible ((first | refine WP.region (hn := []) ?_ | refine WP.cond' ?_); simp -implicitDefEqProofs (maxSteps := 2000000) [hP, hN, g1, g2, g3, hb3, hbU, hbF]))
      | (with_reducible ((first | refine WP.draw (hn := []) (by rw [hP]; kernel_rfl) (by kernel_rfl) ?_); simp -implicitDefEqProofs (maxSteps := 2000000) [hP, hN, g1, g2, g3, hb3, hbU, hbF]; (try refine ⟨by kernel_rfl, ?_⟩)))
      | (with_reducible refine xB_split (by simp [g1, g2, g3, hb3, hbU, hbF]) (fun hgd => ?_) (fun hgd => ?_) <;> first | (exfalso; simp at hgd; done) | (exfalso; simp at hgd; omega) | simp -implicitDefEqProofs (maxSteps := 2000000) [hP, hN, g1, g2, g3, hb3, hbU, hbF])
      | (with_reducible refine yB_split (by simp [g1, g2, g3, hb3, hbU, hbF]) (fun hgd => ?_) (fun hgd => ?_) <;> first | (exfalso; simp at hgd; done) | (exfalso; simp at hgd; omega) | (simp -implicitDefEqProofs (maxSteps := 2000000) [hP, hN, g1, g2, g3, hb3, hbU, hbF] <;> (try refine ⟨by kernel_rfl, ?_⟩)))
      | with_reducible refine xTwo_intro ?_ ?_
      | (with_reducible refine xCond_split (fun hcd => ?_) (fun hcd => ?_) <;> (try (exfalso; clear hP hN; simp_all; done)) <;> (try (exfalso; simp at *; omega)))
      | with_reducible refine WP.block ?_
      | (with_reducible ((first | refine WP.skip ?_ | refine WP.exit ?_ | refine WP.ret ?_); simp [g1, g2, g3, hb3, hbU, hbF])))
  have hpos := List.length_pos_iff.2 hF0
  have hposI : (0 : Int) < F'.length := by omega
  have hF1 : F'.length - 1 < F'.length := by omega
  obtain ⟨x, hx⟩ : ∃ x, F'[F'.length - 1]? = some x := ⟨_, List.getElem?_eq_getElem hF1⟩
  have hx' := get_of hx hF1
  have hxm := hI.mem x (List.mem_of_getElem? hx)
  have hxn := mk1_lt hUl hxm
  have hw1 : IntKind.i64.wrap ((F'.length : Int) - 1) = ((F'.length - 1 : Nat) : Int) := by rw [show (F'.length : Int) - 1 = ((F'.length - 1 : Nat) : Int) by omega]; exact wr_id (by omega) (by omega)
  have hpop : FJ n (opL op) (tL9 bs) S U' (F'.take (F'.length - 1)) x 0 := hI.pop (List.mem_of_getElem? hx) (fun m hm => by
    have e : F' = F'.take (F'.length - 1) ++ [x] := by
      rw [← hx', ← List.take_succ_eq_append_getElem hF1, show F'.length - 1 + 1 = F'.length by omega, List.take_length]
    rw [e] at hm
    rcases List.mem_append.1 hm with h | h
    · exact .inl h
    · exact .inr (by simpa using h)) (fun m hm => List.mem_of_mem_take hm)
  repeat' (first
    | with_reducible refine WP.seq ?_
    | ((refine WP.trunc (hn := []) (pre := [_, _, _, _]) (post := [_]) rfl rfl rfl rfl ?_); simp -implicitDefEqProofs (maxSteps := 2000000) [hP, hN, g1, g2, g3, hb3, hbU, hbF, hpos, hposI, hF1, hx, hx', hw1])
    | (with_reducible ((first | refine WP.region (hn := []) ?_ | refine WP.cond' ?_); simp -implicitDefEqProofs (maxSteps := 2000000) [hP, hN, g1, g2, g3, hb3, hbU, hbF, hpos, hposI, hF1, hx, hx', hw1]))
    | (with_reducible ((first | refine WP.draw (hn := []) (by rw [hP]; kernel_rfl) (by kernel_rfl) ?_); simp -implicitDefEqProofs (maxSteps := 2000000) [hP, hN, g1, g2, g3, hb3, hbU, hbF, hpos, hposI, hF1, hx, hx', hw1]; (try refine ⟨by kernel_rfl, ?_⟩)))
    | (with_reducible refine xB_split (by simp [g1, g2, g3, hb3, hbU, hbF, hpos, hposI, hF1, hx, hx', hw1]) (fun hgd => ?_) (fun hgd => ?_) <;> first | (exfalso; simp at hgd; done) | (exfalso; simp at hgd; omega) | simp -implicitDefEqProofs (maxSteps := 2000000) [hP, hN, g1, g2, g3, hb3, hbU, hbF, hpos, hposI, hF1, hx, hx', hw1])
    | (with_reducible refine yB_split (by simp [g1, g2, g3, hb3, hbU, hbF, hpos, hposI, hF1, hx, hx', hw1]) (fun hgd => ?_) (fun hgd => ?_) <;> first | (exfalso; simp at hgd; done) | (exfalso; simp at hgd; omega) | (simp -implicitDefEqProofs (maxSteps := 2000000) [hP, hN, g1, g2, g3, hb3, hbU, hbF, hpos, hposI, hF1, hx, hx', hw1] <;> (try refine ⟨by kernel_rfl, ?_⟩)))
    | with_reducible refine xTwo_intro ?_ ?_
    | (with_reducible refine xCond_split (fun hcd => ?_) (fun hcd => ?_) <;> (try (exfalso; clear hP hN; simp_all; done)) <;> (try (exfalso; simp at *; omega)))
    | with_reducible refine WP.block ?_
    | (with_reducible ((first | refine WP.skip ?_ | refine WP.exit ?_ | refine WP.ret ?_); simp [g1, g2, g3, hb3, hbU, hbF, hpos, hposI, hF1, hx, hx', hw1])))
  refine ⟨1500000, 3, 1, F'.length, F'.length - 1, .i64, by simp [g2], by simp, F'.map zN, by simp [hbF], by simp, by omega, by omega, by rw [hP]; exact hTI, by rw [hN]; decide, ?_⟩
  simp -implicitDefEqProofs (maxSteps := 2000000) [hP, hN, g1, g2, g3, hb3, hbU, hbF]
  repeat' (first
    | with_reducible refine WP.seq ?_
    | (with_reducible ((first | refine WP.region (hn := []) ?_ | refine WP.cond' ?_); simp -implicitDefEqProofs (maxSteps := 2000000) [hP, hN, g1, g2, g3, hb3, hbU, hbF, hnn]))
    | (with_reducible ((first | refine WP.draw (hn := []) (by rw [hP]; kernel_rfl) (by kernel_rfl) ?_); simp -implicitDefEqProofs (maxSteps := 2000000) [hP, hN, g1, g2, g3, hb3, hbU, hbF, hnn]; (try refine ⟨by kernel_rfl, ?_⟩)))
    | (with_reducible refine xB_split (by simp [g1, g2, g3, hb3, hbU, hbF, hnn]) (fun hgd => ?_) (fun hgd => ?_) <;> first | (exfalso; simp at hgd; done) | (exfalso; simp at hgd; omega) | simp -implicitDefEqProofs (maxSteps := 2000000) [hP, hN, g1, g2, g3, hb3, hbU, hbF, hnn])
    | (with_reducible refine yB_split (by simp [g1, g2, g3, hb3, hbU, hbF, hnn]) (fun hgd => ?_) (fun hgd => ?_) <;> first | (exfalso; simp at hgd; done) | (exfalso; simp at hgd; omega) | (simp -implicitDefEqProofs (maxSteps := 2000000) [hP, hN, g1, g2, g3, hb3, hbU, hbF, hnn] <;> (try refine ⟨by kernel_rfl, ?_⟩)))
    | with_reducible refine xTwo_intro ?_ ?_
    | (with_reducible refine xCond_split (fun hcd => ?_) (fun hcd => ?_) <;> (try (exfalso; clear hP hN; simp_all; done)) <;> (try (exfalso; simp at *; omega)))
    | with_reducible refine WP.block ?_
    | (with_reducible ((first | refine WP.skip ?_ | refine WP.exit ?_ | refine WP.ret ?_); simp [g1, g2, g3, hb3, hbU, hbF, hnn])))
  refine WP.loopN [] n (fun j st => ∃ U2 F2, FJ n (opL op) (tL9 bs) S U2 F2 x j ∧ i + 1 + F2.length + unm U2 = F.length + unm U ∧ st.t 1 = .arr 2000000 n ∧ st.t 2 = .arr 1500000 F2.length ∧ st.t 3 = .ptr 3 0 ∧ st.t 6 = .pv (Z x) ∧ st.t 24 = .pv (.sl (op.map B)) ∧ st.t 25 = .pv (Z n) ∧ st.t 26 = .pv (Z j) ∧ st.h 3 = some (.box [.pv (.sl (bs.map iv)), .pv (.sl (op.map B))] true false) ∧ st.h 2000000 = some (.row 4 1 (U2.map B) 0) ∧ st.h 1500000 = some (.row 3 1 (F2.map zN) 0)) (by refine ⟨U', F'.take (F'.length - 1), hpop, by rw [List.length_take]; omega, ?_⟩; simp [g1, g2, g3, hb3, hbU, hbF, hx', List.map_take]; try omega) ?_
  clear g1 g2 g3 hb3 hbU hbF hpop
  rintro j st' hj ⟨U2, F2, hJ, hcnt2, y1, y2, y3, y6, y24, y25, y26, yb3, ybU, ybF⟩
  have hU2 := hJ.len
  have hU2m := unm_le U2
  by_cases hlt : j < n
  · have hw := wr_succ hlt (by omega)
    have hjo : j < op.length := by omega
    have hop := opL_get hjo
    have hop' := get_of hop hjo
    have hjU : j < U2.length := by omega
    have hjb : j < bs.length := by omega
    have hxb : x < bs.length := by omega
    have hbj := bxB_get hjb
    have hbx1 := bxB_get hxb
    have hbj' := get_of hbj hjb
    have hbx' := get_of hbx1 hxb
    have ct := d104 (bxB bs x) (bxB bs j) (hbx _ (List.mem_of_getElem? hbx1))
    have ht9 : tL9 bs x j = touchC (bxB bs x) (bxB bs j) := rfl
    have hskip := hJ.skip
    have hadd := hJ.add hlt
    rw [ht9] at hskip hadd
    cases ho : opL op j with
    | false =>
      rw [ho] at hop hop' hskip
      have hs := hskip (by simp)
      repeat' (first
        | with_reducible refine WP.seq ?_
        | (with_reducible ((first | refine WP.region (hn := []) ?_ | refine WP.cond' ?_); simp -implicitDefEqProofs (maxSteps := 2000000) [hP, hN, y1, y2, y3, y6, y24, y25, y26, yb3, ybU, ybF, hlt, hw, hnn, hop, hop', hjo]))
        | (with_reducible ((first | refine WP.draw (hn := []) (by rw [hP]; kernel_rfl) (by kernel_rfl) ?_); simp -implicitDefEqProofs (maxSteps := 2000000) [hP, hN, y1, y2, y3, y6, y24, y25, y26, yb3, ybU, ybF, hlt, hw, hnn, hop, hop', hjo]; (try refine ⟨by kernel_rfl, ?_⟩)))
        | (with_reducible refine xB_split (by simp [y1, y2, y3, y6, y24, y25, y26, yb3, ybU, ybF, hlt, hw, hnn, hop, hop', hjo]) (fun hgd => ?_) (fun hgd => ?_) <;> first | (exfalso; simp at hgd; done) | (exfalso; simp at hgd; omega) | simp -implicitDefEqProofs (maxSteps := 2000000) [hP, hN, y1, y2, y3, y6, y24, y25, y26, yb3, ybU, ybF, hlt, hw, hnn, hop, hop', hjo])
        | (with_reducible refine yB_split (by simp [y1, y2, y3, y6, y24, y25, y26, yb3, ybU, ybF, hlt, hw, hnn, hop, hop', hjo]) (fun hgd => ?_) (fun hgd => ?_) <;> first | (exfalso; simp at hgd; done) | (exfalso; simp at hgd; omega) | (simp -implicitDefEqProofs (maxSteps := 2000000) [hP, hN, y1, y2, y3, y6, y24, y25, y26, yb3, ybU, ybF, hlt, hw, hnn, hop, hop', hjo] <;> (try refine ⟨by kernel_rfl, ?_⟩)))
        | with_reducible refine xTwo_intro ?_ ?_
        | (with_reducible refine xCond_split (fun hcd => ?_) (fun hcd => ?_) <;> (try (exfalso; clear hP hN; simp_all; done)) <;> (try (exfalso; simp at *; omega)))
        | with_reducible refine WP.block ?_
        | (with_reducible ((first | refine WP.skip ?_ | refine WP.exit ?_ | refine WP.ret ?_); simp [y1, y2, y3, y6, y24, y25, y26, yb3, ybU, ybF, hlt, hw, hnn, hop, hop', hjo])))
      all_goals exact ⟨U2, F2, hs, hcnt2, rfl, rfl, rfl⟩
    | true =>
    rw [ho] at hop hop' hskip hadd
    rcases mk1_or hjU with hm | hm
    · have hs := hskip (fun _ _ => hm)
      unfold mk1 at hm
      have hm' := get_of hm hjU
      repeat' (first
        | with_reducible refine WP.seq ?_
        | (with_reducible ((first | refine WP.region (hn := []) ?_ | refine WP.cond' ?_); simp -implicitDefEqProofs (maxSteps := 2000000) [hP, hN, y1, y2, y3, y6, y24, y25, y26, yb3, ybU, ybF, hlt, hw, hnn, hop, hop', hjo, hm, hm', hU2, hjU]))
        | (with_reducible ((first | refine WP.draw (hn := []) (by rw [hP]; kernel_rfl) (by kernel_rfl) ?_); simp -implicitDefEqProofs (maxSteps := 2000000) [hP, hN, y1, y2, y3, y6, y24, y25, y26, yb3, ybU, ybF, hlt, hw, hnn, hop, hop', hjo, hm, hm', hU2, hjU]; (try refine ⟨by kernel_rfl, ?_⟩)))
        | (with_reducible refine xB_split (by simp [y1, y2, y3, y6, y24, y25, y26, yb3, ybU, ybF, hlt, hw, hnn, hop, hop', hjo, hm, hm', hU2, hjU]) (fun hgd => ?_) (fun hgd => ?_) <;> first | (exfalso; simp at hgd; done) | (exfalso; simp at hgd; omega) | simp -implicitDefEqProofs (maxSteps := 2000000) [hP, hN, y1, y2, y3, y6, y24, y25, y26, yb3, ybU, ybF, hlt, hw, hnn, hop, hop', hjo, hm, hm', hU2, hjU])
        | (with_reducible refine yB_split (by simp [y1, y2, y3, y6, y24, y25, y26, yb3, ybU, ybF, hlt, hw, hnn, hop, hop', hjo, hm, hm', hU2, hjU]) (fun hgd => ?_) (fun hgd => ?_) <;> first | (exfalso; simp at hgd; done) | (exfalso; simp at hgd; omega) | (simp -implicitDefEqProofs (maxSteps := 2000000) [hP, hN, y1, y2, y3, y6, y24, y25, y26, yb3, ybU, ybF, hlt, hw, hnn, hop, hop', hjo, hm, hm', hU2, hjU] <;> (try refine ⟨by kernel_rfl, ?_⟩)))
        | with_reducible refine xTwo_intro ?_ ?_
        | (with_reducible refine xCond_split (fun hcd => ?_) (fun hcd => ?_) <;> (try (exfalso; clear hP hN; simp_all; done)) <;> (try (exfalso; simp at *; omega)))
        | with_reducible refine WP.block ?_
        | (with_reducible ((first | refine WP.skip ?_ | refine WP.exit ?_ | refine WP.ret ?_); simp [y1, y2, y3, y6, y24, y25, y26, yb3, ybU, ybF, hlt, hw, hnn, hop, hop', hjo, hm, hm', hU2, hjU])))
      all_goals exact ⟨U2, F2, hs, hcnt2, rfl, rfl, rfl⟩
    · have hm' := get_of hm hjU
      have hu := unm_set hm
      cases ht : touchC (bxB bs x) (bxB bs j) with
      | false =>
        rw [ht] at ct hskip
        have hs := hskip (by simp)
        repeat' (first
          | with_reducible refine WP.seq ?_
          | (with_reducible ((first | refine WP.region (hn := []) ?_ | refine xC_intro (ct) ?_ | refine WP.cond' ?_); simp -implicitDefEqProofs (maxSteps := 2000000) [hP, hN, y1, y2, y3, y6, y24, y25, y26, yb3, ybU, ybF, hlt, hw, hnn, hop, hop', hjo, hm, hm', hU2, hjU, hjb, hxb, hbj, hbx1, hbj', hbx']))
          | (with_reducible ((first | refine WP.draw (hn := []) (by rw [hP]; kernel_rfl) (by kernel_rfl) ?_ | refine yC_intro (ct) ?_); simp -implicitDefEqProofs (maxSteps := 2000000) [hP, hN, y1, y2, y3, y6, y24, y25, y26, yb3, ybU, ybF, hlt, hw, hnn, hop, hop', hjo, hm, hm', hU2, hjU, hjb, hxb, hbj, hbx1, hbj', hbx']; (try refine ⟨by kernel_rfl, ?_⟩)))
          | (with_reducible refine xB_split (by simp [y1, y2, y3, y6, y24, y25, y26, yb3, ybU, ybF, hlt, hw, hnn, hop, hop', hjo, hm, hm', hU2, hjU, hjb, hxb, hbj, hbx1, hbj', hbx']) (fun hgd => ?_) (fun hgd => ?_) <;> first | (exfalso; simp at hgd; done) | (exfalso; simp at hgd; omega) | simp -implicitDefEqProofs (maxSteps := 2000000) [hP, hN, y1, y2, y3, y6, y24, y25, y26, yb3, ybU, ybF, hlt, hw, hnn, hop, hop', hjo, hm, hm', hU2, hjU, hjb, hxb, hbj, hbx1, hbj', hbx'])
          | (with_reducible refine yB_split (by simp [y1, y2, y3, y6, y24, y25, y26, yb3, ybU, ybF, hlt, hw, hnn, hop, hop', hjo, hm, hm', hU2, hjU, hjb, hxb, hbj, hbx1, hbj', hbx']) (fun hgd => ?_) (fun hgd => ?_) <;> first | (exfalso; simp at hgd; done) | (exfalso; simp at hgd; omega) | (simp -implicitDefEqProofs (maxSteps := 2000000) [hP, hN, y1, y2, y3, y6, y24, y25, y26, yb3, ybU, ybF, hlt, hw, hnn, hop, hop', hjo, hm, hm', hU2, hjU, hjb, hxb, hbj, hbx1, hbj', hbx'] <;> (try refine ⟨by kernel_rfl, ?_⟩)))
          | with_reducible refine xTwo_intro ?_ ?_
          | (with_reducible refine xCond_split (fun hcd => ?_) (fun hcd => ?_) <;> (try (exfalso; clear hP hN; simp_all; done)) <;> (try (exfalso; simp at *; omega)))
          | with_reducible refine WP.block ?_
          | (with_reducible ((first | refine WP.skip ?_ | refine WP.exit ?_ | refine WP.ret ?_); simp [y1, y2, y3, y6, y24, y25, y26, yb3, ybU, ybF, hlt, hw, hnn, hop, hop', hjo, hm, hm', hU2, hjU, hjb, hxb, hbj, hbx1, hbj', hbx'])))
        all_goals exact ⟨U2, F2, hs, hcnt2, rfl, rfl, rfl⟩
      | true =>
        rw [ht] at ct hadd
        have hs := hadd rfl rfl
        repeat' (first
          | with_reducible refine WP.seq ?_
          | (with_reducible ((first | refine WP.region (hn := []) ?_ | refine xC_intro (ct) ?_ | refine WP.cond' ?_); simp -implicitDefEqProofs (maxSteps := 2000000) [hP, hN, y1, y2, y3, y6, y24, y25, y26, yb3, ybU, ybF, hlt, hw, hnn, hop, hop', hjo, hm, hm', hU2, hjU, hjb, hxb, hbj, hbx1, hbj', hbx', show (F2.length + 1) * 8 ≤ 140737488355328 by omega, show F2.length + 1 ≤ 9223372036854775807 by omega]))
          | (with_reducible ((first | refine WP.draw (hn := []) (by rw [hP]; kernel_rfl) (by kernel_rfl) ?_ | refine yC_intro (ct) ?_); simp -implicitDefEqProofs (maxSteps := 2000000) [hP, hN, y1, y2, y3, y6, y24, y25, y26, yb3, ybU, ybF, hlt, hw, hnn, hop, hop', hjo, hm, hm', hU2, hjU, hjb, hxb, hbj, hbx1, hbj', hbx', show (F2.length + 1) * 8 ≤ 140737488355328 by omega, show F2.length + 1 ≤ 9223372036854775807 by omega]; (try refine ⟨by kernel_rfl, ?_⟩)))
          | (with_reducible refine xB_split (by simp [y1, y2, y3, y6, y24, y25, y26, yb3, ybU, ybF, hlt, hw, hnn, hop, hop', hjo, hm, hm', hU2, hjU, hjb, hxb, hbj, hbx1, hbj', hbx', show (F2.length + 1) * 8 ≤ 140737488355328 by omega, show F2.length + 1 ≤ 9223372036854775807 by omega]) (fun hgd => ?_) (fun hgd => ?_) <;> first | (exfalso; simp at hgd; done) | (exfalso; simp at hgd; omega) | simp -implicitDefEqProofs (maxSteps := 2000000) [hP, hN, y1, y2, y3, y6, y24, y25, y26, yb3, ybU, ybF, hlt, hw, hnn, hop, hop', hjo, hm, hm', hU2, hjU, hjb, hxb, hbj, hbx1, hbj', hbx', show (F2.length + 1) * 8 ≤ 140737488355328 by omega, show F2.length + 1 ≤ 9223372036854775807 by omega])
          | (with_reducible refine yB_split (by simp [y1, y2, y3, y6, y24, y25, y26, yb3, ybU, ybF, hlt, hw, hnn, hop, hop', hjo, hm, hm', hU2, hjU, hjb, hxb, hbj, hbx1, hbj', hbx', show (F2.length + 1) * 8 ≤ 140737488355328 by omega, show F2.length + 1 ≤ 9223372036854775807 by omega]) (fun hgd => ?_) (fun hgd => ?_) <;> first | (exfalso; simp at hgd; done) | (exfalso; simp at hgd; omega) | (simp -implicitDefEqProofs (maxSteps := 2000000) [hP, hN, y1, y2, y3, y6, y24, y25, y26, yb3, ybU, ybF, hlt, hw, hnn, hop, hop', hjo, hm, hm', hU2, hjU, hjb, hxb, hbj, hbx1, hbj', hbx', show (F2.length + 1) * 8 ≤ 140737488355328 by omega, show F2.length + 1 ≤ 9223372036854775807 by omega] <;> (try refine ⟨by kernel_rfl, ?_⟩)))
          | with_reducible refine xTwo_intro ?_ ?_
          | (with_reducible refine xCond_split (fun hcd => ?_) (fun hcd => ?_) <;> (try (exfalso; clear hP hN; simp_all; done)) <;> (try (exfalso; simp at *; omega)))
          | with_reducible refine WP.block ?_
          | (with_reducible ((first | refine WP.skip ?_ | refine WP.exit ?_ | refine WP.ret ?_); simp [y1, y2, y3, y6, y24, y25, y26, yb3, ybU, ybF, hlt, hw, hnn, hop, hop', hjo, hm, hm', hU2, hjU, hjb, hxb, hbj, hbx1, hbj', hbx', show (F2.length + 1) * 8 ≤ 140737488355328 by omega, show F2.length + 1 ≤ 9223372036854775807 by omega])))
        all_goals exact ⟨U2.set j true, F2 ++ [j], hs, by simp; omega, by simp, by simp [List.map_set], by simp⟩
  · have hj' : j = n := by omega
    subst hj'
    have hd := hJ.done
    repeat' (first
      | with_reducible refine WP.seq ?_
      | (with_reducible ((first | refine WP.region (hn := []) ?_ | refine WP.cond' ?_); simp -implicitDefEqProofs (maxSteps := 2000000) [hP, hN, y1, y2, y3, y6, y24, y25, y26, yb3, ybU, ybF, hlt]))
      | (with_reducible ((first | refine WP.draw (hn := []) (by rw [hP]; kernel_rfl) (by kernel_rfl) ?_); simp -implicitDefEqProofs (maxSteps := 2000000) [hP, hN, y1, y2, y3, y6, y24, y25, y26, yb3, ybU, ybF, hlt]; (try refine ⟨by kernel_rfl, ?_⟩)))
      | (with_reducible refine xB_split (by simp [y1, y2, y3, y6, y24, y25, y26, yb3, ybU, ybF, hlt]) (fun hgd => ?_) (fun hgd => ?_) <;> first | (exfalso; simp at hgd; done) | (exfalso; simp at hgd; omega) | simp -implicitDefEqProofs (maxSteps := 2000000) [hP, hN, y1, y2, y3, y6, y24, y25, y26, yb3, ybU, ybF, hlt])
      | (with_reducible refine yB_split (by simp [y1, y2, y3, y6, y24, y25, y26, yb3, ybU, ybF, hlt]) (fun hgd => ?_) (fun hgd => ?_) <;> first | (exfalso; simp at hgd; done) | (exfalso; simp at hgd; omega) | (simp -implicitDefEqProofs (maxSteps := 2000000) [hP, hN, y1, y2, y3, y6, y24, y25, y26, yb3, ybU, ybF, hlt] <;> (try refine ⟨by kernel_rfl, ?_⟩)))
      | with_reducible refine xTwo_intro ?_ ?_
      | (with_reducible refine xCond_split (fun hcd => ?_) (fun hcd => ?_) <;> (try (exfalso; clear hP hN; simp_all; done)) <;> (try (exfalso; simp at *; omega)))
      | with_reducible refine WP.block ?_
      | (with_reducible ((first | refine WP.skip ?_ | refine WP.exit ?_ | refine WP.ret ?_); simp [y1, y2, y3, y6, y24, y25, y26, yb3, ybU, ybF, hlt])))
    all_goals exact ⟨by omega, U2, F2, hd, hcnt2, rfl, rfl, rfl⟩
end Go.Ab
