/- TreeKeeps: the walk. -/
import Derived.Test.YtagmnknighofeaaL28d
import Derived.Test.YtagmnknighofeaaL28b
set_option linter.all false
namespace Go.Ab
open Go.Proofs
def cmpNB8 (x y : AV) (fb : Option Eff) : Option Eff := match bool2 x y with
  | some (a, b) => some (.pv (.val (.bool (!(a == b)))), [])
  | none => fb
@[simp] theorem cmpNB8_some (a b : Bool) (fb : Option Eff) : cmpNB8 (.pv (.val (.bool a))) (.pv (.val (.bool b))) fb = some (.pv (.val (.bool (!(a == b)))), []) := rfl
@[simp] theorem neqBool8 {dst : Option Nat} {ty : TypeId} {pos : String} {aft : Array Edge} {g : Option (Nat × Bool)} {ρ : Operand → AV} (x y : Operand) :
    evPure Try.prog ⟨dst, .binOp .neq 4 x y 4, ty, pos, aft, g⟩ ρ = cmpNB8 (ρ x) (ρ y) (evPureX Try.prog ⟨dst, .binOp .neq 4 x y 4, ty, pos, aft, g⟩ ρ) := by
  unfold cmpNB8
  split
  · rename_i a b h
    unfold bool2 at h
    split at h
    · rename_i a' b' hx hy
      injection h with h; injection h with h1 h2; subst h1; subst h2
      refine evPure_of (by simp [Op.operands, hx, hy, valOf]) ?_
      unfold execOp
      simp only [(valOf_some hx).2, (valOf_some hy).2]
      have h1 : runPure Try.prog (eqGuard .neq 4 x y (.bool a') (.bool b')) = some () := by kernel_rfl
      have h2 : runPure Try.prog (binOp .neq 4 (.bool a') (.bool b')) = some (.bool (!(a' == b'))) := by
        simp only [binOp, runPure_bind]
        rw [show runPure Try.prog (Op.equal 4 (.bool a') (.bool b')) = some (a' == b') from rp_bool 9999 4 a' b' Try.underlying4]
        rfl
      simp only [runPure_bind, h1, h2, Option.bind_some]; rfl
    · cases h
  · rfl
/-! the verdicts of made trees are small -/
def VsLe (n : Nat) (t : Tr) : Prop := ∀ c ∈ t.cells, vLe n c.v
theorem vLe_zero (n : Nat) : vLe n zeroV := by simp [vLe, zeroV]
theorem vsAt {n : Nat} {t : Tr} (h : VsLe n t) (i : Nat) : vLe n (vAt t i) := by
  unfold vAt
  split
  · rename_i c hc; exact h c (List.mem_of_getElem? hc)
  · exact vLe_zero n
theorem split_vs {n : Nat} {t : Tr} (h : VsLe n t) (i j : Int) : VsLe n (splitT t i j) := by
  unfold splitT
  split
  · intro c hc
    simp only [splitC, List.mem_append, List.mem_cons, List.not_mem_nil, or_false] at hc
    rcases hc with hc | rfl | rfl
    · rcases List.mem_or_eq_of_mem_set hc with h' | rfl
      · exact h c h'
      · exact vLe_zero n
    · exact vsAt h _
    · exact vsAt h _
  · exact h
theorem settle_vs {n : Nat} {t : Tr} (h : VsLe n t) (i : Int) {v : Verd} (hv : vLe n v) : VsLe n (settleT t i v) := by
  unfold settleT
  split
  · intro c hc
    rcases List.mem_or_eq_of_mem_set hc with h' | rfl
    · exact h c h'
    · exact hv
  · exact h
theorem divS_vs {n : Nat} {t0 : Tr} (l : List Int) (h : VsLe n t0) : ∀ k, VsLe n (divS t0 l k).1
  | 0 => h
  | k + 1 => by simp only [divS]; exact split_vs (divS_vs l h k) _ _
theorem setS_vs {t0 : Tr} (m0 : Nat) (all : List Nat) (l : List Int) (h : VsLe 16 t0) : ∀ k, VsLe 16 (setS t0 m0 all l k).1
  | 0 => h
  | k + 1 => by simp only [setS]; exact settle_vs (setS_vs m0 all l h k) _ (label_le _)
theorem mkTree_vs (l : List Int) : VsLe 16 (mkTree l) := by
  unfold mkTree divT
  refine setS_vs _ _ _ (divS_vs _ ?_ _) _
  intro c hc
  simp at hc; subst hc
  exact vLe_zero 16
theorem tsm_of {t : Tr} (hr : t.root.length ≤ 16777216) (hc : t.cells.length ≤ 16777216) (h : VsLe 16 t) : TSm t := ⟨hr, hc, fun c hc' => by
  obtain ⟨h1, h2, h3⟩ := h c hc'
  exact ⟨by omega, by omega, by omega⟩⟩
/-! after a split -/
theorem split_yes {t : Tr} (hv : validT t = true) {k : Nat} {j : Int} (hs : splitOk t (k : Int) j = true) :
    boxesL (splitT t k j) = boxesL t ++ [halveA (boxAt t (k : Int)) j, halveZ (boxAt t (k : Int)) j] ∧ (splitT t k j).cells.length = t.cells.length + 2 ∧ ∃ v, splitT t (k : Int) j = splitC t k j v := by
  have hs0 := hs
  simp only [splitOk, Bool.and_eq_true, decide_eq_true_eq, Int.toNat_natCast] at hs
  obtain ⟨⟨⟨⟨⟨h1, h2⟩, h3⟩, h4⟩, h5⟩, h6⟩ := hs
  obtain ⟨L, hL⟩ := Option.isSome_iff_exists.1 hv
  obtain ⟨c, hc, hl, hvv⟩ := leafN_get h4
  have hlt : k < t.cells.length := by omega
  obtain ⟨b, hb⟩ := (boxesO_ok hL).pre k hlt
  have hb' : (boxesL t)[k]? = some b := by
    have := boxesO_map hL
    rw [this] at hb
    simpa using hb
  have hba : boxAt t (k : Int) = b := boxAt_of hL hb
  rw [hb'] at h6
  have hsb := split_boxes hL hc hl h5 hb h6
  have hT : splitT t (k : Int) j = splitC t k j c.v := by simp [splitT, hs0, hvv]
  refine ⟨?_, ?_, c.v, hT⟩
  · rw [hT, hba]
    have := boxesO_map hsb
    rw [boxesO_map hL] at this
    have h2 : ((boxesL t).map some ++ [some (halveA b j), some (halveZ b j)]) = (boxesL t ++ [halveA b j, halveZ b j]).map some := by simp
    rw [h2] at this
    have h3 := congrArg (List.map (fun x : Option Bx => x.getD [])) this
    simp [Function.comp_def] at h3
    exact h3.symm
  · rw [hT, splitC_len]
theorem leavesN_split {t : Tr} {k : Nat} {j : Int} {v : Verd} (hk : leafN t k = true) : ∀ n, n ≤ t.cells.length → (leavesN (splitC t k j v) n).length + (if k < n then 1 else 0) = (leavesN t n).length
  | 0, _ => by simp [leavesN]
  | n + 1, h => by
    have ih := leavesN_split (j := j) (v := v) hk n (by omega)
    rw [leavesN_succ, leavesN_succ]
    have hkl : k < t.cells.length := by
      obtain ⟨c, hc, _⟩ := leafN_get hk
      exact (List.getElem?_eq_some_iff.1 hc).1
    by_cases e : k = n
    · subst e
      have h1 : leafN (splitC t k j v) k = false := by
        have : (splitC t k j v).cells[k]? = some ⟨j, t.cells.length, t.cells.length + 1, zeroV⟩ := by
          simp only [splitC]
          rw [List.getElem?_append_left (by simpa using hkl)]
          simp [hkl]
        simp [leafN, this, leafB] <;> omega
      rw [h1, hk]
      simp at ih ⊢
      omega
    · have h1 : leafN (splitC t k j v) n = leafN t n := by
        have : (splitC t k j v).cells[n]? = t.cells[n]? := by
          simp only [splitC]
          rw [List.getElem?_append_left (by simp; omega), List.getElem?_set, if_neg e]
        simp [leafN, this]
      rw [h1]
      cases leafN t n
      · simp only [Bool.false_eq_true, if_false]
        rw [← ih]
        by_cases hkn : k < n
        · rw [if_pos hkn, if_pos (by omega)]
        · rw [if_neg hkn, if_neg (by omega)]
      · simp only [if_true, List.length_append, List.length_singleton]
        rw [← ih]
        by_cases hkn : k < n
        · rw [if_pos hkn, if_pos (by omega)] <;> omega
        · rw [if_neg hkn, if_neg (by omega)] <;> omega
theorem leaves_split {t : Tr} (hv : validT t = true) {k : Nat} {j : Int} (hs : splitOk t (k : Int) j = true) : (leavesL (splitT t (k : Int) j)).length = (leavesL t).length + 1 := by
  obtain ⟨_, hlen, v, hT⟩ := split_yes hv hs
  have hvs := (split_valid hv (k : Int) j).1
  simp only [splitOk, Bool.and_eq_true, decide_eq_true_eq, Int.toNat_natCast] at hs
  obtain ⟨⟨⟨⟨⟨_, _⟩, h3⟩, h4⟩, _⟩, _⟩ := hs
  have h1 := leavesN_split (j := j) (v := v) h4 t.cells.length (Nat.le_refl _)
  rw [if_pos (by omega)] at h1
  unfold leavesL
  rw [hv, hvs, if_pos rfl, if_pos rfl, hlen, hT]
  have e1 : leafN (splitC t k j v) t.cells.length = true := by
    have : (splitC t k j v).cells[t.cells.length]? = some (leafC v) := by
      simp [splitC]
    simp [leafN, this, leafC_leaf]
  have e2 : leafN (splitC t k j v) (t.cells.length + 1) = true := by
    have : (splitC t k j v).cells[t.cells.length + 1]? = some (leafC v) := by
      simp only [splitC]
      rw [List.getElem?_append_right (by simp)]
      simp
    simp [leafN, this, leafC_leaf]
  rw [leavesN_succ, leavesN_succ, e1, e2]
  simp only [if_true, List.length_append, List.length_singleton]
  omega
theorem hull8 {b : Bx} {j : Int} (h : halveOk b j = true) : hullL (halveA b j) (halveZ b j) = b := by
  obtain ⟨x, hx, hv, h3, ea, ez⟩ := halve_eq h
  obtain ⟨va, vz⟩ := halve_valid h
  obtain ⟨la, lz⟩ := halve_len h
  rw [hullL, va, vz]
  simp only [la, lz, decide_true, Bool.and_self, if_true]
  have hlt := (List.getElem?_eq_some_iff.1 hx).1
  have hvb := (hvOk_iff.1 h).2.1
  apply List.ext_getElem?; intro i
  rw [List.getElem?_zipWith, ea, ez, List.getElem?_set, List.getElem?_set]
  by_cases e : j.toNat = i
  · subst e
    rw [if_pos rfl, if_pos rfl, if_pos hlt, if_pos hlt, hx]
    have := validB_iff.1 hv
    have v1 : validB x.1 ((x.1 + x.2) / 2) = true := validB_iff.2 (by omega)
    have v2 : validB ((x.1 + x.2) / 2) x.2 = true := validB_iff.2 (by omega)
    simp only [hullI, v1, v2, Bool.and_self, if_true]
    congr 1
    apply Prod.ext
    · simp only; omega
    · simp only; omega
  · rw [if_neg e, if_neg e]
    cases hb : b[i]? with
    | none => rfl
    | some y =>
      have vy : validB y.1 y.2 = true := allV_iff.1 hvb _ (List.mem_of_getElem? hb)
      simp only [hullI, vy, Bool.and_self, if_true]
      congr 1
      apply Prod.ext
      · simp only; omega
      · simp only; omega
theorem split_iff {t : Tr} (hv : validT t = true) {k j : Nat} (hk : leafN t k = true) (hlt : k < t.cells.length) (hn : t.cells.length + 2 ≤ 2048) {x : Int × Int} (hx : (boxAt t (k : Int))[j]? = some x) : splitOk t (k : Int) (j : Int) = decide (2 ≤ x.2 - x.1) := by
  obtain ⟨h1, h2, h3⟩ := boxAt_ok hv (c := (k : Int)) hlt
  have h1' : (boxesL t)[k]? = some (boxAt t (k : Int)) := h1
  rw [Bool.eq_iff_iff]
  simp only [splitOk, hv, hk, h1', Int.toNat_natCast, Option.getD_some, Bool.true_and, Bool.and_true, Bool.and_eq_true, decide_eq_true_eq]
  constructor
  · rintro ⟨_, h⟩
    obtain ⟨_, _, y, hy, hw⟩ := hvOk_iff.1 h
    rw [Int.toNat_natCast, hx] at hy
    injection hy with hy; subst hy
    exact hw
  · intro hw
    exact ⟨⟨⟨by omega, by omega⟩, hn⟩, hvOk_iff.2 ⟨by omega, h3, x, by rw [Int.toNat_natCast]; exact hx, hw⟩⟩
set_option maxRecDepth 10000 in
set_option maxHeartbeats 16000000 in
theorem d7 (l : List Int) (i joint kind : Int) : DetH Try.prog 7 [.pv (zs l), .pv (Z i), .pv (Z joint), .pv (Z kind)] [] [] (.pv (B true)) := by
  have hT := mkTree_ok l
  have hvs := mkTree_vs l
  have ct := d21 l
  generalize mkTree l = t at *
  have hz := sizeOk_iff.1 (valid_size hT.valid)
  have h27 := hT.cells
  have h3 := hT.three
  have hsm := tsm_of (by omega) (by omega) hvs
  have cl := d27 t (by omega)
  have hpos := leavesL_pos hT.valid
  have hle := leavesL_len t
  have hlsp := fun (k : Nat) (j : Int) => leaves_split hT.valid (k := k) (j := j)
  generalize hall : leavesL t = all at *
  obtain ⟨x, hx, hxl⟩ := rndNat (i := i) (n := all.length) (by omega) (by omega)
  obtain ⟨j, hj, hjl⟩ := rndNat (i := joint) (n := t.root.length) (by omega) (by omega)
  have cx := d35 i (all.length : Int) (by omega)
  have cj := d35 joint (t.root.length : Int) (by omega)
  have cy := d35 kind 4 (by decide)
  rw [hx] at cx
  rw [hj] at cj
  generalize roundI kind 4 = y at *
  have cy2 := d37 y
  have hnil : all ≠ [] := by intro h; simp [h] at hpos
  generalize ha : all[x] = k at *
  have hai : all[x]? = some k := by rw [List.getElem?_eq_getElem hxl, ha]
  rw [← hall] at hai
  obtain ⟨_, lk, rk⟩ := leaf_at hai
  rw [hall] at hai
  have hll := label_le y
  have cs := d38 t k j hsm
  have ce := d39 t k (labelV y) hsm ⟨by have := hll.1; omega, by have := hll.2.1; omega, by have := hll.2.2; omega⟩
  generalize labelV y = lv at *
  have cb := d28 t k (by omega)
  rw [(boxOf_yes hT.valid rk).1, (boxOf_yes hT.valid rk).2] at cb
  obtain ⟨hbb, hb1, hb2⟩ := boxAt_ok hT.valid (c := (k : Int)) rk
  obtain ⟨v1, v2, v3⟩ := split_valid hT.valid (k : Int) (j : Int)
  obtain ⟨v4, v5, v6, _⟩ := settle_valid hT.valid (k : Int) lv
  have c1 := d24 (splitT t k j) (by omega)
  have c2 := d24 (settleT t k lv) (by omega)
  rw [v1] at c1
  rw [v4] at c2
  have jb : j < (boxAt t (k : Int)).length := by omega
  have hbj : (boxAt t (k : Int))[j]? = some (boxAt t (k : Int))[j] := List.getElem?_eq_getElem jb
  have hiff := split_iff hT.valid lk rk (by omega) hbj
  have vx := validB_iff.1 (allV_iff.1 hb2 _ (List.mem_of_getElem? hbj))
  generalize hu : splitT t (k : Int) (j : Int) = u at *
  generalize settleT t (k : Int) lv = v at *
  by_cases hw : 2 ≤ (boxAt t (k : Int))[j].2 - (boxAt t (k : Int))[j].1
  · have hok : splitOk t (k : Int) (j : Int) = true := by rw [hiff]; simpa using hw
    rw [hok] at cs
    obtain ⟨s1, s2, _⟩ := split_yes hT.valid hok
    have s3 := hlsp k j hok
    rw [hu] at s1 s2 s3
    have hh : halveOk (boxAt t (k : Int)) j = true := by
      have h' := hok
      simp only [splitOk, Bool.and_eq_true, Int.toNat_natCast] at h'
      have := h'.2
      have e : (boxesL t)[k]? = some (boxAt t (k : Int)) := hbb
      rw [e] at this
      exact this
    have hbl := boxesL_len hT.valid
    have c3 := d28 u ((t.cells.length : Nat) : Int) (by omega)
    have c4 := d28 u ((t.cells.length + 1 : Nat) : Int) (by omega)
    rw [(boxOf_yes v1 (by omega)).1, (boxOf_yes v1 (by omega)).2] at c3 c4
    have e3 : boxAt u ((t.cells.length : Nat) : Int) = halveA (boxAt t (k : Int)) j := by
      rw [boxAt, s1, Int.toNat_natCast, ← hbl]; simp
    have e4 : boxAt u ((t.cells.length + 1 : Nat) : Int) = halveZ (boxAt t (k : Int)) j := by
      rw [boxAt, s1, Int.toNat_natCast, List.getElem?_append_right (by omega), hbl]; simp
    rw [e3] at c3
    rw [e4, Int.natCast_add] at c4
    have hhu := hull8 hh
    obtain ⟨la, lz⟩ := halve_len hh
    obtain ⟨q, hq, _, _, ea, ez⟩ := halve_eq hh
    rw [Int.toNat_natCast, hbj] at hq
    injection hq with hq
    have ca : ∀ (h : j < (halveA (boxAt t (k : Int)) j).length), (halveA (boxAt t (k : Int)) j)[j] = (q.1, (q.1 + q.2) / 2) := fun h => get_of (by rw [ea]; simp [jb]) h
    have cz : ∀ (h : j < (halveZ (boxAt t (k : Int)) j).length), (halveZ (boxAt t (k : Int)) j)[j] = ((q.1 + q.2) / 2, q.2) := fun h => get_of (by rw [ez]; simp [jb]) h
    have c5 := d41 (halveA (boxAt t (k : Int)) j) (halveZ (boxAt t (k : Int)) j) (by omega) (by omega)
    rw [hhu] at c5
    have c6 := d40 (boxAt t (k : Int)) (boxAt t (k : Int)) (by omega) (by omega)
    rw [sameX_dec, decide_eq_true rfl] at c6
    have c7 := d27 u (by omega)
    generalize halveA (boxAt t (k : Int)) j = A at *
    generalize halveZ (boxAt t (k : Int)) j = D at *
    generalize leavesL u = alu at *
    generalize boxAt t (k : Int) = b at *
    have jA : j < A.length := by omega
    have jD : j < D.length := by omega
    have ca' := ca jA
    have cz' := cz jD
    have ca2 : A[j]? = some (q.1, (q.1 + q.2) / 2) := by rw [List.getElem?_eq_getElem jA, ca']
    have cz2 : D[j]? = some ((q.1 + q.2) / 2, q.2) := by rw [List.getElem?_eq_getElem jD, cz']
    rw [hq] at hbj hw vx
    have w1 : IntKind.i64.wrap (q.2 - q.1) = q.2 - q.1 := wr_id (by omega) (by omega)
    have w2 : IntKind.i64.wrap ((t.cells.length : Int) + 1) = (t.cells.length : Int) + 1 := wr_id (by omega) (by omega)
    have w3 : IntKind.i64.wrap ((all.length : Int) + 1) = (all.length : Int) + 1 := wr_id (by omega) (by omega)
    have p1 : A ≠ [] := by intro h; simp [h] at jA
    have p2 : D ≠ [] := by intro h; simp [h] at jD
    refine detP_of Try.func7 rfl (by kernel_rfl) (by simp [Try.f7]) rfl ?_
    intro C hP hN
    simp only [Try.f7] at hN ⊢
    repeat' (first
      | with_reducible refine WP.seq ?_
      | (with_reducible ((first | refine WP.region (hn := []) ?_ | refine xC_intro (ct) ?_ | refine xC_intro (cl) ?_ | refine xC_intro (cx) ?_ | refine xC_intro (cj) ?_ | refine xC_intro (cs) ?_ | refine xC_intro (cy) ?_ | refine xC_intro (cy2) ?_ | refine xC_intro (ce) ?_ | refine xC_intro (cb) ?_ | refine xC_intro (c1) ?_ | refine xC_intro (c2) ?_ | refine xC_intro (d20) ?_ | refine xC_intro (c3) ?_ | refine xC_intro (c4) ?_ | refine xC_intro (c7) ?_ | refine xC_intro (c5) ?_ | refine xC_intro (c6) ?_ | refine WP.cond' ?_); simp -implicitDefEqProofs (maxSteps := 2000000) [hP, hN, hnil, hx, hj, hxl, hjl, ha, hai, hb1, jb, hq, hbj, hw, w1, w2, w3, jA, jD, ca', cz', ca2, cz2, s3, la, lz, p1, p2, show 0 < t.root.length by omega]))
      | (with_reducible ((first | refine WP.draw (hn := []) (by rw [hP]; kernel_rfl) (by kernel_rfl) ?_ | refine yC_intro (ct) ?_ | refine yC_intro (cl) ?_ | refine yC_intro (cx) ?_ | refine yC_intro (cj) ?_ | refine yC_intro (cs) ?_ | refine yC_intro (cy) ?_ | refine yC_intro (cy2) ?_ | refine yC_intro (ce) ?_ | refine yC_intro (cb) ?_ | refine yC_intro (c1) ?_ | refine yC_intro (c2) ?_ | refine yC_intro (d20) ?_ | refine yC_intro (c3) ?_ | refine yC_intro (c4) ?_ | refine yC_intro (c7) ?_ | refine yC_intro (c5) ?_ | refine yC_intro (c6) ?_); simp -implicitDefEqProofs (maxSteps := 2000000) [hP, hN, hnil, hx, hj, hxl, hjl, ha, hai, hb1, jb, hq, hbj, hw, w1, w2, w3, jA, jD, ca', cz', ca2, cz2, s3, la, lz, p1, p2, show 0 < t.root.length by omega]; (try refine ⟨by kernel_rfl, ?_⟩)))
      | (with_reducible refine xB_split (by simp [hnil, hx, hj, hxl, hjl, ha, hai, hb1, jb, hq, hbj, hw, w1, w2, w3, jA, jD, ca', cz', ca2, cz2, s3, la, lz, p1, p2, show 0 < t.root.length by omega]) (fun hgd => ?_) (fun hgd => ?_) <;> first | (exfalso; simp at hgd; done) | (exfalso; simp at hgd; omega) | simp -implicitDefEqProofs (maxSteps := 2000000) [hP, hN, hnil, hx, hj, hxl, hjl, ha, hai, hb1, jb, hq, hbj, hw, w1, w2, w3, jA, jD, ca', cz', ca2, cz2, s3, la, lz, p1, p2, show 0 < t.root.length by omega])
      | (with_reducible refine yB_split (by simp [hnil, hx, hj, hxl, hjl, ha, hai, hb1, jb, hq, hbj, hw, w1, w2, w3, jA, jD, ca', cz', ca2, cz2, s3, la, lz, p1, p2, show 0 < t.root.length by omega]) (fun hgd => ?_) (fun hgd => ?_) <;> first | (exfalso; simp at hgd; done) | (exfalso; simp at hgd; omega) | (simp -implicitDefEqProofs (maxSteps := 2000000) [hP, hN, hnil, hx, hj, hxl, hjl, ha, hai, hb1, jb, hq, hbj, hw, w1, w2, w3, jA, jD, ca', cz', ca2, cz2, s3, la, lz, p1, p2, show 0 < t.root.length by omega] <;> (try refine ⟨by kernel_rfl, ?_⟩)))
      | with_reducible refine xTwo_intro ?_ ?_
      | (with_reducible refine xCond_split (fun hcd => ?_) (fun hcd => ?_) <;> (try (exfalso; clear hP hN; simp_all; done)) <;> (try (exfalso; simp at *; omega)))
      | with_reducible refine WP.block ?_
      | (with_reducible ((first | refine WP.skip ?_ | refine WP.exit ?_ | refine WP.ret ?_); simp [hnil, hx, hj, hxl, hjl, ha, hai, hb1, jb, hq, hbj, hw, w1, w2, w3, jA, jD, ca', cz', ca2, cz2, s3, la, lz, p1, p2, show 0 < t.root.length by omega])))
  · have hok : splitOk t (k : Int) (j : Int) = false := by rw [hiff]; simpa using hw
    rw [hok] at cs
    generalize boxAt t (k : Int) = b at *
    generalize hq : b[j] = q at *
    have w1 : IntKind.i64.wrap (q.2 - q.1) = q.2 - q.1 := wr_id (by omega) (by omega)
    refine detP_of Try.func7 rfl (by kernel_rfl) (by simp [Try.f7]) rfl ?_
    intro C hP hN
    simp only [Try.f7] at hN ⊢
    repeat' (first
      | with_reducible refine WP.seq ?_
      | (with_reducible ((first | refine WP.region (hn := []) ?_ | refine xC_intro (ct) ?_ | refine xC_intro (cl) ?_ | refine xC_intro (cx) ?_ | refine xC_intro (cj) ?_ | refine xC_intro (cs) ?_ | refine xC_intro (cy) ?_ | refine xC_intro (cy2) ?_ | refine xC_intro (ce) ?_ | refine xC_intro (cb) ?_ | refine xC_intro (c1) ?_ | refine xC_intro (c2) ?_ | refine xC_intro (d20) ?_ | refine WP.cond' ?_); simp -implicitDefEqProofs (maxSteps := 2000000) [hP, hN, hnil, hx, hj, hxl, hjl, ha, hai, hb1, jb, hq, hbj, hw, w1]))
      | (with_reducible ((first | refine WP.draw (hn := []) (by rw [hP]; kernel_rfl) (by kernel_rfl) ?_ | refine yC_intro (ct) ?_ | refine yC_intro (cl) ?_ | refine yC_intro (cx) ?_ | refine yC_intro (cj) ?_ | refine yC_intro (cs) ?_ | refine yC_intro (cy) ?_ | refine yC_intro (cy2) ?_ | refine yC_intro (ce) ?_ | refine yC_intro (cb) ?_ | refine yC_intro (c1) ?_ | refine yC_intro (c2) ?_ | refine yC_intro (d20) ?_); simp -implicitDefEqProofs (maxSteps := 2000000) [hP, hN, hnil, hx, hj, hxl, hjl, ha, hai, hb1, jb, hq, hbj, hw, w1]; (try refine ⟨by kernel_rfl, ?_⟩)))
      | (with_reducible refine xB_split (by simp [hnil, hx, hj, hxl, hjl, ha, hai, hb1, jb, hq, hbj, hw, w1]) (fun hgd => ?_) (fun hgd => ?_) <;> first | (exfalso; simp at hgd; done) | (exfalso; simp at hgd; omega) | simp -implicitDefEqProofs (maxSteps := 2000000) [hP, hN, hnil, hx, hj, hxl, hjl, ha, hai, hb1, jb, hq, hbj, hw, w1])
      | (with_reducible refine yB_split (by simp [hnil, hx, hj, hxl, hjl, ha, hai, hb1, jb, hq, hbj, hw, w1]) (fun hgd => ?_) (fun hgd => ?_) <;> first | (exfalso; simp at hgd; done) | (exfalso; simp at hgd; omega) | (simp -implicitDefEqProofs (maxSteps := 2000000) [hP, hN, hnil, hx, hj, hxl, hjl, ha, hai, hb1, jb, hq, hbj, hw, w1] <;> (try refine ⟨by kernel_rfl, ?_⟩)))
      | with_reducible refine xTwo_intro ?_ ?_
      | (with_reducible refine xCond_split (fun hcd => ?_) (fun hcd => ?_) <;> (try (exfalso; clear hP hN; simp_all; done)) <;> (try (exfalso; simp at *; omega)))
      | with_reducible refine WP.block ?_
      | (with_reducible ((first | refine WP.skip ?_ | refine WP.exit ?_ | refine WP.ret ?_); simp [hnil, hx, hj, hxl, hjl, ha, hai, hb1, jb, hq, hbj, hw, w1])))
end Go.Ab
