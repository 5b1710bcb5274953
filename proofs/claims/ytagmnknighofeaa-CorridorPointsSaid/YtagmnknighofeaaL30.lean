/- CorridorNearest: the walk. -/
import Derived.Test.YtagmnknighofeaaTrE
import Derived.Test.YtagmnknighofeaaTr10
set_option linter.all false
namespace Go.Ab
open Go.Proofs
def cmpNB (x y : AV) (fb : Option Eff) : Option Eff := match bool2 x y with
  | some (a, b) => some (.pv (.val (.bool (!(a == b)))), [])
  | none => fb
@[simp] theorem cmpNB_some (a b : Bool) (fb : Option Eff) : cmpNB (.pv (.val (.bool a))) (.pv (.val (.bool b))) fb = some (.pv (.val (.bool (!(a == b)))), []) := rfl
@[simp] theorem neqBool {dst : Option Nat} {ty : TypeId} {pos : String} {aft : Array Edge} {g : Option (Nat × Bool)} {ρ : Operand → AV} (x y : Operand) :
    evPure Try.prog ⟨dst, .binOp .neq 4 x y 4, ty, pos, aft, g⟩ ρ = cmpNB (ρ x) (ρ y) (evPureX Try.prog ⟨dst, .binOp .neq 4 x y 4, ty, pos, aft, g⟩ ρ) := by
  unfold cmpNB
  split
  · rename_i a b h
    unfold bool2 at h
    split at h
    · rename_i a' b' hx hy
      injection h with h; injection h with h1 h2; subst h1; subst h2
      refine evPure_of (by simp [Op.operands, hx, hy, valOf]) ?_
      unfold execOp
      simp only [(valOf_some hx).2, (valOf_some hy).2]
      have h1 : runPure Try.prog (eqGuard .neq 4 x y (.bool a') (.bool b')) = some () := by kernel_rfl
      have h2 : runPure Try.prog (binOp .neq 4 (.bool a') (.bool b')) = some (.bool (!(a' == b'))) := by
        simp only [binOp, runPure_bind]
        rw [show runPure Try.prog (Op.equal 4 (.bool a') (.bool b')) = some (a' == b') from rp_bool 9999 4 a' b' Try.underlying4]
        rfl
      simp only [runPure_bind, h1, h2, Option.bind_some]; rfl
    · cases h
  · rfl
set_option maxHeartbeats 4000000 in
theorem d48 : DetH Try.prog 48 [] [] [] (.pv (B true)) := by
  have c1 : DetH Try.prog 72 [.pv (.sl [I 0 8])] [] [] (.pv (.tup [encT ⟨[(0, 8)], [leafC zeroV]⟩, B true])) := by
    have := d72 [(0, 8)]
    rw [aw_new.1, aw_new.2] at this; exact this
  have c2 := d89 ⟨[(0, 8)], [leafC zeroV]⟩ 0 0 (by simp)
  rw [aw_split.1, aw_split.2] at c2
  have c3 : DetH Try.prog 51 [.pv (encT awT), .pv (.sl [Z 1, Z 2]), .pv (.sl [Z 1]), .pv (.sl [Z 7])] [] [] (.pv (.tup [.sl [.sl [Z 1], .sl [Z 4], .sl [Z 7]], B true])) := by
    have := d51 awT [1, 2] [1] [7] (by decide) (by decide) (by decide)
    rw [aw_chain.1, aw_chain.2] at this; exact this
  have c4 : DetH Try.prog 107 [.pv (encT awT), .pv (.sl [Z 1, Z 2]), .pv (.sl [Z 1]), .pv (.sl [Z 7])] [] [] (.pv (B true)) := by
    have := d107 awT [1, 2] [1] [7] (by decide) (by decide) (by decide)
    rw [aw_chain.1] at this; exact this
  have c5 : DetH Try.prog 106 [.pv (.sl [.sl [Z 1], .sl [Z 4], .sl [Z 7]]), .pv (.sl [.sl [Z 1], .sl [Z 4], .sl [Z 7]])] [] [] (.pv (B true)) := by
    have := d106 [[1], [4], [7]] [[1], [4], [7]] (by decide) (by simp) (by simp)
    rw [sameLL_refl] at this; exact this
  generalize awT = T2 at *
  generalize (⟨[(0, 8)], [leafC zeroV]⟩ : Tr) = T1 at *
  refine detP_of Try.func48 rfl (by kernel_rfl) (by simp [Try.f48]) rfl ?_
  intro C hP hN
  simp only [Try.f48] at hN ⊢
  repeat' (first
    | with_reducible refine WP.seq ?_
    | (with_reducible ((first | refine WP.region (hn := []) ?_ | refine xC_intro (c1) ?_ | refine xC_intro (c2) ?_ | refine xC_intro (c3) ?_ | refine xC_intro (c4) ?_ | refine xC_intro (c5) ?_ | refine WP.cond' ?_); simp -implicitDefEqProofs (maxSteps := 2000000) [hP, hN]))
    | (with_reducible ((first | refine WP.draw (hn := []) (by rw [hP]; kernel_rfl) (by kernel_rfl) ?_ | refine yC_intro (c1) ?_ | refine yC_intro (c2) ?_ | refine yC_intro (c3) ?_ | refine yC_intro (c4) ?_ | refine yC_intro (c5) ?_); simp -implicitDefEqProofs (maxSteps := 2000000) [hP, hN]; (try refine ⟨by kernel_rfl, ?_⟩)))
    | (with_reducible refine xB_split (by simp) (fun hgd => ?_) (fun hgd => ?_) <;> first | (exfalso; simp at hgd; done) | (exfalso; simp at hgd; omega) | simp -implicitDefEqProofs (maxSteps := 2000000) [hP, hN])
    | (with_reducible refine yB_split (by simp) (fun hgd => ?_) (fun hgd => ?_) <;> first | (exfalso; simp at hgd; done) | (exfalso; simp at hgd; omega) | (simp -implicitDefEqProofs (maxSteps := 2000000) [hP, hN] <;> (try refine ⟨by kernel_rfl, ?_⟩)))
    | with_reducible refine xTwo_intro ?_ ?_
    | (with_reducible refine xCond_split (fun hcd => ?_) (fun hcd => ?_) <;> (try (exfalso; clear hP hN; simp_all; done)) <;> (try (exfalso; simp at *; omega)))
    | with_reducible refine WP.block ?_
    | (with_reducible ((first | refine WP.skip ?_ | refine WP.exit ?_ | refine WP.ret ?_); simp)))
theorem round_nat {i : Int} {n : Nat} (hn : 0 < n) (hm : n < 1000000) : ∃ k : Nat, roundI i n = (k : Int) ∧ k < n := by
  have h := round_range i (k := (n : Int)) (by omega) (by omega)
  obtain ⟨k, hk⟩ := Int.eq_ofNat_of_zero_le h.1
  exact ⟨k, hk, by omega⟩
set_option maxRecDepth 10000 in
set_option maxHeartbeats 8000000 in
theorem d12 (l m o : List Int) (i k : Int) : DetH Try.prog 12 [.pv (zs l), .pv (zs m), .pv (zs o), .pv (Z i), .pv (Z k)] [] [] (.pv (B true)) := by
  have hT := mkTree_ok l
  have ct := d21 l
  generalize mkTree l = t at *
  have hz := sizeOk_iff.1 (valid_size hT.valid)
  have hbl := boxesL_len hT.valid
  have h27 := hT.cells
  have cb := d52 t (by omega)
  rw [hT.valid] at cb
  obtain ⟨x, hx, hxl⟩ := round_nat (i := i) (n := t.cells.length) (by omega) (by omega)
  obtain ⟨y, hy, hyl⟩ := round_nat (i := k) (n := t.cells.length) (by omega) (by omega)
  have cx := d35 i (t.cells.length : Int) (by omega)
  have cy := d35 k (t.cells.length : Int) (by omega)
  rw [hx] at cx
  rw [hy] at cy
  have hxB : x < (boxesL t).length := by omega
  have hyB : y < (boxesL t).length := by omega
  generalize ha : (boxesL t)[x] = a at *
  generalize hb : (boxesL t)[y] = b at *
  have hai : (boxesL t)[x]? = some a := by rw [List.getElem?_eq_getElem hxB, ha]
  have hbi : (boxesL t)[y]? = some b := by rw [List.getElem?_eq_getElem hyB, hb]
  obtain ⟨la, va⟩ := boxesL_ok hai
  obtain ⟨lb, vb⟩ := boxesL_ok hbi
  have ci := d26 t.root m (by omega) hz.2.2.2.2
  have co := d26 t.root o (by omega) hz.2.2.2.2
  have hq := in_has (b := t.root) (l := m) hz.2.2.2.2
  have lq := inL_len t.root m
  have lo := inL_len t.root o
  generalize inL t.root m = q at *
  generalize inL t.root o = r at *
  have cp := d54 a b q (by omega)
  have c1 := d55 a b (by omega) (by omega)
  rw [touchL_eq] at c1
  have hpo : portalOk a b q = touchC a b := by
    have : q.length = List.length a := by omega
    simp [portalOk, this]
  rw [hpo] at cp
  cases htc : touchC a b with
  | false =>
    rw [htc] at cp c1
    refine detP_of Try.func12 rfl (by kernel_rfl) (by simp [Try.f12]) rfl ?_
    intro C hP hN
    simp only [Try.f12] at hN ⊢
    repeat' (first
      | with_reducible refine WP.seq ?_
      | (with_reducible ((first | refine WP.region (hn := []) ?_ | refine xC_intro (ct) ?_ | refine xC_intro (cb) ?_ | refine xC_intro (cx) ?_ | refine xC_intro (cy) ?_ | refine xC_intro (ci) ?_ | refine xC_intro (cp) ?_ | refine xC_intro (c1) ?_ | refine xC_intro (d48) ?_ | refine WP.cond' ?_); simp -implicitDefEqProofs (maxSteps := 2000000) [hP, hN, hbl, hx, hy, hxB, hyB, hxl, hyl, ha, hb, hai, hbi]))
      | (with_reducible ((first | refine WP.draw (hn := []) (by rw [hP]; kernel_rfl) (by kernel_rfl) ?_ | refine yC_intro (ct) ?_ | refine yC_intro (cb) ?_ | refine yC_intro (cx) ?_ | refine yC_intro (cy) ?_ | refine yC_intro (ci) ?_ | refine yC_intro (cp) ?_ | refine yC_intro (c1) ?_ | refine yC_intro (d48) ?_); simp -implicitDefEqProofs (maxSteps := 2000000) [hP, hN, hbl, hx, hy, hxB, hyB, hxl, hyl, ha, hb, hai, hbi]; (try refine ⟨by kernel_rfl, ?_⟩)))
      | (with_reducible refine xB_split (by simp [hbl, hx, hy, hxB, hyB, hxl, hyl, ha, hb, hai, hbi]) (fun hgd => ?_) (fun hgd => ?_) <;> first | (exfalso; simp at hgd; done) | (exfalso; simp at hgd; omega) | simp -implicitDefEqProofs (maxSteps := 2000000) [hP, hN, hbl, hx, hy, hxB, hyB, hxl, hyl, ha, hb, hai, hbi])
      | (with_reducible refine yB_split (by simp [hbl, hx, hy, hxB, hyB, hxl, hyl, ha, hb, hai, hbi]) (fun hgd => ?_) (fun hgd => ?_) <;> first | (exfalso; simp at hgd; done) | (exfalso; simp at hgd; omega) | (simp -implicitDefEqProofs (maxSteps := 2000000) [hP, hN, hbl, hx, hy, hxB, hyB, hxl, hyl, ha, hb, hai, hbi] <;> (try refine ⟨by kernel_rfl, ?_⟩)))
      | with_reducible refine xTwo_intro ?_ ?_
      | (with_reducible refine xCond_split (fun hcd => ?_) (fun hcd => ?_) <;> (try (exfalso; clear hP hN; simp_all; done)) <;> (try (exfalso; simp at *; omega)))
      | with_reducible refine WP.block ?_
      | (with_reducible ((first | refine WP.skip ?_ | refine WP.exit ?_ | refine WP.ret ?_); simp [hbl, hx, hy, hxB, hyB, hxl, hyl, ha, hb, hai, hbi])))
  | true =>
    rw [htc] at cp c1
    have hqa : q.length = List.length a := by omega
    have hin := portal_in (q := q) htc hqa
    have hpl := portal_len (q := q) htc hqa
    have hnear := fun {x : List Int} h1 h2 {i : Nat} {p c y : Int} => portal_near (q := q) (x := x) htc hqa h1 h2 (i := i) (p := p) (c := c) (y := y)
    generalize portalL a b q = p at *
    have c2 := d30 a p (by omega) (by omega)
    have c3 := d30 b p (by omega) (by omega)
    rw [hasL_eq, hin.1] at c2
    rw [hasL_eq, hin.2] at c3
    have c4 := d45 a r (by omega)
    have lc := clamp_length (c := r) va (by omega)
    generalize clampL a r = u at *
    have c5 := d45 b u (by omega)
    have hbu := clamp_has (c := u) vb (by omega)
    have lu := clamp_length (c := u) vb (by omega)
    generalize clampL b u = w at *
    have c6 := d30 a w (by omega) (by omega)
    rw [hasL_eq] at c6
    cases haw : hasC a w with
    | false =>
      rw [haw] at c6
      refine detP_of Try.func12 rfl (by kernel_rfl) (by simp [Try.f12]) rfl ?_
      intro C hP hN
      simp only [Try.f12] at hN ⊢
      repeat' (first
        | with_reducible refine WP.seq ?_
        | (with_reducible ((first | refine WP.region (hn := []) ?_ | refine xC_intro (ct) ?_ | refine xC_intro (cb) ?_ | refine xC_intro (cx) ?_ | refine xC_intro (cy) ?_ | refine xC_intro (ci) ?_ | refine xC_intro (co) ?_ | refine xC_intro (cp) ?_ | refine xC_intro (c1) ?_ | refine xC_intro (c2) ?_ | refine xC_intro (c3) ?_ | refine xC_intro (c4) ?_ | refine xC_intro (c5) ?_ | refine xC_intro (c6) ?_ | refine xC_intro (d48) ?_ | refine WP.cond' ?_); simp -implicitDefEqProofs (maxSteps := 2000000) [hP, hN, hbl, hx, hy, hxB, hyB, hxl, hyl, ha, hb, hai, hbi]))
        | (with_reducible ((first | refine WP.draw (hn := []) (by rw [hP]; kernel_rfl) (by kernel_rfl) ?_ | refine yC_intro (ct) ?_ | refine yC_intro (cb) ?_ | refine yC_intro (cx) ?_ | refine yC_intro (cy) ?_ | refine yC_intro (ci) ?_ | refine yC_intro (co) ?_ | refine yC_intro (cp) ?_ | refine yC_intro (c1) ?_ | refine yC_intro (c2) ?_ | refine yC_intro (c3) ?_ | refine yC_intro (c4) ?_ | refine yC_intro (c5) ?_ | refine yC_intro (c6) ?_ | refine yC_intro (d48) ?_); simp -implicitDefEqProofs (maxSteps := 2000000) [hP, hN, hbl, hx, hy, hxB, hyB, hxl, hyl, ha, hb, hai, hbi]; (try refine ⟨by kernel_rfl, ?_⟩)))
        | (with_reducible refine xB_split (by simp [hbl, hx, hy, hxB, hyB, hxl, hyl, ha, hb, hai, hbi]) (fun hgd => ?_) (fun hgd => ?_) <;> first | (exfalso; simp at hgd; done) | (exfalso; simp at hgd; omega) | simp -implicitDefEqProofs (maxSteps := 2000000) [hP, hN, hbl, hx, hy, hxB, hyB, hxl, hyl, ha, hb, hai, hbi])
        | (with_reducible refine yB_split (by simp [hbl, hx, hy, hxB, hyB, hxl, hyl, ha, hb, hai, hbi]) (fun hgd => ?_) (fun hgd => ?_) <;> first | (exfalso; simp at hgd; done) | (exfalso; simp at hgd; omega) | (simp -implicitDefEqProofs (maxSteps := 2000000) [hP, hN, hbl, hx, hy, hxB, hyB, hxl, hyl, ha, hb, hai, hbi] <;> (try refine ⟨by kernel_rfl, ?_⟩)))
        | with_reducible refine xTwo_intro ?_ ?_
        | (with_reducible refine xCond_split (fun hcd => ?_) (fun hcd => ?_) <;> (try (exfalso; clear hP hN; simp_all; done)) <;> (try (exfalso; simp at *; omega)))
        | with_reducible refine WP.block ?_
        | (with_reducible ((first | refine WP.skip ?_ | refine WP.exit ?_ | refine WP.ret ?_); simp [hbl, hx, hy, hxB, hyB, hxl, hyl, ha, hb, hai, hbi])))
    | true =>
      rw [haw] at c6
      refine detP_of Try.func12 rfl (by kernel_rfl) (by simp [Try.f12]) rfl ?_
      intro C hP hN
      simp only [Try.f12] at hN ⊢
      repeat' (first
        | with_reducible refine WP.seq ?_
        | (with_reducible ((first | refine WP.region (hn := []) ?_ | refine xC_intro (ct) ?_ | refine xC_intro (cb) ?_ | refine xC_intro (cx) ?_ | refine xC_intro (cy) ?_ | refine xC_intro (ci) ?_ | refine xC_intro (co) ?_ | refine xC_intro (cp) ?_ | refine xC_intro (c1) ?_ | refine xC_intro (c2) ?_ | refine xC_intro (c3) ?_ | refine xC_intro (c4) ?_ | refine xC_intro (c5) ?_ | refine xC_intro (c6) ?_ | refine xC_intro (d48) ?_ | refine WP.cond' ?_); simp -implicitDefEqProofs (maxSteps := 2000000) [hP, hN, hbl, hx, hy, hxB, hyB, hxl, hyl, ha, hb, hai, hbi]))
        | (with_reducible ((first | refine WP.draw (hn := []) (by rw [hP]; kernel_rfl) (by kernel_rfl) ?_ | refine yC_intro (ct) ?_ | refine yC_intro (cb) ?_ | refine yC_intro (cx) ?_ | refine yC_intro (cy) ?_ | refine yC_intro (ci) ?_ | refine yC_intro (co) ?_ | refine yC_intro (cp) ?_ | refine yC_intro (c1) ?_ | refine yC_intro (c2) ?_ | refine yC_intro (c3) ?_ | refine yC_intro (c4) ?_ | refine yC_intro (c5) ?_ | refine yC_intro (c6) ?_ | refine yC_intro (d48) ?_); simp -implicitDefEqProofs (maxSteps := 2000000) [hP, hN, hbl, hx, hy, hxB, hyB, hxl, hyl, ha, hb, hai, hbi]; (try refine ⟨by kernel_rfl, ?_⟩)))
        | (with_reducible refine xB_split (by simp [hbl, hx, hy, hxB, hyB, hxl, hyl, ha, hb, hai, hbi]) (fun hgd => ?_) (fun hgd => ?_) <;> first | (exfalso; simp at hgd; done) | (exfalso; simp at hgd; omega) | simp -implicitDefEqProofs (maxSteps := 2000000) [hP, hN, hbl, hx, hy, hxB, hyB, hxl, hyl, ha, hb, hai, hbi])
        | (with_reducible refine yB_split (by simp [hbl, hx, hy, hxB, hyB, hxl, hyl, ha, hb, hai, hbi]) (fun hgd => ?_) (fun hgd => ?_) <;> first | (exfalso; simp at hgd; done) | (exfalso; simp at hgd; omega) | (simp -implicitDefEqProofs (maxSteps := 2000000) [hP, hN, hbl, hx, hy, hxB, hyB, hxl, hyl, ha, hb, hai, hbi] <;> (try refine ⟨by kernel_rfl, ?_⟩)))
        | with_reducible refine xTwo_intro ?_ ?_
        | (with_reducible refine xCond_split (fun hcd => ?_) (fun hcd => ?_) <;> (try (exfalso; clear hP hN; simp_all; done)) <;> (try (exfalso; simp at *; omega)))
        | with_reducible refine WP.block ?_
        | (with_reducible ((first | refine WP.skip ?_ | refine WP.exit ?_ | refine WP.ret ?_); simp [hbl, hx, hy, hxB, hyB, hxl, hyl, ha, hb, hai, hbi])))
      refine WP.loopN [] q.length (fun j st => st.t 16 = .pv (zs q) ∧ st.t 17 = .pv (zs p) ∧ st.t 19 = .pv (zs w) ∧ st.t 20 = .pv (Z j)) (by simp) ?_
      rintro j st hj ⟨g16, g17, g19, g20⟩
      by_cases hlt : j < q.length
      · have hwj := wr_succ hlt (by omega)
        have j1 : j < p.length := by omega
        have j2 : j < w.length := by omega
        have n1 := hnear haw hbu (List.getElem?_eq_getElem j1) (List.getElem?_eq_getElem hlt) (List.getElem?_eq_getElem j2)
        have r1 := has_rng hq (List.getElem?_eq_getElem hlt)
        have r2 := has_rng hin.1 (List.getElem?_eq_getElem j1)
        have r3 := has_rng hbu (List.getElem?_eq_getElem j2)
        have w1 : IntKind.i64.wrap (p[j] - q[j]) = p[j] - q[j] := wr_id (by omega) (by omega)
        have w2 : IntKind.i64.wrap (q[j] - p[j]) = q[j] - p[j] := wr_id (by omega) (by omega)
        have w3 : IntKind.i64.wrap (w[j] - q[j]) = w[j] - q[j] := wr_id (by omega) (by omega)
        have w4 : IntKind.i64.wrap (q[j] - w[j]) = q[j] - w[j] := wr_id (by omega) (by omega)
        have n2 : ¬ max (w[j] - q[j]) (q[j] - w[j]) < max (p[j] - q[j]) (q[j] - p[j]) := by omega
        repeat' (first
          | with_reducible refine WP.seq ?_
          | (with_reducible ((first | refine WP.region (hn := []) ?_ | refine WP.cond' ?_); simp -implicitDefEqProofs (maxSteps := 2000000) [hP, hN, g16, g17, g19, g20, hlt, j1, j2, hwj, w1, w2, w3, w4, n2]))
          | (with_reducible ((first | refine WP.draw (hn := []) (by rw [hP]; kernel_rfl) (by kernel_rfl) ?_); simp -implicitDefEqProofs (maxSteps := 2000000) [hP, hN, g16, g17, g19, g20, hlt, j1, j2, hwj, w1, w2, w3, w4, n2]; (try refine ⟨by kernel_rfl, ?_⟩)))
          | (with_reducible refine xB_split (by simp [g16, g17, g19, g20, hlt, j1, j2, hwj, w1, w2, w3, w4, n2]) (fun hgd => ?_) (fun hgd => ?_) <;> first | (exfalso; simp at hgd; done) | (exfalso; simp at hgd; omega) | simp -implicitDefEqProofs (maxSteps := 2000000) [hP, hN, g16, g17, g19, g20, hlt, j1, j2, hwj, w1, w2, w3, w4, n2])
          | (with_reducible refine yB_split (by simp [g16, g17, g19, g20, hlt, j1, j2, hwj, w1, w2, w3, w4, n2]) (fun hgd => ?_) (fun hgd => ?_) <;> first | (exfalso; simp at hgd; done) | (exfalso; simp at hgd; omega) | (simp -implicitDefEqProofs (maxSteps := 2000000) [hP, hN, g16, g17, g19, g20, hlt, j1, j2, hwj, w1, w2, w3, w4, n2] <;> (try refine ⟨by kernel_rfl, ?_⟩)))
          | with_reducible refine xTwo_intro ?_ ?_
          | (with_reducible refine xCond_split (fun hcd => ?_) (fun hcd => ?_) <;> (try (exfalso; clear hP hN; simp_all; done)) <;> (try (exfalso; simp at *; omega)))
          | with_reducible refine WP.block ?_
          | (with_reducible ((first | refine WP.skip ?_ | refine WP.exit ?_ | refine WP.ret ?_); simp [g16, g17, g19, g20, hlt, j1, j2, hwj, w1, w2, w3, w4, n2])))
      · skip
        repeat' (first
          | with_reducible refine WP.seq ?_
          | (with_reducible ((first | refine WP.region (hn := []) ?_ | refine xC_intro (d48) ?_ | refine WP.cond' ?_); simp -implicitDefEqProofs (maxSteps := 2000000) [hP, hN, g16, g17, g19, g20, hlt]))
          | (with_reducible ((first | refine WP.draw (hn := []) (by rw [hP]; kernel_rfl) (by kernel_rfl) ?_ | refine yC_intro (d48) ?_); simp -implicitDefEqProofs (maxSteps := 2000000) [hP, hN, g16, g17, g19, g20, hlt]; (try refine ⟨by kernel_rfl, ?_⟩)))
          | (with_reducible refine xB_split (by simp [g16, g17, g19, g20, hlt]) (fun hgd => ?_) (fun hgd => ?_) <;> first | (exfalso; simp at hgd; done) | (exfalso; simp at hgd; omega) | simp -implicitDefEqProofs (maxSteps := 2000000) [hP, hN, g16, g17, g19, g20, hlt])
          | (with_reducible refine yB_split (by simp [g16, g17, g19, g20, hlt]) (fun hgd => ?_) (fun hgd => ?_) <;> first | (exfalso; simp at hgd; done) | (exfalso; simp at hgd; omega) | (simp -implicitDefEqProofs (maxSteps := 2000000) [hP, hN, g16, g17, g19, g20, hlt] <;> (try refine ⟨by kernel_rfl, ?_⟩)))
          | with_reducible refine xTwo_intro ?_ ?_
          | (with_reducible refine xCond_split (fun hcd => ?_) (fun hcd => ?_) <;> (try (exfalso; clear hP hN; simp_all; done)) <;> (try (exfalso; simp at *; omega)))
          | with_reducible refine WP.block ?_
          | (with_reducible ((first | refine WP.skip ?_ | refine WP.exit ?_ | refine WP.ret ?_); simp [g16, g17, g19, g20, hlt])))
end Go.Ab
