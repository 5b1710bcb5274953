/- Contracts: made boxes. -/
import Derived.Test.YtgamhginhckcpaaCf11
set_option linter.all false
namespace Go.Ab
open Go.Proofs
/-- An array of the caller's own, told by content. -/
theorem detRow_pv {P : Program} {f : FuncId} {args : List Arg} {e sz : Nat} {xs : List PV} (h : DetH P f args [] [] (.row e sz xs)) : DetH P f args [] [] (.pv (.sl xs)) := by
  refine ⟨h.1, h.2.1, fun w M bs vs hM h1 h2 h3 h4 h5 => (h.2.2 w M bs vs hM h1 h2 h3 h4 h5).mono ?_⟩
  rintro en w' ⟨v, rfl, hx, hb, l, hv, hown, hrel⟩
  refine ⟨v, rfl, hx, hb, ?_⟩
  obtain ⟨c1, c2, c3, c4, c5⟩ := hrel
  show Rep w' M (.sl xs) v
  cases hn : l.isNil with
  | true =>
    have hxs := c4 hn
    subst hxs
    rw [hv, Loc.slice, hn]
    exact .sl0 _ _
  | false =>
    obtain ⟨d1, d2, arr, d3, d4, d5⟩ := c5 hn
    rw [hv, Loc.slice, hn]
    refine .sl xs l.b 0 l.cap sz (fun i j => (arr[i * sz + j]?).getD undef) d1 (fun i x hx' => c3 x (List.mem_of_getElem? hx')) ?_ ?_
    · intro i x j p hx' hj
      obtain ⟨u, hu, _⟩ := d5 i x j p hx' hj
      refine ⟨by rw [cell_heap d3, Nat.zero_add, hu]; rfl, fun hm => ?_⟩
      have := hM _ _ hm
      have := hown hn
      omega
    · intro i x j p hx' hj
      obtain ⟨u, hu, hr⟩ := d5 i x j p hx' hj
      rw [hu]
      exact hr.mono (Pres.sub (fun b o h => .inl h))
def bX (l : List Int) (m : Nat) (lo hi : Int) : Int := wr (lo + nx l m (hi - lo + 1))
def bC (l : List Int) (m : Nat) : Int := nx l (nn l m) 5
def bW (l : List Int) (m : Nat) (lo hi : Int) : Int := if bC l m = 0 then hi - lo else if bC l m = 1 then nx l (nn l (nn l m)) 3000 else if bC l m = 2 then nx l (nn l (nn l m)) 3000 else if bC l m = 3 then nx l (nn l (nn l m)) 200 else 0
def bN (l : List Int) (m : Nat) : Nat := if bC l m = 0 then nn l (nn l m) else if bC l m = 1 then nn l (nn l (nn l m)) else if bC l m = 2 then nn l (nn l (nn l m)) else if bC l m = 3 then nn l (nn l (nn l m)) else nn l (nn l m)
def bVal (l : List Int) (m : Nat) (lo hi : Int) : Int × Int := (bX l m lo hi, min hi (wr (bX l m lo hi + bW l m lo hi)))
def bSt (l : List Int) : Nat → Nat
  | 0 => 0
  | i + 1 => bN l (bSt l i)
theorem bSt_le (l : List Int) (i : Nat) : bSt l i ≤ 3 * i := by
  induction i with
  | zero => simp [bSt]
  | succ i ih =>
    have l1 := nn_le l (bSt l i)
    have l2 := nn_le l (nn l (bSt l i))
    have l3 := nn_le l (nn l (nn l (bSt l i)))
    simp only [bSt, bN]
    repeat' split
    all_goals omega
def mkBoxL (l : List Int) (js : List J) : List (Int × Int) := js.mapIdx fun i j => bVal l (bSt l i) j.lo j.hi
theorem mkBox_step {l : List Int} {js : List J} {i : Nat} (hlt : i < js.length) : ((mkBoxL l js).map encI).take i ++ [encI (bVal l (bSt l i) js[i].lo js[i].hi)] = ((mkBoxL l js).map encI).take (i + 1) := by
  rw [List.take_succ_eq_append_getElem (by simpa [mkBoxL] using hlt)]; simp [mkBoxL]
theorem bX_range {l : List Int} {m : Nat} {lo hi : Int} (h1 : -1000000 ≤ lo) (h2 : lo ≤ hi) (h3 : hi ≤ 1000000) : lo ≤ bX l m lo hi ∧ bX l m lo hi ≤ hi := by
  have h := nx_range l m (k := hi - lo + 1) (by omega) (by omega)
  unfold bX; rw [wr_id (by omega) (by omega)]; omega
theorem bW_range {l : List Int} {m : Nat} {lo hi : Int} (h1 : -1000000 ≤ lo) (h2 : lo ≤ hi) (h3 : hi ≤ 1000000) : 0 ≤ bW l m lo hi ∧ bW l m lo hi ≤ 2000000 := by
  have a := nx_range l (nn l (nn l m)) (k := 3000) (by omega) (by omega)
  have b := nx_range l (nn l (nn l m)) (k := 200) (by omega) (by omega)
  unfold bW
  repeat' split
  all_goals omega
theorem bVal_range {l : List Int} {m : Nat} {lo hi : Int} (h1 : -1000000 ≤ lo) (h2 : lo ≤ hi) (h3 : hi ≤ 1000000) : lo ≤ (bVal l m lo hi).1 ∧ (bVal l m lo hi).1 ≤ (bVal l m lo hi).2 ∧ (bVal l m lo hi).2 ≤ hi := by
  have a := bX_range (l := l) (m := m) h1 h2 h3
  have b := bW_range (l := l) (m := m) h1 h2 h3
  unfold bVal; simp only
  rw [wr_id (by omega) (by omega)]; omega
set_option maxHeartbeats 4000000 in
theorem r27 (l : List Int) (js : List J) (ms : List Ms) (hl : js.length ≤ 1000) (hj : ∀ j ∈ js, jOk j) : DetH Try.prog 27 [.pv (encR js ms), .pv (zs l)] [] [] (.row 37 2 ((mkBoxL l js).map encI)) := by
  refine detP_of Try.func27 rfl (by kernel_rfl) (by simp [Try.f27]) rfl ?_
  intro C hP hN
  simp only [Try.f27] at hN ⊢
  repeat' (first
    | with_reducible refine WP.seq ?_
    | (with_reducible refine WP.region (hn := [6]) ?_; simp [hP, hN, srcP])
    | (with_reducible refine WP.draw (hn := [6]) (by rw [hP]; kernel_rfl) (by kernel_rfl) ?_; simp [hP, hN, srcP]; (try refine ⟨by kernel_rfl, ?_⟩))
    | (with_reducible refine xB_split (by simp [srcP]) (fun hgd => ?_) (fun hgd => ?_) <;> first | (exfalso; simp at hgd; done) | (exfalso; simp at hgd; omega) | simp [hP, hN, srcP])
    | (with_reducible refine yB_split (by simp [srcP]) (fun hgd => ?_) (fun hgd => ?_) <;> first | (exfalso; simp at hgd; done) | (exfalso; simp at hgd; omega) | (simp [hP, hN, srcP] <;> (try refine ⟨by kernel_rfl, ?_⟩)))
    | (with_reducible refine xC_intro (d49 _) ?_; simp [hP, hN, srcP])
    | (with_reducible refine yC_intro (d49 _) ?_; simp [hP, hN, srcP]; (try refine ⟨by kernel_rfl, ?_⟩))
    | with_reducible refine xTwo_intro ?_ ?_
    | (with_reducible refine WP.cond' ?_; simp [hP, hN, srcP])
    | (with_reducible refine xCond_split (fun hcd => ?_) (fun hcd => ?_) <;> (try (exfalso; clear hP hN; simp_all; done)) <;> (try (exfalso; simp at *; omega)))
    | with_reducible refine WP.block ?_
    | (with_reducible refine WP.skip ?_; simp [srcP])
    | (with_reducible refine WP.exit ?_; simp [srcP])
    | (with_reducible refine WP.ret ?_; simp [srcP]))
  refine WP.loopN [] js.length (fun i st => st.t 2 = .ptr 2 0 ∧ st.t 5 = .ptr 13 0 ∧ st.t 6 = .arr 6 i ∧ st.t 7 = .pv (Z i) ∧ st.h 2 = some (.box [.pv (.sl (js.map encJ)), .pv (.sl (ms.map encM))] true false) ∧
    st.h 13 = some (.box [.pv (zs l), .pv (Z (bSt l i))] true false) ∧ st.h 6 = some (.row 37 2 (((mkBoxL l js).map encI).take i) 0)) (by simp [bSt]) ?_
  rintro i st hi ⟨h2, h5, h6, h7, hb2, hb12, hb6⟩
  have hzT : min i (mkBoxL l js).length = i := by simp [mkBoxL]; omega
  by_cases hlt : i < js.length
  · have hw : IntKind.i64.wrap ((i : Int) + 1) = (i : Int) + 1 := by rw [IntKind.wrap_i64]; omega
    have hm := bSt_le l i
    have l1 := nn_le l (bSt l i)
    have l2 := nn_le l (nn l (bSt l i))
    have hs := mkBox_step (l := l) hlt
    have hok := hj js[i] (List.getElem_mem hlt)
    have hw2 : IntKind.i64.wrap (js[i].hi - js[i].lo) = js[i].hi - js[i].lo := by unfold jOk at hok; rw [IntKind.wrap_i64]; omega
    have hw3 : IntKind.i64.wrap (js[i].hi - js[i].lo + 1) = js[i].hi - js[i].lo + 1 := by unfold jOk at hok; rw [IntKind.wrap_i64]; omega
    have hS : bSt l (i + 1) = bN l (bSt l i) := rfl
    have hne : js[i].hi - js[i].lo + 1 ≠ 0 := by unfold jOk at hok; omega
    have r3 := nx_range l (nn l (nn l (bSt l i))) (k := 3000) (by omega) (by omega)
    have r2 := nx_range l (nn l (nn l (bSt l i))) (k := 200) (by omega) (by omega)
    have w3 : IntKind.i64.wrap (nx l (nn l (nn l (bSt l i))) 3000) = nx l (nn l (nn l (bSt l i))) 3000 := wr_id (by omega) (by omega)
    have w2 : IntKind.i64.wrap (nx l (nn l (nn l (bSt l i))) 200) = nx l (nn l (nn l (bSt l i))) 200 := wr_id (by omega) (by omega)
    have rc := nx_range l (bSt l i) (k := js[i].hi - js[i].lo + 1) (by unfold jOk at hok; omega) (by unfold jOk at hok; omega)
    have wc : IntKind.i64.wrap (nx l (bSt l i) (js[i].hi - js[i].lo + 1)) = nx l (bSt l i) (js[i].hi - js[i].lo + 1) := wr_id (by omega) (by unfold jOk at hok; omega)
    have hc : bC l (bSt l i) = nx l (nn l (bSt l i)) 5 := rfl
    have key : bC l (bSt l i) = 0 ∨ bC l (bSt l i) = 1 ∨ bC l (bSt l i) = 2 ∨ bC l (bSt l i) = 3 ∨ bC l (bSt l i) = 4 := by
      have := nx_range l (nn l (bSt l i)) (k := 5) (by omega) (by omega)
      rw [hc]; omega
    rcases key with hk | hk | hk | hk | hk
    all_goals (rw [hc] at hk)
    · skip
      repeat' (first
        | with_reducible refine WP.seq ?_
        | (with_reducible refine WP.region (hn := []) ?_; simp [hP, hN, h2, h5, h6, h7, hb2, hb12, hb6, hzT, hlt, hw, hw2, hw3, hS, hk, wc, w2, w3, show (i + 1) * 16 ≤ 140737488355328 by omega, show i ≤ 9223372036854775806 by omega])
        | (with_reducible refine WP.draw (hn := []) (by rw [hP]; kernel_rfl) (by kernel_rfl) ?_; simp [hP, hN, h2, h5, h6, h7, hb2, hb12, hb6, hzT, hlt, hw, hw2, hw3, hS, hk, wc, w2, w3, show (i + 1) * 16 ≤ 140737488355328 by omega, show i ≤ 9223372036854775806 by omega]; (try refine ⟨by kernel_rfl, ?_⟩))
        | (with_reducible refine xB_split (by simp [h2, h5, h6, h7, hb2, hb12, hb6, hzT, hlt, hw, hw2, hw3, hS, hk, wc, w2, w3, show (i + 1) * 16 ≤ 140737488355328 by omega, show i ≤ 9223372036854775806 by omega]) (fun hgd => ?_) (fun hgd => ?_) <;> first | (exfalso; simp at hgd; done) | (exfalso; simp at hgd; omega) | simp [hP, hN, h2, h5, h6, h7, hb2, hb12, hb6, hzT, hlt, hw, hw2, hw3, hS, hk, wc, w2, w3, show (i + 1) * 16 ≤ 140737488355328 by omega, show i ≤ 9223372036854775806 by omega])
        | (with_reducible refine yB_split (by simp [h2, h5, h6, h7, hb2, hb12, hb6, hzT, hlt, hw, hw2, hw3, hS, hk, wc, w2, w3, show (i + 1) * 16 ≤ 140737488355328 by omega, show i ≤ 9223372036854775806 by omega]) (fun hgd => ?_) (fun hgd => ?_) <;> first | (exfalso; simp at hgd; done) | (exfalso; simp at hgd; omega) | (simp [hP, hN, h2, h5, h6, h7, hb2, hb12, hb6, hzT, hlt, hw, hw2, hw3, hS, hk, wc, w2, w3, show (i + 1) * 16 ≤ 140737488355328 by omega, show i ≤ 9223372036854775806 by omega] <;> (try refine ⟨by kernel_rfl, ?_⟩)))
        | (with_reducible refine xC_intro (d50 l _ 5 (by decide) (by omega)) ?_; simp [hP, hN, h2, h5, h6, h7, hb2, hb12, hb6, hzT, hlt, hw, hw2, hw3, hS, hk, wc, w2, w3, show (i + 1) * 16 ≤ 140737488355328 by omega, show i ≤ 9223372036854775806 by omega])
        | (with_reducible refine yC_intro (d50 l _ 5 (by decide) (by omega)) ?_; simp [hP, hN, h2, h5, h6, h7, hb2, hb12, hb6, hzT, hlt, hw, hw2, hw3, hS, hk, wc, w2, w3, show (i + 1) * 16 ≤ 140737488355328 by omega, show i ≤ 9223372036854775806 by omega]; (try refine ⟨by kernel_rfl, ?_⟩))
        | (with_reducible refine xC_intro (d50 l _ 3000 (by decide) (by omega)) ?_; simp [hP, hN, h2, h5, h6, h7, hb2, hb12, hb6, hzT, hlt, hw, hw2, hw3, hS, hk, wc, w2, w3, show (i + 1) * 16 ≤ 140737488355328 by omega, show i ≤ 9223372036854775806 by omega])
        | (with_reducible refine yC_intro (d50 l _ 3000 (by decide) (by omega)) ?_; simp [hP, hN, h2, h5, h6, h7, hb2, hb12, hb6, hzT, hlt, hw, hw2, hw3, hS, hk, wc, w2, w3, show (i + 1) * 16 ≤ 140737488355328 by omega, show i ≤ 9223372036854775806 by omega]; (try refine ⟨by kernel_rfl, ?_⟩))
        | (with_reducible refine xC_intro (d50 l _ 200 (by decide) (by omega)) ?_; simp [hP, hN, h2, h5, h6, h7, hb2, hb12, hb6, hzT, hlt, hw, hw2, hw3, hS, hk, wc, w2, w3, show (i + 1) * 16 ≤ 140737488355328 by omega, show i ≤ 9223372036854775806 by omega])
        | (with_reducible refine yC_intro (d50 l _ 200 (by decide) (by omega)) ?_; simp [hP, hN, h2, h5, h6, h7, hb2, hb12, hb6, hzT, hlt, hw, hw2, hw3, hS, hk, wc, w2, w3, show (i + 1) * 16 ≤ 140737488355328 by omega, show i ≤ 9223372036854775806 by omega]; (try refine ⟨by kernel_rfl, ?_⟩))
        | (with_reducible refine xC_intro (d50 l _ _ hne (by omega)) ?_; simp [hP, hN, h2, h5, h6, h7, hb2, hb12, hb6, hzT, hlt, hw, hw2, hw3, hS, hk, wc, w2, w3, show (i + 1) * 16 ≤ 140737488355328 by omega, show i ≤ 9223372036854775806 by omega])
        | (with_reducible refine yC_intro (d50 l _ _ hne (by omega)) ?_; simp [hP, hN, h2, h5, h6, h7, hb2, hb12, hb6, hzT, hlt, hw, hw2, hw3, hS, hk, wc, w2, w3, show (i + 1) * 16 ≤ 140737488355328 by omega, show i ≤ 9223372036854775806 by omega]; (try refine ⟨by kernel_rfl, ?_⟩))
        | with_reducible refine xTwo_intro ?_ ?_
        | (with_reducible refine WP.cond' ?_; simp [hP, hN, h2, h5, h6, h7, hb2, hb12, hb6, hzT, hlt, hw, hw2, hw3, hS, hk, wc, w2, w3, show (i + 1) * 16 ≤ 140737488355328 by omega, show i ≤ 9223372036854775806 by omega])
        | (with_reducible refine xCond_split (fun hcd => ?_) (fun hcd => ?_) <;> (try (exfalso; clear hP hN; simp_all; done)) <;> (try (exfalso; simp at *; omega)))
        | with_reducible refine WP.block ?_
        | (with_reducible refine WP.skip ?_; simp [h2, h5, h6, h7, hb2, hb12, hb6, hzT, hlt, hw, hw2, hw3, hS, hk, wc, w2, w3, show (i + 1) * 16 ≤ 140737488355328 by omega, show i ≤ 9223372036854775806 by omega])
        | (with_reducible refine WP.exit ?_; simp [h2, h5, h6, h7, hb2, hb12, hb6, hzT, hlt, hw, hw2, hw3, hS, hk, wc, w2, w3, show (i + 1) * 16 ≤ 140737488355328 by omega, show i ≤ 9223372036854775806 by omega])
        | (with_reducible refine WP.ret ?_; simp [h2, h5, h6, h7, hb2, hb12, hb6, hzT, hlt, hw, hw2, hw3, hS, hk, wc, w2, w3, show (i + 1) * 16 ≤ 140737488355328 by omega, show i ≤ 9223372036854775806 by omega]))
      all_goals (rw [← hs]; simp [bN, hc, hk, bVal, bX, bW])
    · skip
      repeat' (first
        | with_reducible refine WP.seq ?_
        | (with_reducible refine WP.region (hn := []) ?_; simp [hP, hN, h2, h5, h6, h7, hb2, hb12, hb6, hzT, hlt, hw, hw2, hw3, hS, hk, wc, w2, w3, show (i + 1) * 16 ≤ 140737488355328 by omega, show i ≤ 9223372036854775806 by omega])
        | (with_reducible refine WP.draw (hn := []) (by rw [hP]; kernel_rfl) (by kernel_rfl) ?_; simp [hP, hN, h2, h5, h6, h7, hb2, hb12, hb6, hzT, hlt, hw, hw2, hw3, hS, hk, wc, w2, w3, show (i + 1) * 16 ≤ 140737488355328 by omega, show i ≤ 9223372036854775806 by omega]; (try refine ⟨by kernel_rfl, ?_⟩))
        | (with_reducible refine xB_split (by simp [h2, h5, h6, h7, hb2, hb12, hb6, hzT, hlt, hw, hw2, hw3, hS, hk, wc, w2, w3, show (i + 1) * 16 ≤ 140737488355328 by omega, show i ≤ 9223372036854775806 by omega]) (fun hgd => ?_) (fun hgd => ?_) <;> first | (exfalso; simp at hgd; done) | (exfalso; simp at hgd; omega) | simp [hP, hN, h2, h5, h6, h7, hb2, hb12, hb6, hzT, hlt, hw, hw2, hw3, hS, hk, wc, w2, w3, show (i + 1) * 16 ≤ 140737488355328 by omega, show i ≤ 9223372036854775806 by omega])
        | (with_reducible refine yB_split (by simp [h2, h5, h6, h7, hb2, hb12, hb6, hzT, hlt, hw, hw2, hw3, hS, hk, wc, w2, w3, show (i + 1) * 16 ≤ 140737488355328 by omega, show i ≤ 9223372036854775806 by omega]) (fun hgd => ?_) (fun hgd => ?_) <;> first | (exfalso; simp at hgd; done) | (exfalso; simp at hgd; omega) | (simp [hP, hN, h2, h5, h6, h7, hb2, hb12, hb6, hzT, hlt, hw, hw2, hw3, hS, hk, wc, w2, w3, show (i + 1) * 16 ≤ 140737488355328 by omega, show i ≤ 9223372036854775806 by omega] <;> (try refine ⟨by kernel_rfl, ?_⟩)))
        | (with_reducible refine xC_intro (d50 l _ 5 (by decide) (by omega)) ?_; simp [hP, hN, h2, h5, h6, h7, hb2, hb12, hb6, hzT, hlt, hw, hw2, hw3, hS, hk, wc, w2, w3, show (i + 1) * 16 ≤ 140737488355328 by omega, show i ≤ 9223372036854775806 by omega])
        | (with_reducible refine yC_intro (d50 l _ 5 (by decide) (by omega)) ?_; simp [hP, hN, h2, h5, h6, h7, hb2, hb12, hb6, hzT, hlt, hw, hw2, hw3, hS, hk, wc, w2, w3, show (i + 1) * 16 ≤ 140737488355328 by omega, show i ≤ 9223372036854775806 by omega]; (try refine ⟨by kernel_rfl, ?_⟩))
        | (with_reducible refine xC_intro (d50 l _ 3000 (by decide) (by omega)) ?_; simp [hP, hN, h2, h5, h6, h7, hb2, hb12, hb6, hzT, hlt, hw, hw2, hw3, hS, hk, wc, w2, w3, show (i + 1) * 16 ≤ 140737488355328 by omega, show i ≤ 9223372036854775806 by omega])
        | (with_reducible refine yC_intro (d50 l _ 3000 (by decide) (by omega)) ?_; simp [hP, hN, h2, h5, h6, h7, hb2, hb12, hb6, hzT, hlt, hw, hw2, hw3, hS, hk, wc, w2, w3, show (i + 1) * 16 ≤ 140737488355328 by omega, show i ≤ 9223372036854775806 by omega]; (try refine ⟨by kernel_rfl, ?_⟩))
        | (with_reducible refine xC_intro (d50 l _ 200 (by decide) (by omega)) ?_; simp [hP, hN, h2, h5, h6, h7, hb2, hb12, hb6, hzT, hlt, hw, hw2, hw3, hS, hk, wc, w2, w3, show (i + 1) * 16 ≤ 140737488355328 by omega, show i ≤ 9223372036854775806 by omega])
        | (with_reducible refine yC_intro (d50 l _ 200 (by decide) (by omega)) ?_; simp [hP, hN, h2, h5, h6, h7, hb2, hb12, hb6, hzT, hlt, hw, hw2, hw3, hS, hk, wc, w2, w3, show (i + 1) * 16 ≤ 140737488355328 by omega, show i ≤ 9223372036854775806 by omega]; (try refine ⟨by kernel_rfl, ?_⟩))
        | (with_reducible refine xC_intro (d50 l _ _ hne (by omega)) ?_; simp [hP, hN, h2, h5, h6, h7, hb2, hb12, hb6, hzT, hlt, hw, hw2, hw3, hS, hk, wc, w2, w3, show (i + 1) * 16 ≤ 140737488355328 by omega, show i ≤ 9223372036854775806 by omega])
        | (with_reducible refine yC_intro (d50 l _ _ hne (by omega)) ?_; simp [hP, hN, h2, h5, h6, h7, hb2, hb12, hb6, hzT, hlt, hw, hw2, hw3, hS, hk, wc, w2, w3, show (i + 1) * 16 ≤ 140737488355328 by omega, show i ≤ 9223372036854775806 by omega]; (try refine ⟨by kernel_rfl, ?_⟩))
        | with_reducible refine xTwo_intro ?_ ?_
        | (with_reducible refine WP.cond' ?_; simp [hP, hN, h2, h5, h6, h7, hb2, hb12, hb6, hzT, hlt, hw, hw2, hw3, hS, hk, wc, w2, w3, show (i + 1) * 16 ≤ 140737488355328 by omega, show i ≤ 9223372036854775806 by omega])
        | (with_reducible refine xCond_split (fun hcd => ?_) (fun hcd => ?_) <;> (try (exfalso; clear hP hN; simp_all; done)) <;> (try (exfalso; simp at *; omega)))
        | with_reducible refine WP.block ?_
        | (with_reducible refine WP.skip ?_; simp [h2, h5, h6, h7, hb2, hb12, hb6, hzT, hlt, hw, hw2, hw3, hS, hk, wc, w2, w3, show (i + 1) * 16 ≤ 140737488355328 by omega, show i ≤ 9223372036854775806 by omega])
        | (with_reducible refine WP.exit ?_; simp [h2, h5, h6, h7, hb2, hb12, hb6, hzT, hlt, hw, hw2, hw3, hS, hk, wc, w2, w3, show (i + 1) * 16 ≤ 140737488355328 by omega, show i ≤ 9223372036854775806 by omega])
        | (with_reducible refine WP.ret ?_; simp [h2, h5, h6, h7, hb2, hb12, hb6, hzT, hlt, hw, hw2, hw3, hS, hk, wc, w2, w3, show (i + 1) * 16 ≤ 140737488355328 by omega, show i ≤ 9223372036854775806 by omega]))
      all_goals (rw [← hs]; simp [bN, hc, hk, bVal, bX, bW])
    · skip
      repeat' (first
        | with_reducible refine WP.seq ?_
        | (with_reducible refine WP.region (hn := []) ?_; simp [hP, hN, h2, h5, h6, h7, hb2, hb12, hb6, hzT, hlt, hw, hw2, hw3, hS, hk, wc, w2, w3, show (i + 1) * 16 ≤ 140737488355328 by omega, show i ≤ 9223372036854775806 by omega])
        | (with_reducible refine WP.draw (hn := []) (by rw [hP]; kernel_rfl) (by kernel_rfl) ?_; simp [hP, hN, h2, h5, h6, h7, hb2, hb12, hb6, hzT, hlt, hw, hw2, hw3, hS, hk, wc, w2, w3, show (i + 1) * 16 ≤ 140737488355328 by omega, show i ≤ 9223372036854775806 by omega]; (try refine ⟨by kernel_rfl, ?_⟩))
        | (with_reducible refine xB_split (by simp [h2, h5, h6, h7, hb2, hb12, hb6, hzT, hlt, hw, hw2, hw3, hS, hk, wc, w2, w3, show (i + 1) * 16 ≤ 140737488355328 by omega, show i ≤ 9223372036854775806 by omega]) (fun hgd => ?_) (fun hgd => ?_) <;> first | (exfalso; simp at hgd; done) | (exfalso; simp at hgd; omega) | simp [hP, hN, h2, h5, h6, h7, hb2, hb12, hb6, hzT, hlt, hw, hw2, hw3, hS, hk, wc, w2, w3, show (i + 1) * 16 ≤ 140737488355328 by omega, show i ≤ 9223372036854775806 by omega])
        | (with_reducible refine yB_split (by simp [h2, h5, h6, h7, hb2, hb12, hb6, hzT, hlt, hw, hw2, hw3, hS, hk, wc, w2, w3, show (i + 1) * 16 ≤ 140737488355328 by omega, show i ≤ 9223372036854775806 by omega]) (fun hgd => ?_) (fun hgd => ?_) <;> first | (exfalso; simp at hgd; done) | (exfalso; simp at hgd; omega) | (simp [hP, hN, h2, h5, h6, h7, hb2, hb12, hb6, hzT, hlt, hw, hw2, hw3, hS, hk, wc, w2, w3, show (i + 1) * 16 ≤ 140737488355328 by omega, show i ≤ 9223372036854775806 by omega] <;> (try refine ⟨by kernel_rfl, ?_⟩)))
        | (with_reducible refine xC_intro (d50 l _ 5 (by decide) (by omega)) ?_; simp [hP, hN, h2, h5, h6, h7, hb2, hb12, hb6, hzT, hlt, hw, hw2, hw3, hS, hk, wc, w2, w3, show (i + 1) * 16 ≤ 140737488355328 by omega, show i ≤ 9223372036854775806 by omega])
        | (with_reducible refine yC_intro (d50 l _ 5 (by decide) (by omega)) ?_; simp [hP, hN, h2, h5, h6, h7, hb2, hb12, hb6, hzT, hlt, hw, hw2, hw3, hS, hk, wc, w2, w3, show (i + 1) * 16 ≤ 140737488355328 by omega, show i ≤ 9223372036854775806 by omega]; (try refine ⟨by kernel_rfl, ?_⟩))
        | (with_reducible refine xC_intro (d50 l _ 3000 (by decide) (by omega)) ?_; simp [hP, hN, h2, h5, h6, h7, hb2, hb12, hb6, hzT, hlt, hw, hw2, hw3, hS, hk, wc, w2, w3, show (i + 1) * 16 ≤ 140737488355328 by omega, show i ≤ 9223372036854775806 by omega])
        | (with_reducible refine yC_intro (d50 l _ 3000 (by decide) (by omega)) ?_; simp [hP, hN, h2, h5, h6, h7, hb2, hb12, hb6, hzT, hlt, hw, hw2, hw3, hS, hk, wc, w2, w3, show (i + 1) * 16 ≤ 140737488355328 by omega, show i ≤ 9223372036854775806 by omega]; (try refine ⟨by kernel_rfl, ?_⟩))
        | (with_reducible refine xC_intro (d50 l _ 200 (by decide) (by omega)) ?_; simp [hP, hN, h2, h5, h6, h7, hb2, hb12, hb6, hzT, hlt, hw, hw2, hw3, hS, hk, wc, w2, w3, show (i + 1) * 16 ≤ 140737488355328 by omega, show i ≤ 9223372036854775806 by omega])
        | (with_reducible refine yC_intro (d50 l _ 200 (by decide) (by omega)) ?_; simp [hP, hN, h2, h5, h6, h7, hb2, hb12, hb6, hzT, hlt, hw, hw2, hw3, hS, hk, wc, w2, w3, show (i + 1) * 16 ≤ 140737488355328 by omega, show i ≤ 9223372036854775806 by omega]; (try refine ⟨by kernel_rfl, ?_⟩))
        | (with_reducible refine xC_intro (d50 l _ _ hne (by omega)) ?_; simp [hP, hN, h2, h5, h6, h7, hb2, hb12, hb6, hzT, hlt, hw, hw2, hw3, hS, hk, wc, w2, w3, show (i + 1) * 16 ≤ 140737488355328 by omega, show i ≤ 9223372036854775806 by omega])
        | (with_reducible refine yC_intro (d50 l _ _ hne (by omega)) ?_; simp [hP, hN, h2, h5, h6, h7, hb2, hb12, hb6, hzT, hlt, hw, hw2, hw3, hS, hk, wc, w2, w3, show (i + 1) * 16 ≤ 140737488355328 by omega, show i ≤ 9223372036854775806 by omega]; (try refine ⟨by kernel_rfl, ?_⟩))
        | with_reducible refine xTwo_intro ?_ ?_
        | (with_reducible refine WP.cond' ?_; simp [hP, hN, h2, h5, h6, h7, hb2, hb12, hb6, hzT, hlt, hw, hw2, hw3, hS, hk, wc, w2, w3, show (i + 1) * 16 ≤ 140737488355328 by omega, show i ≤ 9223372036854775806 by omega])
        | (with_reducible refine xCond_split (fun hcd => ?_) (fun hcd => ?_) <;> (try (exfalso; clear hP hN; simp_all; done)) <;> (try (exfalso; simp at *; omega)))
        | with_reducible refine WP.block ?_
        | (with_reducible refine WP.skip ?_; simp [h2, h5, h6, h7, hb2, hb12, hb6, hzT, hlt, hw, hw2, hw3, hS, hk, wc, w2, w3, show (i + 1) * 16 ≤ 140737488355328 by omega, show i ≤ 9223372036854775806 by omega])
        | (with_reducible refine WP.exit ?_; simp [h2, h5, h6, h7, hb2, hb12, hb6, hzT, hlt, hw, hw2, hw3, hS, hk, wc, w2, w3, show (i + 1) * 16 ≤ 140737488355328 by omega, show i ≤ 9223372036854775806 by omega])
        | (with_reducible refine WP.ret ?_; simp [h2, h5, h6, h7, hb2, hb12, hb6, hzT, hlt, hw, hw2, hw3, hS, hk, wc, w2, w3, show (i + 1) * 16 ≤ 140737488355328 by omega, show i ≤ 9223372036854775806 by omega]))
      all_goals (rw [← hs]; simp [bN, hc, hk, bVal, bX, bW])
    · skip
      repeat' (first
        | with_reducible refine WP.seq ?_
        | (with_reducible refine WP.region (hn := []) ?_; simp [hP, hN, h2, h5, h6, h7, hb2, hb12, hb6, hzT, hlt, hw, hw2, hw3, hS, hk, wc, w2, w3, show (i + 1) * 16 ≤ 140737488355328 by omega, show i ≤ 9223372036854775806 by omega])
        | (with_reducible refine WP.draw (hn := []) (by rw [hP]; kernel_rfl) (by kernel_rfl) ?_; simp [hP, hN, h2, h5, h6, h7, hb2, hb12, hb6, hzT, hlt, hw, hw2, hw3, hS, hk, wc, w2, w3, show (i + 1) * 16 ≤ 140737488355328 by omega, show i ≤ 9223372036854775806 by omega]; (try refine ⟨by kernel_rfl, ?_⟩))
        | (with_reducible refine xB_split (by simp [h2, h5, h6, h7, hb2, hb12, hb6, hzT, hlt, hw, hw2, hw3, hS, hk, wc, w2, w3, show (i + 1) * 16 ≤ 140737488355328 by omega, show i ≤ 9223372036854775806 by omega]) (fun hgd => ?_) (fun hgd => ?_) <;> first | (exfalso; simp at hgd; done) | (exfalso; simp at hgd; omega) | simp [hP, hN, h2, h5, h6, h7, hb2, hb12, hb6, hzT, hlt, hw, hw2, hw3, hS, hk, wc, w2, w3, show (i + 1) * 16 ≤ 140737488355328 by omega, show i ≤ 9223372036854775806 by omega])
        | (with_reducible refine yB_split (by simp [h2, h5, h6, h7, hb2, hb12, hb6, hzT, hlt, hw, hw2, hw3, hS, hk, wc, w2, w3, show (i + 1) * 16 ≤ 140737488355328 by omega, show i ≤ 9223372036854775806 by omega]) (fun hgd => ?_) (fun hgd => ?_) <;> first | (exfalso; simp at hgd; done) | (exfalso; simp at hgd; omega) | (simp [hP, hN, h2, h5, h6, h7, hb2, hb12, hb6, hzT, hlt, hw, hw2, hw3, hS, hk, wc, w2, w3, show (i + 1) * 16 ≤ 140737488355328 by omega, show i ≤ 9223372036854775806 by omega] <;> (try refine ⟨by kernel_rfl, ?_⟩)))
        | (with_reducible refine xC_intro (d50 l _ 5 (by decide) (by omega)) ?_; simp [hP, hN, h2, h5, h6, h7, hb2, hb12, hb6, hzT, hlt, hw, hw2, hw3, hS, hk, wc, w2, w3, show (i + 1) * 16 ≤ 140737488355328 by omega, show i ≤ 9223372036854775806 by omega])
        | (with_reducible refine yC_intro (d50 l _ 5 (by decide) (by omega)) ?_; simp [hP, hN, h2, h5, h6, h7, hb2, hb12, hb6, hzT, hlt, hw, hw2, hw3, hS, hk, wc, w2, w3, show (i + 1) * 16 ≤ 140737488355328 by omega, show i ≤ 9223372036854775806 by omega]; (try refine ⟨by kernel_rfl, ?_⟩))
        | (with_reducible refine xC_intro (d50 l _ 3000 (by decide) (by omega)) ?_; simp [hP, hN, h2, h5, h6, h7, hb2, hb12, hb6, hzT, hlt, hw, hw2, hw3, hS, hk, wc, w2, w3, show (i + 1) * 16 ≤ 140737488355328 by omega, show i ≤ 9223372036854775806 by omega])
        | (with_reducible refine yC_intro (d50 l _ 3000 (by decide) (by omega)) ?_; simp [hP, hN, h2, h5, h6, h7, hb2, hb12, hb6, hzT, hlt, hw, hw2, hw3, hS, hk, wc, w2, w3, show (i + 1) * 16 ≤ 140737488355328 by omega, show i ≤ 9223372036854775806 by omega]; (try refine ⟨by kernel_rfl, ?_⟩))
        | (with_reducible refine xC_intro (d50 l _ 200 (by decide) (by omega)) ?_; simp [hP, hN, h2, h5, h6, h7, hb2, hb12, hb6, hzT, hlt, hw, hw2, hw3, hS, hk, wc, w2, w3, show (i + 1) * 16 ≤ 140737488355328 by omega, show i ≤ 9223372036854775806 by omega])
        | (with_reducible refine yC_intro (d50 l _ 200 (by decide) (by omega)) ?_; simp [hP, hN, h2, h5, h6, h7, hb2, hb12, hb6, hzT, hlt, hw, hw2, hw3, hS, hk, wc, w2, w3, show (i + 1) * 16 ≤ 140737488355328 by omega, show i ≤ 9223372036854775806 by omega]; (try refine ⟨by kernel_rfl, ?_⟩))
        | (with_reducible refine xC_intro (d50 l _ _ hne (by omega)) ?_; simp [hP, hN, h2, h5, h6, h7, hb2, hb12, hb6, hzT, hlt, hw, hw2, hw3, hS, hk, wc, w2, w3, show (i + 1) * 16 ≤ 140737488355328 by omega, show i ≤ 9223372036854775806 by omega])
        | (with_reducible refine yC_intro (d50 l _ _ hne (by omega)) ?_; simp [hP, hN, h2, h5, h6, h7, hb2, hb12, hb6, hzT, hlt, hw, hw2, hw3, hS, hk, wc, w2, w3, show (i + 1) * 16 ≤ 140737488355328 by omega, show i ≤ 9223372036854775806 by omega]; (try refine ⟨by kernel_rfl, ?_⟩))
        | with_reducible refine xTwo_intro ?_ ?_
        | (with_reducible refine WP.cond' ?_; simp [hP, hN, h2, h5, h6, h7, hb2, hb12, hb6, hzT, hlt, hw, hw2, hw3, hS, hk, wc, w2, w3, show (i + 1) * 16 ≤ 140737488355328 by omega, show i ≤ 9223372036854775806 by omega])
        | (with_reducible refine xCond_split (fun hcd => ?_) (fun hcd => ?_) <;> (try (exfalso; clear hP hN; simp_all; done)) <;> (try (exfalso; simp at *; omega)))
        | with_reducible refine WP.block ?_
        | (with_reducible refine WP.skip ?_; simp [h2, h5, h6, h7, hb2, hb12, hb6, hzT, hlt, hw, hw2, hw3, hS, hk, wc, w2, w3, show (i + 1) * 16 ≤ 140737488355328 by omega, show i ≤ 9223372036854775806 by omega])
        | (with_reducible refine WP.exit ?_; simp [h2, h5, h6, h7, hb2, hb12, hb6, hzT, hlt, hw, hw2, hw3, hS, hk, wc, w2, w3, show (i + 1) * 16 ≤ 140737488355328 by omega, show i ≤ 9223372036854775806 by omega])
        | (with_reducible refine WP.ret ?_; simp [h2, h5, h6, h7, hb2, hb12, hb6, hzT, hlt, hw, hw2, hw3, hS, hk, wc, w2, w3, show (i + 1) * 16 ≤ 140737488355328 by omega, show i ≤ 9223372036854775806 by omega]))
      all_goals (rw [← hs]; simp [bN, hc, hk, bVal, bX, bW])
    · skip
      repeat' (first
        | with_reducible refine WP.seq ?_
        | (with_reducible refine WP.region (hn := []) ?_; simp [hP, hN, h2, h5, h6, h7, hb2, hb12, hb6, hzT, hlt, hw, hw2, hw3, hS, hk, wc, w2, w3, show (i + 1) * 16 ≤ 140737488355328 by omega, show i ≤ 9223372036854775806 by omega])
        | (with_reducible refine WP.draw (hn := []) (by rw [hP]; kernel_rfl) (by kernel_rfl) ?_; simp [hP, hN, h2, h5, h6, h7, hb2, hb12, hb6, hzT, hlt, hw, hw2, hw3, hS, hk, wc, w2, w3, show (i + 1) * 16 ≤ 140737488355328 by omega, show i ≤ 9223372036854775806 by omega]; (try refine ⟨by kernel_rfl, ?_⟩))
        | (with_reducible refine xB_split (by simp [h2, h5, h6, h7, hb2, hb12, hb6, hzT, hlt, hw, hw2, hw3, hS, hk, wc, w2, w3, show (i + 1) * 16 ≤ 140737488355328 by omega, show i ≤ 9223372036854775806 by omega]) (fun hgd => ?_) (fun hgd => ?_) <;> first | (exfalso; simp at hgd; done) | (exfalso; simp at hgd; omega) | simp [hP, hN, h2, h5, h6, h7, hb2, hb12, hb6, hzT, hlt, hw, hw2, hw3, hS, hk, wc, w2, w3, show (i + 1) * 16 ≤ 140737488355328 by omega, show i ≤ 9223372036854775806 by omega])
        | (with_reducible refine yB_split (by simp [h2, h5, h6, h7, hb2, hb12, hb6, hzT, hlt, hw, hw2, hw3, hS, hk, wc, w2, w3, show (i + 1) * 16 ≤ 140737488355328 by omega, show i ≤ 9223372036854775806 by omega]) (fun hgd => ?_) (fun hgd => ?_) <;> first | (exfalso; simp at hgd; done) | (exfalso; simp at hgd; omega) | (simp [hP, hN, h2, h5, h6, h7, hb2, hb12, hb6, hzT, hlt, hw, hw2, hw3, hS, hk, wc, w2, w3, show (i + 1) * 16 ≤ 140737488355328 by omega, show i ≤ 9223372036854775806 by omega] <;> (try refine ⟨by kernel_rfl, ?_⟩)))
        | (with_reducible refine xC_intro (d50 l _ 5 (by decide) (by omega)) ?_; simp [hP, hN, h2, h5, h6, h7, hb2, hb12, hb6, hzT, hlt, hw, hw2, hw3, hS, hk, wc, w2, w3, show (i + 1) * 16 ≤ 140737488355328 by omega, show i ≤ 9223372036854775806 by omega])
        | (with_reducible refine yC_intro (d50 l _ 5 (by decide) (by omega)) ?_; simp [hP, hN, h2, h5, h6, h7, hb2, hb12, hb6, hzT, hlt, hw, hw2, hw3, hS, hk, wc, w2, w3, show (i + 1) * 16 ≤ 140737488355328 by omega, show i ≤ 9223372036854775806 by omega]; (try refine ⟨by kernel_rfl, ?_⟩))
        | (with_reducible refine xC_intro (d50 l _ 3000 (by decide) (by omega)) ?_; simp [hP, hN, h2, h5, h6, h7, hb2, hb12, hb6, hzT, hlt, hw, hw2, hw3, hS, hk, wc, w2, w3, show (i + 1) * 16 ≤ 140737488355328 by omega, show i ≤ 9223372036854775806 by omega])
        | (with_reducible refine yC_intro (d50 l _ 3000 (by decide) (by omega)) ?_; simp [hP, hN, h2, h5, h6, h7, hb2, hb12, hb6, hzT, hlt, hw, hw2, hw3, hS, hk, wc, w2, w3, show (i + 1) * 16 ≤ 140737488355328 by omega, show i ≤ 9223372036854775806 by omega]; (try refine ⟨by kernel_rfl, ?_⟩))
        | (with_reducible refine xC_intro (d50 l _ 200 (by decide) (by omega)) ?_; simp [hP, hN, h2, h5, h6, h7, hb2, hb12, hb6, hzT, hlt, hw, hw2, hw3, hS, hk, wc, w2, w3, show (i + 1) * 16 ≤ 140737488355328 by omega, show i ≤ 9223372036854775806 by omega])
        | (with_reducible refine yC_intro (d50 l _ 200 (by decide) (by omega)) ?_; simp [hP, hN, h2, h5, h6, h7, hb2, hb12, hb6, hzT, hlt, hw, hw2, hw3, hS, hk, wc, w2, w3, show (i + 1) * 16 ≤ 140737488355328 by omega, show i ≤ 9223372036854775806 by omega]; (try refine ⟨by kernel_rfl, ?_⟩))
        | (with_reducible refine xC_intro (d50 l _ _ hne (by omega)) ?_; simp [hP, hN, h2, h5, h6, h7, hb2, hb12, hb6, hzT, hlt, hw, hw2, hw3, hS, hk, wc, w2, w3, show (i + 1) * 16 ≤ 140737488355328 by omega, show i ≤ 9223372036854775806 by omega])
        | (with_reducible refine yC_intro (d50 l _ _ hne (by omega)) ?_; simp [hP, hN, h2, h5, h6, h7, hb2, hb12, hb6, hzT, hlt, hw, hw2, hw3, hS, hk, wc, w2, w3, show (i + 1) * 16 ≤ 140737488355328 by omega, show i ≤ 9223372036854775806 by omega]; (try refine ⟨by kernel_rfl, ?_⟩))
        | with_reducible refine xTwo_intro ?_ ?_
        | (with_reducible refine WP.cond' ?_; simp [hP, hN, h2, h5, h6, h7, hb2, hb12, hb6, hzT, hlt, hw, hw2, hw3, hS, hk, wc, w2, w3, show (i + 1) * 16 ≤ 140737488355328 by omega, show i ≤ 9223372036854775806 by omega])
        | (with_reducible refine xCond_split (fun hcd => ?_) (fun hcd => ?_) <;> (try (exfalso; clear hP hN; simp_all; done)) <;> (try (exfalso; simp at *; omega)))
        | with_reducible refine WP.block ?_
        | (with_reducible refine WP.skip ?_; simp [h2, h5, h6, h7, hb2, hb12, hb6, hzT, hlt, hw, hw2, hw3, hS, hk, wc, w2, w3, show (i + 1) * 16 ≤ 140737488355328 by omega, show i ≤ 9223372036854775806 by omega])
        | (with_reducible refine WP.exit ?_; simp [h2, h5, h6, h7, hb2, hb12, hb6, hzT, hlt, hw, hw2, hw3, hS, hk, wc, w2, w3, show (i + 1) * 16 ≤ 140737488355328 by omega, show i ≤ 9223372036854775806 by omega])
        | (with_reducible refine WP.ret ?_; simp [h2, h5, h6, h7, hb2, hb12, hb6, hzT, hlt, hw, hw2, hw3, hS, hk, wc, w2, w3, show (i + 1) * 16 ≤ 140737488355328 by omega, show i ≤ 9223372036854775806 by omega]))
      all_goals (rw [← hs]; simp [bN, hc, hk, bVal, bX, bW])
  · skip
    repeat' (first
      | with_reducible refine WP.seq ?_
      | (with_reducible refine WP.region (hn := []) ?_; simp [hP, hN, h2, h5, h6, h7, hb2, hb12, hb6, hzT, hlt])
      | (with_reducible refine WP.draw (hn := []) (by rw [hP]; kernel_rfl) (by kernel_rfl) ?_; simp [hP, hN, h2, h5, h6, h7, hb2, hb12, hb6, hzT, hlt]; (try refine ⟨by kernel_rfl, ?_⟩))
      | (with_reducible refine xB_split (by simp [h2, h5, h6, h7, hb2, hb12, hb6, hzT, hlt]) (fun hgd => ?_) (fun hgd => ?_) <;> first | (exfalso; simp at hgd; done) | (exfalso; simp at hgd; omega) | simp [hP, hN, h2, h5, h6, h7, hb2, hb12, hb6, hzT, hlt])
      | (with_reducible refine yB_split (by simp [h2, h5, h6, h7, hb2, hb12, hb6, hzT, hlt]) (fun hgd => ?_) (fun hgd => ?_) <;> first | (exfalso; simp at hgd; done) | (exfalso; simp at hgd; omega) | (simp [hP, hN, h2, h5, h6, h7, hb2, hb12, hb6, hzT, hlt] <;> (try refine ⟨by kernel_rfl, ?_⟩)))
      | with_reducible refine xTwo_intro ?_ ?_
      | (with_reducible refine WP.cond' ?_; simp [hP, hN, h2, h5, h6, h7, hb2, hb12, hb6, hzT, hlt])
      | (with_reducible refine xCond_split (fun hcd => ?_) (fun hcd => ?_) <;> (try (exfalso; clear hP hN; simp_all; done)) <;> (try (exfalso; simp at *; omega)))
      | with_reducible refine WP.block ?_
      | (with_reducible refine WP.skip ?_; simp [h2, h5, h6, h7, hb2, hb12, hb6, hzT, hlt])
      | (with_reducible refine WP.exit ?_; simp [h2, h5, h6, h7, hb2, hb12, hb6, hzT, hlt])
      | (with_reducible refine WP.ret ?_; simp [h2, h5, h6, h7, hb2, hb12, hb6, hzT, hlt]))
    have hlast : i = js.length := by omega
    subst hlast
    have ht : List.take js.length ((mkBoxL l js).map encI) = (mkBoxL l js).map encI := List.take_of_length_le (by simp [mkBoxL])
    exact ⟨6, ⟨rfl, by simp [mkBoxL]⟩, by rw [hb6, ht]⟩
theorem d27 (l : List Int) (js : List J) (ms : List Ms) (hl : js.length ≤ 1000) (hj : ∀ j ∈ js, jOk j) : DetH Try.prog 27 [.pv (encR js ms), .pv (zs l)] [] [] (.pv (iv (mkBoxL l js))) := detRow_pv (r27 l js ms hl hj)
theorem bit1 (a : Int) : bitI .and .i64 a 1 = a % 2 := by
  unfold bitI
  have h1 : (BitVec.ofInt 64 a &&& BitVec.ofInt 64 1).toNat = (a % 2).toNat := by
    rw [BitVec.toNat_and, BitVec.toNat_ofInt, BitVec.toNat_ofInt]
    have e1 : ((1 : Int) % ((2 ^ 64 : Nat) : Int)).toNat = 1 := by decide
    rw [e1, Nat.and_one_is_mod]
    have h0 : 0 ≤ a % ((2 ^ 64 : Nat) : Int) := Int.emod_nonneg _ (by decide)
    have h2 : (a % ((2 ^ 64 : Nat) : Int)) % 2 = a % 2 := Int.emod_emod_of_dvd a (by decide)
    omega
  show IntKind.i64.wrap ((BitVec.ofInt 64 a &&& BitVec.ofInt 64 1).toNat : Int) = _
  rw [h1, IntKind.wrap_i64]
  have := Int.emod_nonneg a (b := 2) (by decide)
  have := Int.emod_lt_of_pos a (b := 2) (by decide)
  omega
def partI (a : Int × Int) (m n : Int) : Int × Int :=
  let w := a.2 - a.1 + 1; let x := a.1 + roundI m w
  if n % 2 = 0 then (x, x) else let y := a.1 + roundI (n / 2) w; (min x y, max x y)
theorem d67 (a : Int × Int) (m n : Int) (h1 : -2147483648 ≤ a.1) (h2 : a.1 ≤ a.2) (h3 : a.2 ≤ 2147483648) : DetH Try.prog 67 [.pv (encI a), .pv (Z m), .pv (Z n)] [] [] (.pv (encI (partI a m n))) := by
  have hw1 : IntKind.i64.wrap (a.2 - a.1) = a.2 - a.1 := wr_id (by omega) (by omega)
  have hw2 : IntKind.i64.wrap (a.2 - a.1 + 1) = a.2 - a.1 + 1 := wr_id (by omega) (by omega)
  have r1 := round_range m (k := a.2 - a.1 + 1) (by omega) (by omega)
  have r2 := round_range (n / 2) (k := a.2 - a.1 + 1) (by omega) (by omega)
  have hw3 : IntKind.i64.wrap (roundI m (a.2 - a.1 + 1)) = roundI m (a.2 - a.1 + 1) := wr_id (by omega) (by omega)
  have hw4 : IntKind.i64.wrap (roundI (n / 2) (a.2 - a.1 + 1)) = roundI (n / 2) (a.2 - a.1 + 1) := wr_id (by omega) (by omega)
  have hw5 : IntKind.i64.wrap (a.1 + roundI m (a.2 - a.1 + 1)) = a.1 + roundI m (a.2 - a.1 + 1) := wr_id (by omega) (by omega)
  have hw6 : IntKind.i64.wrap (a.1 + roundI (n / 2) (a.2 - a.1 + 1)) = a.1 + roundI (n / 2) (a.2 - a.1 + 1) := wr_id (by omega) (by omega)
  have hne : a.2 - a.1 + 1 ≠ 0 := by omega
  have hf : n.fdiv (2 ^ min 1 IntKind.i64.bits) = n / 2 := Int.fdiv_eq_ediv_of_nonneg n (by decide)
  refine detP_of Try.func67 rfl (by kernel_rfl) (by simp [Try.f67]) rfl ?_
  intro C hP hN
  simp only [Try.f67] at hN ⊢
  by_cases hn : n % 2 = 0
  · skip
    repeat' (first
      | with_reducible refine WP.seq ?_
      | (with_reducible refine WP.region (hn := []) ?_; simp [hP, hN, hw1, hw2, hw3, hw4, hw5, hw6, bit1, hn, hf])
      | (with_reducible refine WP.draw (hn := []) (by rw [hP]; kernel_rfl) (by kernel_rfl) ?_; simp [hP, hN, hw1, hw2, hw3, hw4, hw5, hw6, bit1, hn, hf]; (try refine ⟨by kernel_rfl, ?_⟩))
      | (with_reducible refine xB_split (by simp [hw1, hw2, hw3, hw4, hw5, hw6, bit1, hn, hf]) (fun hgd => ?_) (fun hgd => ?_) <;> first | (exfalso; simp at hgd; done) | (exfalso; simp at hgd; omega) | simp [hP, hN, hw1, hw2, hw3, hw4, hw5, hw6, bit1, hn, hf])
      | (with_reducible refine yB_split (by simp [hw1, hw2, hw3, hw4, hw5, hw6, bit1, hn, hf]) (fun hgd => ?_) (fun hgd => ?_) <;> first | (exfalso; simp at hgd; done) | (exfalso; simp at hgd; omega) | (simp [hP, hN, hw1, hw2, hw3, hw4, hw5, hw6, bit1, hn, hf] <;> (try refine ⟨by kernel_rfl, ?_⟩)))
      | (with_reducible refine xC_intro (d15 _ _ hne) ?_; simp [hP, hN, hw1, hw2, hw3, hw4, hw5, hw6, bit1, hn, hf])
      | (with_reducible refine yC_intro (d15 _ _ hne) ?_; simp [hP, hN, hw1, hw2, hw3, hw4, hw5, hw6, bit1, hn, hf]; (try refine ⟨by kernel_rfl, ?_⟩))
      | with_reducible refine xTwo_intro ?_ ?_
      | (with_reducible refine WP.cond' ?_; simp [hP, hN, hw1, hw2, hw3, hw4, hw5, hw6, bit1, hn, hf])
      | (with_reducible refine xCond_split (fun hcd => ?_) (fun hcd => ?_) <;> (try (exfalso; clear hP hN; simp_all; done)) <;> (try (exfalso; simp at *; omega)))
      | with_reducible refine WP.block ?_
      | (with_reducible refine WP.skip ?_; simp [hw1, hw2, hw3, hw4, hw5, hw6, bit1, hn, hf])
      | (with_reducible refine WP.exit ?_; simp [hw1, hw2, hw3, hw4, hw5, hw6, bit1, hn, hf])
      | (with_reducible refine WP.ret ?_; simp [hw1, hw2, hw3, hw4, hw5, hw6, bit1, hn, hf]))
    all_goals simp [partI, hn]
  · skip
    repeat' (first
      | with_reducible refine WP.seq ?_
      | (with_reducible refine WP.region (hn := []) ?_; simp [hP, hN, hw1, hw2, hw3, hw4, hw5, hw6, bit1, hn, hf])
      | (with_reducible refine WP.draw (hn := []) (by rw [hP]; kernel_rfl) (by kernel_rfl) ?_; simp [hP, hN, hw1, hw2, hw3, hw4, hw5, hw6, bit1, hn, hf]; (try refine ⟨by kernel_rfl, ?_⟩))
      | (with_reducible refine xB_split (by simp [hw1, hw2, hw3, hw4, hw5, hw6, bit1, hn, hf]) (fun hgd => ?_) (fun hgd => ?_) <;> first | (exfalso; simp at hgd; done) | (exfalso; simp at hgd; omega) | simp [hP, hN, hw1, hw2, hw3, hw4, hw5, hw6, bit1, hn, hf])
      | (with_reducible refine yB_split (by simp [hw1, hw2, hw3, hw4, hw5, hw6, bit1, hn, hf]) (fun hgd => ?_) (fun hgd => ?_) <;> first | (exfalso; simp at hgd; done) | (exfalso; simp at hgd; omega) | (simp [hP, hN, hw1, hw2, hw3, hw4, hw5, hw6, bit1, hn, hf] <;> (try refine ⟨by kernel_rfl, ?_⟩)))
      | (with_reducible refine xC_intro (d15 _ _ hne) ?_; simp [hP, hN, hw1, hw2, hw3, hw4, hw5, hw6, bit1, hn, hf])
      | (with_reducible refine yC_intro (d15 _ _ hne) ?_; simp [hP, hN, hw1, hw2, hw3, hw4, hw5, hw6, bit1, hn, hf]; (try refine ⟨by kernel_rfl, ?_⟩))
      | with_reducible refine xTwo_intro ?_ ?_
      | (with_reducible refine WP.cond' ?_; simp [hP, hN, hw1, hw2, hw3, hw4, hw5, hw6, bit1, hn, hf])
      | (with_reducible refine xCond_split (fun hcd => ?_) (fun hcd => ?_) <;> (try (exfalso; clear hP hN; simp_all; done)) <;> (try (exfalso; simp at *; omega)))
      | with_reducible refine WP.block ?_
      | (with_reducible refine WP.skip ?_; simp [hw1, hw2, hw3, hw4, hw5, hw6, bit1, hn, hf])
      | (with_reducible refine WP.exit ?_; simp [hw1, hw2, hw3, hw4, hw5, hw6, bit1, hn, hf])
      | (with_reducible refine WP.ret ?_; simp [hw1, hw2, hw3, hw4, hw5, hw6, bit1, hn, hf]))
    all_goals (simp [partI, hn] <;> omega)
def mwSt (l : List Int) : Nat → Nat
  | 0 => 0
  | i + 1 => nn l (nn l (mwSt l i))
theorem mwSt_le (l : List Int) (i : Nat) : mwSt l i ≤ 2 * i := by
  induction i with
  | zero => simp [mwSt]
  | succ i ih =>
    have l1 := nn_le l (mwSt l i)
    have l2 := nn_le l (nn l (mwSt l i))
    simp only [mwSt]; omega
def mkWithinL (xs : List (Int × Int)) (l : List Int) : List (Int × Int) := xs.mapIdx fun i x => partI x (nx l (mwSt l i) 1073741824) (nx l (nn l (mwSt l i)) 1073741824)
theorem mkWithin_step {l : List Int} {xs : List (Int × Int)} {i : Nat} (hlt : i < xs.length) : ((mkWithinL xs l).map encI).take i ++ [encI (partI xs[i] (nx l (mwSt l i) 1073741824) (nx l (nn l (mwSt l i)) 1073741824))] = ((mkWithinL xs l).map encI).take (i + 1) := by
  rw [List.take_succ_eq_append_getElem (by simpa [mkWithinL] using hlt)]; simp [mkWithinL]
set_option maxHeartbeats 4000000 in
theorem d33 (xs : List (Int × Int)) (l : List Int) (hl : xs.length ≤ 1000) (hv : ∀ x ∈ xs, validB x.1 x.2 = true) : DetH Try.prog 33 [.pv (iv xs), .pv (zs l)] [] [] (.pv (iv (mkWithinL xs l))) := by
  refine detP_of Try.func33 rfl (by kernel_rfl) (by simp [Try.f33]) rfl ?_
  intro C hP hN
  simp only [Try.f33] at hN ⊢
  repeat' (first
    | with_reducible refine WP.seq ?_
    | (with_reducible refine WP.region (hn := [6]) ?_; simp [hP, hN, srcP])
    | (with_reducible refine WP.draw (hn := [6]) (by rw [hP]; kernel_rfl) (by kernel_rfl) ?_; simp [hP, hN, srcP]; (try refine ⟨by kernel_rfl, ?_⟩))
    | (with_reducible refine xB_split (by simp [srcP]) (fun hgd => ?_) (fun hgd => ?_) <;> first | (exfalso; simp at hgd; done) | (exfalso; simp at hgd; omega) | simp [hP, hN, srcP])
    | (with_reducible refine yB_split (by simp [srcP]) (fun hgd => ?_) (fun hgd => ?_) <;> first | (exfalso; simp at hgd; done) | (exfalso; simp at hgd; omega) | (simp [hP, hN, srcP] <;> (try refine ⟨by kernel_rfl, ?_⟩)))
    | (with_reducible refine xC_intro (d49 _) ?_; simp [hP, hN, srcP])
    | (with_reducible refine yC_intro (d49 _) ?_; simp [hP, hN, srcP]; (try refine ⟨by kernel_rfl, ?_⟩))
    | with_reducible refine xTwo_intro ?_ ?_
    | (with_reducible refine WP.cond' ?_; simp [hP, hN, srcP])
    | (with_reducible refine xCond_split (fun hcd => ?_) (fun hcd => ?_) <;> (try (exfalso; clear hP hN; simp_all; done)) <;> (try (exfalso; simp at *; omega)))
    | with_reducible refine WP.block ?_
    | (with_reducible refine WP.skip ?_; simp [srcP])
    | (with_reducible refine WP.exit ?_; simp [srcP])
    | (with_reducible refine WP.ret ?_; simp [srcP]))
  refine WP.loopN [] xs.length (fun i st => st.t 0 = .pv (iv xs) ∧ st.t 5 = .ptr 9 0 ∧ st.t 6 = .arr 6 i ∧ st.t 7 = .pv (Z i) ∧
    st.h 9 = some (.box [.pv (zs l), .pv (Z (mwSt l i))] true false) ∧ st.h 6 = some (.row 37 2 (((mkWithinL xs l).map encI).take i) 0)) (by simp [mwSt]) ?_
  rintro i st hi ⟨h0, h5, h6, h7, hb9, hb6⟩
  have hzT : min i (mkWithinL xs l).length = i := by simp [mkWithinL]; omega
  by_cases hlt : i < xs.length
  · have hw : IntKind.i64.wrap ((i : Int) + 1) = (i : Int) + 1 := by rw [IntKind.wrap_i64]; omega
    have hm := mwSt_le l i
    have l1 := nn_le l (mwSt l i)
    have hs := mkWithin_step (l := l) hlt
    have hok := hv xs[i] (List.getElem_mem hlt)
    simp only [validB, Bool.and_eq_true, decide_eq_true_eq] at hok
    have hS : mwSt l (i + 1) = nn l (nn l (mwSt l i)) := rfl
    repeat' (first
      | with_reducible refine WP.seq ?_
      | (with_reducible refine WP.region (hn := []) ?_; simp [hP, hN, h0, h5, h6, h7, hb9, hb6, hzT, hlt, hw, hS, show (i + 1) * 16 ≤ 140737488355328 by omega, show i ≤ 9223372036854775806 by omega])
      | (with_reducible refine WP.draw (hn := []) (by rw [hP]; kernel_rfl) (by kernel_rfl) ?_; simp [hP, hN, h0, h5, h6, h7, hb9, hb6, hzT, hlt, hw, hS, show (i + 1) * 16 ≤ 140737488355328 by omega, show i ≤ 9223372036854775806 by omega]; (try refine ⟨by kernel_rfl, ?_⟩))
      | (with_reducible refine xB_split (by simp [h0, h5, h6, h7, hb9, hb6, hzT, hlt, hw, hS, show (i + 1) * 16 ≤ 140737488355328 by omega, show i ≤ 9223372036854775806 by omega]) (fun hgd => ?_) (fun hgd => ?_) <;> first | (exfalso; simp at hgd; done) | (exfalso; simp at hgd; omega) | simp [hP, hN, h0, h5, h6, h7, hb9, hb6, hzT, hlt, hw, hS, show (i + 1) * 16 ≤ 140737488355328 by omega, show i ≤ 9223372036854775806 by omega])
      | (with_reducible refine yB_split (by simp [h0, h5, h6, h7, hb9, hb6, hzT, hlt, hw, hS, show (i + 1) * 16 ≤ 140737488355328 by omega, show i ≤ 9223372036854775806 by omega]) (fun hgd => ?_) (fun hgd => ?_) <;> first | (exfalso; simp at hgd; done) | (exfalso; simp at hgd; omega) | (simp [hP, hN, h0, h5, h6, h7, hb9, hb6, hzT, hlt, hw, hS, show (i + 1) * 16 ≤ 140737488355328 by omega, show i ≤ 9223372036854775806 by omega] <;> (try refine ⟨by kernel_rfl, ?_⟩)))
      | (with_reducible refine xC_intro (d50 l _ 1073741824 (by decide) (by omega)) ?_; simp [hP, hN, h0, h5, h6, h7, hb9, hb6, hzT, hlt, hw, hS, show (i + 1) * 16 ≤ 140737488355328 by omega, show i ≤ 9223372036854775806 by omega])
      | (with_reducible refine yC_intro (d50 l _ 1073741824 (by decide) (by omega)) ?_; simp [hP, hN, h0, h5, h6, h7, hb9, hb6, hzT, hlt, hw, hS, show (i + 1) * 16 ≤ 140737488355328 by omega, show i ≤ 9223372036854775806 by omega]; (try refine ⟨by kernel_rfl, ?_⟩))
      | (with_reducible refine xC_intro (d67 _ _ _ hok.1.1 hok.1.2 hok.2) ?_; simp [hP, hN, h0, h5, h6, h7, hb9, hb6, hzT, hlt, hw, hS, show (i + 1) * 16 ≤ 140737488355328 by omega, show i ≤ 9223372036854775806 by omega])
      | (with_reducible refine yC_intro (d67 _ _ _ hok.1.1 hok.1.2 hok.2) ?_; simp [hP, hN, h0, h5, h6, h7, hb9, hb6, hzT, hlt, hw, hS, show (i + 1) * 16 ≤ 140737488355328 by omega, show i ≤ 9223372036854775806 by omega]; (try refine ⟨by kernel_rfl, ?_⟩))
      | with_reducible refine xTwo_intro ?_ ?_
      | (with_reducible refine WP.cond' ?_; simp [hP, hN, h0, h5, h6, h7, hb9, hb6, hzT, hlt, hw, hS, show (i + 1) * 16 ≤ 140737488355328 by omega, show i ≤ 9223372036854775806 by omega])
      | (with_reducible refine xCond_split (fun hcd => ?_) (fun hcd => ?_) <;> (try (exfalso; clear hP hN; simp_all; done)) <;> (try (exfalso; simp at *; omega)))
      | with_reducible refine WP.block ?_
      | (with_reducible refine WP.skip ?_; simp [h0, h5, h6, h7, hb9, hb6, hzT, hlt, hw, hS, show (i + 1) * 16 ≤ 140737488355328 by omega, show i ≤ 9223372036854775806 by omega])
      | (with_reducible refine WP.exit ?_; simp [h0, h5, h6, h7, hb9, hb6, hzT, hlt, hw, hS, show (i + 1) * 16 ≤ 140737488355328 by omega, show i ≤ 9223372036854775806 by omega])
      | (with_reducible refine WP.ret ?_; simp [h0, h5, h6, h7, hb9, hb6, hzT, hlt, hw, hS, show (i + 1) * 16 ≤ 140737488355328 by omega, show i ≤ 9223372036854775806 by omega]))
    all_goals (rw [← hs])
  · skip
    repeat' (first
      | with_reducible refine WP.seq ?_
      | (with_reducible refine WP.region (hn := []) ?_; simp [hP, hN, h0, h5, h6, h7, hb9, hb6, hzT, hlt])
      | (with_reducible refine WP.draw (hn := []) (by rw [hP]; kernel_rfl) (by kernel_rfl) ?_; simp [hP, hN, h0, h5, h6, h7, hb9, hb6, hzT, hlt]; (try refine ⟨by kernel_rfl, ?_⟩))
      | (with_reducible refine xB_split (by simp [h0, h5, h6, h7, hb9, hb6, hzT, hlt]) (fun hgd => ?_) (fun hgd => ?_) <;> first | (exfalso; simp at hgd; done) | (exfalso; simp at hgd; omega) | simp [hP, hN, h0, h5, h6, h7, hb9, hb6, hzT, hlt])
      | (with_reducible refine yB_split (by simp [h0, h5, h6, h7, hb9, hb6, hzT, hlt]) (fun hgd => ?_) (fun hgd => ?_) <;> first | (exfalso; simp at hgd; done) | (exfalso; simp at hgd; omega) | (simp [hP, hN, h0, h5, h6, h7, hb9, hb6, hzT, hlt] <;> (try refine ⟨by kernel_rfl, ?_⟩)))
      | with_reducible refine xTwo_intro ?_ ?_
      | (with_reducible refine WP.cond' ?_; simp [hP, hN, h0, h5, h6, h7, hb9, hb6, hzT, hlt])
      | (with_reducible refine xCond_split (fun hcd => ?_) (fun hcd => ?_) <;> (try (exfalso; clear hP hN; simp_all; done)) <;> (try (exfalso; simp at *; omega)))
      | with_reducible refine WP.block ?_
      | (with_reducible refine WP.skip ?_; simp [h0, h5, h6, h7, hb9, hb6, hzT, hlt])
      | (with_reducible refine WP.exit ?_; simp [h0, h5, h6, h7, hb9, hb6, hzT, hlt])
      | (with_reducible refine WP.ret ?_; simp [h0, h5, h6, h7, hb9, hb6, hzT, hlt]))
    exact take_done (by simp [mkWithinL]) hlt
end Go.Ab
