/- Contracts: configurations, motions. -/
import Derived.Test.YtgamhginhckcpaaCf9
set_option linter.all false
namespace Go.Ab
open Go.Proofs
theorem nn_le' (l : List Int) (n : Nat) : nn l n ≤ n + 1 := nn_le l n
def cNext (l : List Int) (m : Nat) : Nat := if nx l m 6 = 0 then nn l m else if nx l m 6 = 1 then nn l m else nn l (nn l m)
def cSt (l : List Int) : Nat → Nat
  | 0 => 0
  | i + 1 => cNext l (cSt l i)
theorem cSt_le (l : List Int) (i : Nat) : cSt l i ≤ 2 * i := by
  induction i with
  | zero => simp [cSt]
  | succ i ih =>
    have l1 := nn_le l (cSt l i)
    have l2 := nn_le l (nn l (cSt l i))
    simp only [cSt, cNext]; split
    · omega
    · split <;> omega
def cVal (l : List Int) (m : Nat) (lo hi : Int) : Int := if nx l m 6 = 0 then lo else if nx l m 6 = 1 then hi else wr (lo + nx l (nn l m) (hi - lo + 1))
def cfgL (l : List Int) (js : List J) : List Int := js.mapIdx fun i j => cVal l (cSt l i) j.lo j.hi
def jOk (j : J) : Prop := -1000000 ≤ j.lo ∧ j.lo ≤ j.hi ∧ j.hi ≤ 1000000
theorem cfg_step {l : List Int} {js : List J} {i : Nat} (hlt : i < js.length) : ((cfgL l js).map Z).take i ++ [Z (cVal l (cSt l i) js[i].lo js[i].hi)] = ((cfgL l js).map Z).take (i + 1) := by
  rw [List.take_succ_eq_append_getElem (by simpa [cfgL] using hlt)]; simp [cfgL]
set_option maxHeartbeats 4000000 in
theorem d22 (l : List Int) (js : List J) (ms : List Ms) (hl : js.length ≤ 1000) (hj : ∀ j ∈ js, jOk j) : DetH Try.prog 22 [.pv (encR js ms), .pv (zs l)] [] [] (.pv (zs (cfgL l js))) := by
  refine detP_of Try.func22 rfl (by kernel_rfl) (by simp [Try.f22]) rfl ?_
  intro C hP hN
  simp only [Try.f22] at hN ⊢
  repeat' (first
    | with_reducible refine WP.seq ?_
    | (with_reducible refine WP.region (hn := [6]) ?_; simp [hP, hN, srcP])
    | (with_reducible refine WP.draw (hn := [6]) (by rw [hP]; kernel_rfl) (by kernel_rfl) ?_; simp [hP, hN, srcP]; (try refine ⟨by kernel_rfl, ?_⟩))
    | (with_reducible refine xB_split (by simp [srcP]) (fun hgd => ?_) (fun hgd => ?_) <;> first | (exfalso; simp at hgd; done) | (exfalso; simp at hgd; omega) | simp [hP, hN, srcP])
    | (with_reducible refine yB_split (by simp [srcP]) (fun hgd => ?_) (fun hgd => ?_) <;> first | (exfalso; simp at hgd; done) | (exfalso; simp at hgd; omega) | (simp [hP, hN, srcP] <;> (try refine ⟨by kernel_rfl, ?_⟩)))
    | (with_reducible refine xC_intro (d49 _) ?_; simp [hP, hN, srcP])
    | (with_reducible refine yC_intro (d49 _) ?_; simp [hP, hN, srcP]; (try refine ⟨by kernel_rfl, ?_⟩))
    | with_reducible refine xTwo_intro ?_ ?_
    | (with_reducible refine WP.cond' ?_; simp [hP, hN, srcP])
    | (with_reducible refine xCond_split (fun hcd => ?_) (fun hcd => ?_) <;> (try (exfalso; clear hP hN; simp_all; done)) <;> (try (exfalso; simp at *; omega)))
    | with_reducible refine WP.block ?_
    | (with_reducible refine WP.skip ?_; simp [srcP])
    | (with_reducible refine WP.exit ?_; simp [srcP])
    | (with_reducible refine WP.ret ?_; simp [srcP]))
  refine WP.loopN [] js.length (fun i st => st.t 2 = .ptr 2 0 ∧ st.t 5 = .ptr 11 0 ∧ st.t 6 = .arr 6 i ∧ st.t 7 = .pv (Z i) ∧ st.h 2 = some (.box [.pv (.sl (js.map encJ)), .pv (.sl (ms.map encM))] true false) ∧
    st.h 11 = some (.box [.pv (zs l), .pv (Z (cSt l i))] true false) ∧ st.h 6 = some (.row 2 1 (((cfgL l js).map Z).take i) 0)) (by simp [cSt]) ?_
  rintro i st hi ⟨h2, h5, h6, h7, hb2, hb11, hb6⟩
  have hzT : min i (cfgL l js).length = i := by simp [cfgL]; omega
  by_cases hlt : i < js.length
  · have hw : IntKind.i64.wrap ((i : Int) + 1) = (i : Int) + 1 := by rw [IntKind.wrap_i64]; omega
    have hm := cSt_le l i
    have l1 := nn_le l (cSt l i)
    have hs := cfg_step (l := l) hlt
    have hok := hj js[i] (List.getElem_mem hlt)
    have hw2 : IntKind.i64.wrap (js[i].hi - js[i].lo) = js[i].hi - js[i].lo := by unfold jOk at hok; rw [IntKind.wrap_i64]; omega
    have hw3 : IntKind.i64.wrap (js[i].hi - js[i].lo + 1) = js[i].hi - js[i].lo + 1 := by unfold jOk at hok; rw [IntKind.wrap_i64]; omega
    have hS : cSt l (i + 1) = cNext l (cSt l i) := rfl
    have hne : js[i].hi - js[i].lo + 1 ≠ 0 := by unfold jOk at hok; omega
    repeat' (first
      | with_reducible refine WP.seq ?_
      | (with_reducible refine WP.region (hn := []) ?_; simp [hP, hN, h2, h5, h6, h7, hb2, hb11, hb6, hzT, hlt, hw, hw2, hw3, hS, show (i + 1) * 8 ≤ 140737488355328 by omega, show i ≤ 9223372036854775806 by omega])
      | (with_reducible refine WP.draw (hn := []) (by rw [hP]; kernel_rfl) (by kernel_rfl) ?_; simp [hP, hN, h2, h5, h6, h7, hb2, hb11, hb6, hzT, hlt, hw, hw2, hw3, hS, show (i + 1) * 8 ≤ 140737488355328 by omega, show i ≤ 9223372036854775806 by omega]; (try refine ⟨by kernel_rfl, ?_⟩))
      | (with_reducible refine xB_split (by simp [h2, h5, h6, h7, hb2, hb11, hb6, hzT, hlt, hw, hw2, hw3, hS, show (i + 1) * 8 ≤ 140737488355328 by omega, show i ≤ 9223372036854775806 by omega]) (fun hgd => ?_) (fun hgd => ?_) <;> first | (exfalso; simp at hgd; done) | (exfalso; simp at hgd; omega) | simp [hP, hN, h2, h5, h6, h7, hb2, hb11, hb6, hzT, hlt, hw, hw2, hw3, hS, show (i + 1) * 8 ≤ 140737488355328 by omega, show i ≤ 9223372036854775806 by omega])
      | (with_reducible refine yB_split (by simp [h2, h5, h6, h7, hb2, hb11, hb6, hzT, hlt, hw, hw2, hw3, hS, show (i + 1) * 8 ≤ 140737488355328 by omega, show i ≤ 9223372036854775806 by omega]) (fun hgd => ?_) (fun hgd => ?_) <;> first | (exfalso; simp at hgd; done) | (exfalso; simp at hgd; omega) | (simp [hP, hN, h2, h5, h6, h7, hb2, hb11, hb6, hzT, hlt, hw, hw2, hw3, hS, show (i + 1) * 8 ≤ 140737488355328 by omega, show i ≤ 9223372036854775806 by omega] <;> (try refine ⟨by kernel_rfl, ?_⟩)))
      | (with_reducible refine xC_intro (d50 l _ 6 (by decide) (by omega)) ?_; simp [hP, hN, h2, h5, h6, h7, hb2, hb11, hb6, hzT, hlt, hw, hw2, hw3, hS, show (i + 1) * 8 ≤ 140737488355328 by omega, show i ≤ 9223372036854775806 by omega])
      | (with_reducible refine yC_intro (d50 l _ 6 (by decide) (by omega)) ?_; simp [hP, hN, h2, h5, h6, h7, hb2, hb11, hb6, hzT, hlt, hw, hw2, hw3, hS, show (i + 1) * 8 ≤ 140737488355328 by omega, show i ≤ 9223372036854775806 by omega]; (try refine ⟨by kernel_rfl, ?_⟩))
      | (with_reducible refine xC_intro (d50 l _ _ hne (by omega)) ?_; simp [hP, hN, h2, h5, h6, h7, hb2, hb11, hb6, hzT, hlt, hw, hw2, hw3, hS, show (i + 1) * 8 ≤ 140737488355328 by omega, show i ≤ 9223372036854775806 by omega])
      | (with_reducible refine yC_intro (d50 l _ _ hne (by omega)) ?_; simp [hP, hN, h2, h5, h6, h7, hb2, hb11, hb6, hzT, hlt, hw, hw2, hw3, hS, show (i + 1) * 8 ≤ 140737488355328 by omega, show i ≤ 9223372036854775806 by omega]; (try refine ⟨by kernel_rfl, ?_⟩))
      | with_reducible refine xTwo_intro ?_ ?_
      | (with_reducible refine WP.cond' ?_; simp [hP, hN, h2, h5, h6, h7, hb2, hb11, hb6, hzT, hlt, hw, hw2, hw3, hS, show (i + 1) * 8 ≤ 140737488355328 by omega, show i ≤ 9223372036854775806 by omega])
      | (with_reducible refine xCond_split (fun hcd => ?_) (fun hcd => ?_) <;> (try (exfalso; clear hP hN; simp_all; done)) <;> (try (exfalso; simp at *; omega)))
      | with_reducible refine WP.block ?_
      | (with_reducible refine WP.skip ?_; simp [h2, h5, h6, h7, hb2, hb11, hb6, hzT, hlt, hw, hw2, hw3, hS, show (i + 1) * 8 ≤ 140737488355328 by omega, show i ≤ 9223372036854775806 by omega])
      | (with_reducible refine WP.exit ?_; simp [h2, h5, h6, h7, hb2, hb11, hb6, hzT, hlt, hw, hw2, hw3, hS, show (i + 1) * 8 ≤ 140737488355328 by omega, show i ≤ 9223372036854775806 by omega])
      | (with_reducible refine WP.ret ?_; simp [h2, h5, h6, h7, hb2, hb11, hb6, hzT, hlt, hw, hw2, hw3, hS, show (i + 1) * 8 ≤ 140737488355328 by omega, show i ≤ 9223372036854775806 by omega]))
    all_goals (rw [← hs]; clear hs hj hb2 hb11 hb6 h2 h5 h6 h7 hP hN hw2 hw3 hw hS; simp_all [cNext, cVal])
  · skip
    repeat' (first
      | with_reducible refine WP.seq ?_
      | (with_reducible refine WP.region (hn := []) ?_; simp [hP, hN, h2, h5, h6, h7, hb2, hb11, hb6, hzT, hlt])
      | (with_reducible refine WP.draw (hn := []) (by rw [hP]; kernel_rfl) (by kernel_rfl) ?_; simp [hP, hN, h2, h5, h6, h7, hb2, hb11, hb6, hzT, hlt]; (try refine ⟨by kernel_rfl, ?_⟩))
      | (with_reducible refine xB_split (by simp [h2, h5, h6, h7, hb2, hb11, hb6, hzT, hlt]) (fun hgd => ?_) (fun hgd => ?_) <;> first | (exfalso; simp at hgd; done) | (exfalso; simp at hgd; omega) | simp [hP, hN, h2, h5, h6, h7, hb2, hb11, hb6, hzT, hlt])
      | (with_reducible refine yB_split (by simp [h2, h5, h6, h7, hb2, hb11, hb6, hzT, hlt]) (fun hgd => ?_) (fun hgd => ?_) <;> first | (exfalso; simp at hgd; done) | (exfalso; simp at hgd; omega) | (simp [hP, hN, h2, h5, h6, h7, hb2, hb11, hb6, hzT, hlt] <;> (try refine ⟨by kernel_rfl, ?_⟩)))
      | with_reducible refine xTwo_intro ?_ ?_
      | (with_reducible refine WP.cond' ?_; simp [hP, hN, h2, h5, h6, h7, hb2, hb11, hb6, hzT, hlt])
      | (with_reducible refine xCond_split (fun hcd => ?_) (fun hcd => ?_) <;> (try (exfalso; clear hP hN; simp_all; done)) <;> (try (exfalso; simp at *; omega)))
      | with_reducible refine WP.block ?_
      | (with_reducible refine WP.skip ?_; simp [h2, h5, h6, h7, hb2, hb11, hb6, hzT, hlt])
      | (with_reducible refine WP.exit ?_; simp [h2, h5, h6, h7, hb2, hb11, hb6, hzT, hlt])
      | (with_reducible refine WP.ret ?_; simp [h2, h5, h6, h7, hb2, hb11, hb6, hzT, hlt]))
    exact take_done (by simp [cfgL]) hlt
theorem joint_ok (l : List Int) (n i : Nat) : jOk (jointF l n i) ∧ (jointF l n i).lo ≤ 0 ∧ 0 ≤ (jointF l n i).hi := by
  have h1 := nx_range l (jN5 l n i) (k := 3) (by decide) (by decide)
  have h2 := nx_range l (jN5 l n i) (k := 5) (by decide) (by decide)
  have h3 := nx_range l (nn l (jN5 l n i)) (k := 4) (by decide) (by decide)
  have h4 := nx_range l (nn l (nn l (jN5 l n i))) (k := 3) (by decide) (by decide)
  have hlo : -1000000 ≤ jLo l n i ∧ jLo l n i ≤ 0 := by
    unfold jLo
    generalize nx l (jN5 l n i) 3 = a at *
    generalize nx l (jN5 l n i) 5 = b at *
    split
    · omega
    · split
      · simp only [wr, IntKind.wrap_i64]; omega
      · have : b = 0 ∨ b = 1 ∨ b = 2 ∨ b = 3 ∨ b = 4 := by omega
        rcases this with rfl | rfl | rfl | rfl | rfl <;> decide
  have hhi : 0 ≤ jHi l n i ∧ jHi l n i ≤ 1000000 := by
    unfold jHi
    generalize nx l (nn l (jN5 l n i)) 4 = a at *
    generalize nx l (nn l (nn l (jN5 l n i))) 3 = b at *
    split
    · omega
    · split
      · simp only [wr, IntKind.wrap_i64]; omega
      · have ha : ∀ c : Int, 0 ≤ c → c < 4 → 0 ≤ wr ((wr (wr (1 + c) * 65536)).tdiv 8) ∧ wr ((wr (wr (1 + c) * 65536)).tdiv 8) ≤ 32768 := by
          intro c h0 h4
          have : c = 0 ∨ c = 1 ∨ c = 2 ∨ c = 3 := by omega
          rcases this with rfl | rfl | rfl | rfl <;> decide
        have := ha a h3.1 h3.2
        rw [wr_id (n := wr ((wr (wr (1 + a) * 65536)).tdiv 8) + b) (by omega) (by omega)]; omega
  simp only [jOk, jointF]; omega
theorem rJs_ok (l : List Int) (n : Nat) : ∀ j ∈ rJs l n, jOk j := by
  intro j hj
  simp only [rJs, jsF, List.mem_map] at hj
  obtain ⟨i, _, rfl⟩ := hj
  exact (joint_ok l _ i).1
theorem rJs_len (l : List Int) (n : Nat) : (rJs l n).length ≤ 3 ∧ 0 < (rJs l n).length := by
  have hx := nx_range l n (k := 3) (by decide) (by decide)
  rw [rJs, jsF_len, rN]; omega
theorem round_range (x : Int) {k : Int} (hk : 0 < k) (hk' : k < 4611686018427387904) : 0 ≤ roundI x k ∧ roundI x k < k := by
  have := nx_range [x] 0 hk hk'
  simpa [nx] using this
def motD (depth : Int) : Int := roundI depth 20
def motI (depth index : Int) : Int := roundI index (2 ^ (motD depth).toNat)
theorem d13 (l m n : List Int) (depth index : Int) : DetH Try.prog 13 [.pv (zs l), .pv (zs m), .pv (zs n), .pv (Z depth), .pv (Z index)] [] [] (.pv (.tup [zs (cfgL m (rJs l 0)), zs (cfgL n (rJs l 0)), Z (motD depth), Z (motI depth index)])) := by
  have hr := round_range depth (k := 20) (by decide) (by decide)
  have hlen := rJs_len l 0
  have hok := rJs_ok l 0
  have hu : IntKind.u64.wrap (roundI depth 20) = roundI depth 20 := by rw [IntKind.wrap_u64]; omega
  have hne : (2 : Int) ^ (roundI depth 20).toNat ≠ 0 := by have := Int.pow_pos (n := (2 : Int)) (m := (roundI depth 20).toNat) (by decide); omega
  have hd' : roundI depth 20 < 64 := by omega
  refine detP_of Try.func13 rfl (by kernel_rfl) (by simp [Try.f13]) rfl ?_
  intro C hP hN
  simp only [Try.f13] at hN ⊢
  repeat' (first
    | with_reducible refine WP.seq ?_
    | (with_reducible refine WP.region (hn := []) ?_; simp [hP, hN, hu, hr.1, bits64, min64 hd', wr_shl hr.1 (by omega)])
    | (with_reducible refine WP.draw (hn := []) (by rw [hP]; kernel_rfl) (by kernel_rfl) ?_; simp [hP, hN, hu, hr.1, bits64, min64 hd', wr_shl hr.1 (by omega)]; (try refine ⟨by kernel_rfl, ?_⟩))
    | (with_reducible refine xB_split (by simp [hu, hr.1, bits64, min64 hd', wr_shl hr.1 (by omega)]) (fun hgd => ?_) (fun hgd => ?_) <;> first | (exfalso; simp at hgd; done) | (exfalso; simp at hgd; omega) | simp [hP, hN, hu, hr.1, bits64, min64 hd', wr_shl hr.1 (by omega)])
    | (with_reducible refine yB_split (by simp [hu, hr.1, bits64, min64 hd', wr_shl hr.1 (by omega)]) (fun hgd => ?_) (fun hgd => ?_) <;> first | (exfalso; simp at hgd; done) | (exfalso; simp at hgd; omega) | (simp [hP, hN, hu, hr.1, bits64, min64 hd', wr_shl hr.1 (by omega)] <;> (try refine ⟨by kernel_rfl, ?_⟩)))
    | (with_reducible refine xC_intro (d21 _) ?_; simp [hP, hN, hu, hr.1, bits64, min64 hd', wr_shl hr.1 (by omega)])
    | (with_reducible refine yC_intro (d21 _) ?_; simp [hP, hN, hu, hr.1, bits64, min64 hd', wr_shl hr.1 (by omega)]; (try refine ⟨by kernel_rfl, ?_⟩))
    | (with_reducible refine xC_intro (d15 _ _ (by decide)) ?_; simp [hP, hN, hu, hr.1, bits64, min64 hd', wr_shl hr.1 (by omega)])
    | (with_reducible refine yC_intro (d15 _ _ (by decide)) ?_; simp [hP, hN, hu, hr.1, bits64, min64 hd', wr_shl hr.1 (by omega)]; (try refine ⟨by kernel_rfl, ?_⟩))
    | (with_reducible refine xC_intro (d15 _ _ hne) ?_; simp [hP, hN, hu, hr.1, bits64, min64 hd', wr_shl hr.1 (by omega)])
    | (with_reducible refine yC_intro (d15 _ _ hne) ?_; simp [hP, hN, hu, hr.1, bits64, min64 hd', wr_shl hr.1 (by omega)]; (try refine ⟨by kernel_rfl, ?_⟩))
    | (with_reducible refine xC_intro (d22 _ _ _ (by omega) hok) ?_; simp [hP, hN, hu, hr.1, bits64, min64 hd', wr_shl hr.1 (by omega)])
    | (with_reducible refine yC_intro (d22 _ _ _ (by omega) hok) ?_; simp [hP, hN, hu, hr.1, bits64, min64 hd', wr_shl hr.1 (by omega)]; (try refine ⟨by kernel_rfl, ?_⟩))
    | with_reducible refine xTwo_intro ?_ ?_
    | (with_reducible refine WP.cond' ?_; simp [hP, hN, hu, hr.1, bits64, min64 hd', wr_shl hr.1 (by omega)])
    | (with_reducible refine xCond_split (fun hcd => ?_) (fun hcd => ?_) <;> (try (exfalso; clear hP hN; simp_all; done)) <;> (try (exfalso; simp at *; omega)))
    | with_reducible refine WP.block ?_
    | (with_reducible refine WP.skip ?_; simp [hu, hr.1, bits64, min64 hd', wr_shl hr.1 (by omega)])
    | (with_reducible refine WP.exit ?_; simp [hu, hr.1, bits64, min64 hd', wr_shl hr.1 (by omega)])
    | (with_reducible refine WP.ret ?_; simp [hu, hr.1, bits64, min64 hd', wr_shl hr.1 (by omega)]))
  all_goals simp [motD, motI]
end Go.Ab
