/- Contracts: robots. -/
import Derived.Test.YtgamhginhckcpaaCf8
set_option linter.all false
namespace Go.Ab
open Go.Proofs
structure Ms where
  link : Int
  mass : Int
  px : Int
  py : Int
  pz : Int
abbrev encM (m : Ms) : PV := .val (.agg #[.int .i64 m.link, .int .i64 m.mass, .int .i64 m.px, .int .i64 m.py, .int .i64 m.pz])
def jSt (l : List Int) (m : Nat) : Nat → Nat
  | 0 => m
  | i + 1 => jEnd l (jSt l m i) i
theorem jN5_le (l : List Int) (n i : Nat) : jN5 l n i ≤ n + 6 := by
  have l1 := nn_le l n
  have l2 := nn_le l (nn l n)
  have l3 := nn_le l (nn l (nn l n))
  have l4 := nn_le l (nn l (nn l (nn l n)))
  have l5 := nn_le l (nn l (nn l (nn l (nn l n))))
  have l6 := nn_le l (nn l (nn l (nn l (nn l (nn l n)))))
  unfold jN5 jN4; split <;> omega
theorem jEnd_le (l : List Int) (n i : Nat) : jEnd l n i ≤ n + 9 := by
  have h := jN5_le l n i
  have l1 := nn_le l (jN5 l n i)
  have l2 := nn_le l (nn l (jN5 l n i))
  have l3 := nn_le l (nn l (nn l (jN5 l n i)))
  unfold jEnd; split
  · omega
  · split <;> omega
theorem jSt_le (l : List Int) (m i : Nat) : jSt l m i ≤ m + 9 * i := by
  induction i with
  | zero => simp [jSt]
  | succ i ih => have := jEnd_le l (jSt l m i) i; simp only [jSt]; omega
def jsF (l : List Int) (m k : Nat) : List J := (List.range k).map fun i => jointF l (jSt l m i) i
theorem jsF_succ (l : List Int) (m k : Nat) : (jsF l m (k + 1)).map encJ = (jsF l m k).map encJ ++ [encJ (jointF l (jSt l m k) k)] := by simp [jsF, List.range_succ]
theorem jsF_len (l : List Int) (m k : Nat) : (jsF l m k).length = k := by simp [jsF]
def mSt (l : List Int) (m : Nat) : Nat → Nat
  | 0 => m
  | i + 1 => nn l (nn l (nn l (nn l (mSt l m i))))
theorem mSt_le (l : List Int) (m i : Nat) : mSt l m i ≤ m + 4 * i := by
  induction i with
  | zero => simp [mSt]
  | succ i ih =>
    have l1 := nn_le l (mSt l m i)
    have l2 := nn_le l (nn l (mSt l m i))
    have l3 := nn_le l (nn l (nn l (mSt l m i)))
    have l4 := nn_le l (nn l (nn l (nn l (mSt l m i))))
    simp only [mSt]; omega
def massF (l : List Int) (m : Nat) (n : Int) : Ms where
  link := nx l m n
  mass := wr (1 + nx l (nn l m) 9000)
  px := wr (wr (nx l (nn l (nn l m)) 7 - 3) * 32768)
  py := 0
  pz := wr (wr (nx l (nn l (nn l (nn l m))) 5 - 2) * 32768)
def msF (l : List Int) (m : Nat) (n : Int) (k : Nat) : List Ms := (List.range k).map fun i => massF l (mSt l m i) n
theorem msF_succ (l : List Int) (m : Nat) (n : Int) (k : Nat) : (msF l m n (k + 1)).map encM = (msF l m n k).map encM ++ [encM (massF l (mSt l m k) n)] := by simp [msF, List.range_succ]
theorem msF_len (l : List Int) (m : Nat) (n : Int) (k : Nat) : (msF l m n k).length = k := by simp [msF]
abbrev nilV : AV := .pv (.val (.slice none 0 0))
def rN (l : List Int) (n : Nat) : Nat := (1 + nx l n 3).toNat
def rM (l : List Int) (n : Nat) : Nat := jSt l (nn l n) (rN l n)
def rK (l : List Int) (n : Nat) : Nat := (nx l (rM l n) 3).toNat
def rJs (l : List Int) (n : Nat) : List J := jsF l (nn l n) (rN l n)
def rMs (l : List Int) (n : Nat) : List Ms := msF l (nn l (rM l n)) (rN l n) (rK l n)
def rEnd (l : List Int) (n : Nat) : Nat := mSt l (nn l (rM l n)) (rK l n)
set_option maxHeartbeats 4000000 in
theorem d48 (l : List Int) (n : Nat) (hn : n < 100000) : DetH Try.prog 48 [.bx 0] [srcP l n] [srcP l (rEnd l n)] (.pv (.agg [.sl ((rJs l n).map encJ), .sl ((rMs l n).map encM)])) := by
  have hx := nx_range l n (k := 3) (by decide) (by decide)
  have hw1 : IntKind.i64.wrap (1 + nx l n 3) = ((rN l n : Nat) : Int) := by rw [IntKind.wrap_i64, rN]; omega
  have hrN : rN l n ≤ 3 ∧ 0 < rN l n := by unfold rN; omega
  have hl1 := nn_le l n
  refine detH_of Try.func48 rfl (by kernel_rfl) (by simp [Try.f48]) rfl (by intro i j h; rcases i with _ | _ | _ | i <;> simp_all) ?_
  intro C hP hN
  simp only [Try.f48] at hN ⊢
  repeat' (first
    | with_reducible refine WP.seq ?_
    | (with_reducible refine WP.region (hn := []) ?_; simp [hP, hN, srcP, hw1])
    | (with_reducible refine WP.draw (hn := []) (by rw [hP]; kernel_rfl) (by kernel_rfl) ?_; simp [hP, hN, srcP, hw1]; (try refine ⟨by kernel_rfl, ?_⟩))
    | (with_reducible refine xB_split (by simp [srcP, hw1]) (fun hgd => ?_) (fun hgd => ?_) <;> first | (exfalso; simp at hgd; done) | (exfalso; simp at hgd; omega) | simp [hP, hN, srcP, hw1])
    | (with_reducible refine yB_split (by simp [srcP, hw1]) (fun hgd => ?_) (fun hgd => ?_) <;> first | (exfalso; simp at hgd; done) | (exfalso; simp at hgd; omega) | (simp [hP, hN, srcP, hw1] <;> (try refine ⟨by kernel_rfl, ?_⟩)))
    | (with_reducible refine xC_intro (d50 l n 3 (by decide) (by omega)) ?_; simp [hP, hN, srcP, hw1])
    | (with_reducible refine yC_intro (d50 l n 3 (by decide) (by omega)) ?_; simp [hP, hN, srcP, hw1]; (try refine ⟨by kernel_rfl, ?_⟩))
    | with_reducible refine xTwo_intro ?_ ?_
    | (with_reducible refine WP.cond' ?_; simp [hP, hN, srcP, hw1])
    | (with_reducible refine xCond_split (fun hcd => ?_) (fun hcd => ?_) <;> (try (exfalso; clear hP hN; simp_all; done)) <;> (try (exfalso; simp at *; omega)))
    | with_reducible refine WP.block ?_
    | (with_reducible refine WP.skip ?_; simp [srcP, hw1])
    | (with_reducible refine WP.exit ?_; simp [srcP, hw1])
    | (with_reducible refine WP.ret ?_; simp [srcP, hw1]))
  refine WP.loopN [20] (rN l n) (fun i st => st.t 0 = .ptr (pk 0) 0 ∧ st.t 2 = .ptr 2 0 ∧ st.t 3 = .ptr 3 0 ∧ st.t 4 = .pv (Z (rN l n)) ∧ st.t 5 = .pv (Z i) ∧
    st.h (pk 0) = some (.box [.pv (zs l), .pv (Z (jSt l (nn l n) i))] false false) ∧ st.h 2 = some (.box [nilV, nilV] true false) ∧ st.h 20 = none ∧ st.h 45 = none ∧ st.h 46 = none ∧
    ((i = 0 ∧ st.h 3 = some (.box [nilV, nilV] true false) ∧ st.h 21 = none) ∨ (0 < i ∧ st.h 3 = some (.box [.arr 21 i, nilV] true false) ∧ st.h 21 = some (.row 79 12 ((jsF l (nn l n) i).map encJ) 0)))) (by simp [jSt]) ?_
  rintro i st hi ⟨h0, h2, h3, h4, h5, hp, hb2, hb20, hb45, hb46, hor⟩
  by_cases hlt : i < rN l n
  · have hw : IntKind.i64.wrap ((i : Int) + 1) = (i : Int) + 1 := by rw [IntKind.wrap_i64]; omega
    have hm := jSt_le l (nn l n) i
    have hJ := jsF_succ l (nn l n) i
    have hS : jSt l (nn l n) (i + 1) = jEnd l (jSt l (nn l n) i) i := rfl
    rcases hor with ⟨hi0, hb3, hb21⟩ | ⟨hi0, hb3, hb21⟩
    · subst hi0
      repeat' (first
        | with_reducible refine WP.seq ?_
        | (with_reducible refine WP.region (hn := []) ?_; simp [hP, hN, h0, h2, h3, h4, h5, hp, hb2, hb20, hb45, hb46, hb3, hb21, hlt, hw, hS])
        | (with_reducible refine WP.draw (hn := []) (by rw [hP]; kernel_rfl) (by kernel_rfl) ?_; simp [hP, hN, h0, h2, h3, h4, h5, hp, hb2, hb20, hb45, hb46, hb3, hb21, hlt, hw, hS]; (try refine ⟨by kernel_rfl, ?_⟩))
        | (with_reducible refine xB_split (by simp [h0, h2, h3, h4, h5, hp, hb2, hb20, hb45, hb46, hb3, hb21, hlt, hw, hS]) (fun hgd => ?_) (fun hgd => ?_) <;> first | (exfalso; simp at hgd; done) | (exfalso; simp at hgd; omega) | simp [hP, hN, h0, h2, h3, h4, h5, hp, hb2, hb20, hb45, hb46, hb3, hb21, hlt, hw, hS])
        | (with_reducible refine yB_split (by simp [h0, h2, h3, h4, h5, hp, hb2, hb20, hb45, hb46, hb3, hb21, hlt, hw, hS]) (fun hgd => ?_) (fun hgd => ?_) <;> first | (exfalso; simp at hgd; done) | (exfalso; simp at hgd; omega) | (simp [hP, hN, h0, h2, h3, h4, h5, hp, hb2, hb20, hb45, hb46, hb3, hb21, hlt, hw, hS] <;> (try refine ⟨by kernel_rfl, ?_⟩)))
        | (with_reducible refine xC_intro (d88 l _ 0 (by omega) (by omega)) ?_; simp [hP, hN, h0, h2, h3, h4, h5, hp, hb2, hb20, hb45, hb46, hb3, hb21, hlt, hw, hS])
        | (with_reducible refine yC_intro (d88 l _ 0 (by omega) (by omega)) ?_; simp [hP, hN, h0, h2, h3, h4, h5, hp, hb2, hb20, hb45, hb46, hb3, hb21, hlt, hw, hS]; (try refine ⟨by kernel_rfl, ?_⟩))
        | with_reducible refine xTwo_intro ?_ ?_
        | (with_reducible refine WP.cond' ?_; simp [hP, hN, h0, h2, h3, h4, h5, hp, hb2, hb20, hb45, hb46, hb3, hb21, hlt, hw, hS])
        | (with_reducible refine xCond_split (fun hcd => ?_) (fun hcd => ?_) <;> (try (exfalso; clear hP hN; simp_all; done)) <;> (try (exfalso; simp at *; omega)))
        | with_reducible refine WP.block ?_
        | (with_reducible refine WP.skip ?_; simp [h0, h2, h3, h4, h5, hp, hb2, hb20, hb45, hb46, hb3, hb21, hlt, hw, hS])
        | (with_reducible refine WP.exit ?_; simp [h0, h2, h3, h4, h5, hp, hb2, hb20, hb45, hb46, hb3, hb21, hlt, hw, hS])
        | (with_reducible refine WP.ret ?_; simp [h0, h2, h3, h4, h5, hp, hb2, hb20, hb45, hb46, hb3, hb21, hlt, hw, hS]))
      exact ⟨by decide, by simp [jsF]⟩
    · have hz := jsF_len l (nn l n) i
      repeat' (first
        | with_reducible refine WP.seq ?_
        | (with_reducible refine WP.region (hn := []) ?_; simp [hP, hN, h0, h2, h3, h4, h5, hp, hb2, hb20, hb45, hb46, hb3, hb21, hlt, hw, hS, hz, show (i + 1) * 104 ≤ 140737488355328 by omega, show i ≤ 9223372036854775806 by omega])
        | (with_reducible refine WP.draw (hn := []) (by rw [hP]; kernel_rfl) (by kernel_rfl) ?_; simp [hP, hN, h0, h2, h3, h4, h5, hp, hb2, hb20, hb45, hb46, hb3, hb21, hlt, hw, hS, hz, show (i + 1) * 104 ≤ 140737488355328 by omega, show i ≤ 9223372036854775806 by omega]; (try refine ⟨by kernel_rfl, ?_⟩))
        | (with_reducible refine xB_split (by simp [h0, h2, h3, h4, h5, hp, hb2, hb20, hb45, hb46, hb3, hb21, hlt, hw, hS, hz, show (i + 1) * 104 ≤ 140737488355328 by omega, show i ≤ 9223372036854775806 by omega]) (fun hgd => ?_) (fun hgd => ?_) <;> first | (exfalso; simp at hgd; done) | (exfalso; simp at hgd; omega) | simp [hP, hN, h0, h2, h3, h4, h5, hp, hb2, hb20, hb45, hb46, hb3, hb21, hlt, hw, hS, hz, show (i + 1) * 104 ≤ 140737488355328 by omega, show i ≤ 9223372036854775806 by omega])
        | (with_reducible refine yB_split (by simp [h0, h2, h3, h4, h5, hp, hb2, hb20, hb45, hb46, hb3, hb21, hlt, hw, hS, hz, show (i + 1) * 104 ≤ 140737488355328 by omega, show i ≤ 9223372036854775806 by omega]) (fun hgd => ?_) (fun hgd => ?_) <;> first | (exfalso; simp at hgd; done) | (exfalso; simp at hgd; omega) | (simp [hP, hN, h0, h2, h3, h4, h5, hp, hb2, hb20, hb45, hb46, hb3, hb21, hlt, hw, hS, hz, show (i + 1) * 104 ≤ 140737488355328 by omega, show i ≤ 9223372036854775806 by omega] <;> (try refine ⟨by kernel_rfl, ?_⟩)))
        | (with_reducible refine xC_intro (d88 l _ i (by omega) (by omega)) ?_; simp [hP, hN, h0, h2, h3, h4, h5, hp, hb2, hb20, hb45, hb46, hb3, hb21, hlt, hw, hS, hz, show (i + 1) * 104 ≤ 140737488355328 by omega, show i ≤ 9223372036854775806 by omega])
        | (with_reducible refine yC_intro (d88 l _ i (by omega) (by omega)) ?_; simp [hP, hN, h0, h2, h3, h4, h5, hp, hb2, hb20, hb45, hb46, hb3, hb21, hlt, hw, hS, hz, show (i + 1) * 104 ≤ 140737488355328 by omega, show i ≤ 9223372036854775806 by omega]; (try refine ⟨by kernel_rfl, ?_⟩))
        | with_reducible refine xTwo_intro ?_ ?_
        | (with_reducible refine WP.cond' ?_; simp [hP, hN, h0, h2, h3, h4, h5, hp, hb2, hb20, hb45, hb46, hb3, hb21, hlt, hw, hS, hz, show (i + 1) * 104 ≤ 140737488355328 by omega, show i ≤ 9223372036854775806 by omega])
        | (with_reducible refine xCond_split (fun hcd => ?_) (fun hcd => ?_) <;> (try (exfalso; clear hP hN; simp_all; done)) <;> (try (exfalso; simp at *; omega)))
        | with_reducible refine WP.block ?_
        | (with_reducible refine WP.skip ?_; simp [h0, h2, h3, h4, h5, hp, hb2, hb20, hb45, hb46, hb3, hb21, hlt, hw, hS, hz, show (i + 1) * 104 ≤ 140737488355328 by omega, show i ≤ 9223372036854775806 by omega])
        | (with_reducible refine WP.exit ?_; simp [h0, h2, h3, h4, h5, hp, hb2, hb20, hb45, hb46, hb3, hb21, hlt, hw, hS, hz, show (i + 1) * 104 ≤ 140737488355328 by omega, show i ≤ 9223372036854775806 by omega])
        | (with_reducible refine WP.ret ?_; simp [h0, h2, h3, h4, h5, hp, hb2, hb20, hb45, hb46, hb3, hb21, hlt, hw, hS, hz, show (i + 1) * 104 ≤ 140737488355328 by omega, show i ≤ 9223372036854775806 by omega]))
      simp [hJ]
  · have hir : i = rN l n := by omega
    rcases hor with ⟨hi0, _⟩ | ⟨hi0, hb3, hb21⟩
    · omega
    subst hir
    have hm := jSt_le l (nn l n) (rN l n)
    have hx3 := nx_range l (rM l n) (k := 3) (by decide) (by decide)
    have hk : nx l (jSt l (nn l n) (rN l n)) 3 = ((rK l n : Nat) : Int) := by show nx l (rM l n) 3 = _; unfold rK; omega
    have hk3 : rK l n < 3 := by unfold rK; omega
    have hz := jsF_len l (nn l n) (rN l n)
    have hl2 := nn_le l (rM l n)
    have hmr : rM l n ≤ nn l n + 9 * rN l n := hm
    repeat' (first
      | with_reducible refine WP.seq ?_
      | (with_reducible refine WP.region (hn := []) ?_; simp [hP, hN, h0, h2, h3, h4, h5, hp, hb2, hb20, hb45, hb46, hb3, hb21, hlt, hk])
      | (with_reducible refine WP.draw (hn := []) (by rw [hP]; kernel_rfl) (by kernel_rfl) ?_; simp [hP, hN, h0, h2, h3, h4, h5, hp, hb2, hb20, hb45, hb46, hb3, hb21, hlt, hk]; (try refine ⟨by kernel_rfl, ?_⟩))
      | (with_reducible refine xB_split (by simp [h0, h2, h3, h4, h5, hp, hb2, hb20, hb45, hb46, hb3, hb21, hlt, hk]) (fun hgd => ?_) (fun hgd => ?_) <;> first | (exfalso; simp at hgd; done) | (exfalso; simp at hgd; omega) | simp [hP, hN, h0, h2, h3, h4, h5, hp, hb2, hb20, hb45, hb46, hb3, hb21, hlt, hk])
      | (with_reducible refine yB_split (by simp [h0, h2, h3, h4, h5, hp, hb2, hb20, hb45, hb46, hb3, hb21, hlt, hk]) (fun hgd => ?_) (fun hgd => ?_) <;> first | (exfalso; simp at hgd; done) | (exfalso; simp at hgd; omega) | (simp [hP, hN, h0, h2, h3, h4, h5, hp, hb2, hb20, hb45, hb46, hb3, hb21, hlt, hk] <;> (try refine ⟨by kernel_rfl, ?_⟩)))
      | (with_reducible refine xC_intro (d50 l _ 3 (by decide) (by omega)) ?_; simp [hP, hN, h0, h2, h3, h4, h5, hp, hb2, hb20, hb45, hb46, hb3, hb21, hlt, hk])
      | (with_reducible refine yC_intro (d50 l _ 3 (by decide) (by omega)) ?_; simp [hP, hN, h0, h2, h3, h4, h5, hp, hb2, hb20, hb45, hb46, hb3, hb21, hlt, hk]; (try refine ⟨by kernel_rfl, ?_⟩))
      | with_reducible refine xTwo_intro ?_ ?_
      | (with_reducible refine WP.cond' ?_; simp [hP, hN, h0, h2, h3, h4, h5, hp, hb2, hb20, hb45, hb46, hb3, hb21, hlt, hk])
      | (with_reducible refine xCond_split (fun hcd => ?_) (fun hcd => ?_) <;> (try (exfalso; clear hP hN; simp_all; done)) <;> (try (exfalso; simp at *; omega)))
      | with_reducible refine WP.block ?_
      | (with_reducible refine WP.skip ?_; simp [h0, h2, h3, h4, h5, hp, hb2, hb20, hb45, hb46, hb3, hb21, hlt, hk])
      | (with_reducible refine WP.exit ?_; simp [h0, h2, h3, h4, h5, hp, hb2, hb20, hb45, hb46, hb3, hb21, hlt, hk])
      | (with_reducible refine WP.ret ?_; simp [h0, h2, h3, h4, h5, hp, hb2, hb20, hb45, hb46, hb3, hb21, hlt, hk]))
    refine WP.loopN [] (rK l n) (fun i st => st.t 0 = .ptr (pk 0) 0 ∧ st.t 2 = .ptr 2 0 ∧ st.t 3 = .ptr 3 0 ∧ st.t 4 = .pv (Z (rN l n)) ∧ st.t 6 = .pv (Z ((rK l n : Int) - i)) ∧
      st.h (pk 0) = some (.box [.pv (zs l), .pv (Z (mSt l (nn l (rM l n)) i))] false false) ∧ st.h 2 = some (.box [nilV, nilV] true false) ∧ st.h 45 = none ∧ st.h 21 = some (.row 79 12 ((rJs l n).map encJ) 0) ∧
      ((i = 0 ∧ st.h 3 = some (.box [.arr 21 (rN l n), nilV] true false) ∧ st.h 46 = none) ∨ (0 < i ∧ st.h 3 = some (.box [.arr 21 (rN l n), .arr 46 i] true false) ∧ st.h 46 = some (.row 104 5 ((msF l (nn l (rM l n)) (rN l n) i).map encM) 0)))) (by simp [h0, h2, h3, h4, hb2, hb45, hb46, hb3, hb21, mSt, rM, rJs]) ?_
    clear hb2 hb20 hb45 hb46 hb3 hb21 hp h0 h2 h3 h4 h5
    rintro i st hi ⟨h0, h2, h3, h4, h6, hp, hb2, hb45, hb21, hor⟩
    by_cases hlt : i < rK l n
    · have hw : IntKind.i64.wrap ((rK l n : Int) - i - 1) = (rK l n : Int) - ((i : Int) + 1) := by rw [IntKind.wrap_i64]; omega
      have hgt : (0 : Int) < (rK l n : Int) - i := by omega
      have hm2 := mSt_le l (nn l (rM l n)) i
      have l1 := nn_le l (mSt l (nn l (rM l n)) i)
      have l2 := nn_le l (nn l (mSt l (nn l (rM l n)) i))
      have l3 := nn_le l (nn l (nn l (mSt l (nn l (rM l n)) i)))
      have hJ := msF_succ l (nn l (rM l n)) (rN l n) i
      have hS : mSt l (nn l (rM l n)) (i + 1) = nn l (nn l (nn l (nn l (mSt l (nn l (rM l n)) i)))) := rfl
      have hne : ((rN l n : Nat) : Int) ≠ 0 := by omega
      rcases hor with ⟨hi0, hb3, hb46⟩ | ⟨hi0, hb3, hb46⟩
      · subst hi0
        repeat' (first
          | with_reducible refine WP.seq ?_
          | (with_reducible refine WP.region (hn := []) ?_; simp [hP, hN, h0, h2, h3, h4, h6, hp, hb2, hb45, hb46, hb3, hb21, hlt, hw, hgt, hS])
          | (with_reducible refine WP.draw (hn := []) (by rw [hP]; kernel_rfl) (by kernel_rfl) ?_; simp [hP, hN, h0, h2, h3, h4, h6, hp, hb2, hb45, hb46, hb3, hb21, hlt, hw, hgt, hS]; (try refine ⟨by kernel_rfl, ?_⟩))
          | (with_reducible refine xB_split (by simp [h0, h2, h3, h4, h6, hp, hb2, hb45, hb46, hb3, hb21, hlt, hw, hgt, hS]) (fun hgd => ?_) (fun hgd => ?_) <;> first | (exfalso; simp at hgd; done) | (exfalso; simp at hgd; omega) | simp [hP, hN, h0, h2, h3, h4, h6, hp, hb2, hb45, hb46, hb3, hb21, hlt, hw, hgt, hS])
          | (with_reducible refine yB_split (by simp [h0, h2, h3, h4, h6, hp, hb2, hb45, hb46, hb3, hb21, hlt, hw, hgt, hS]) (fun hgd => ?_) (fun hgd => ?_) <;> first | (exfalso; simp at hgd; done) | (exfalso; simp at hgd; omega) | (simp [hP, hN, h0, h2, h3, h4, h6, hp, hb2, hb45, hb46, hb3, hb21, hlt, hw, hgt, hS] <;> (try refine ⟨by kernel_rfl, ?_⟩)))
          | (with_reducible refine xC_intro (d50 l _ _ hne (by omega)) ?_; simp [hP, hN, h0, h2, h3, h4, h6, hp, hb2, hb45, hb46, hb3, hb21, hlt, hw, hgt, hS])
          | (with_reducible refine yC_intro (d50 l _ _ hne (by omega)) ?_; simp [hP, hN, h0, h2, h3, h4, h6, hp, hb2, hb45, hb46, hb3, hb21, hlt, hw, hgt, hS]; (try refine ⟨by kernel_rfl, ?_⟩))
          | (with_reducible refine xC_intro (d50 l _ _ (by decide) (by omega)) ?_; simp [hP, hN, h0, h2, h3, h4, h6, hp, hb2, hb45, hb46, hb3, hb21, hlt, hw, hgt, hS])
          | (with_reducible refine yC_intro (d50 l _ _ (by decide) (by omega)) ?_; simp [hP, hN, h0, h2, h3, h4, h6, hp, hb2, hb45, hb46, hb3, hb21, hlt, hw, hgt, hS]; (try refine ⟨by kernel_rfl, ?_⟩))
          | (with_reducible refine xC_intro (d89 l _ _ (by decide) (by decide) (by omega)) ?_; simp [hP, hN, h0, h2, h3, h4, h6, hp, hb2, hb45, hb46, hb3, hb21, hlt, hw, hgt, hS])
          | (with_reducible refine yC_intro (d89 l _ _ (by decide) (by decide) (by omega)) ?_; simp [hP, hN, h0, h2, h3, h4, h6, hp, hb2, hb45, hb46, hb3, hb21, hlt, hw, hgt, hS]; (try refine ⟨by kernel_rfl, ?_⟩))
          | with_reducible refine xTwo_intro ?_ ?_
          | (with_reducible refine WP.cond' ?_; simp [hP, hN, h0, h2, h3, h4, h6, hp, hb2, hb45, hb46, hb3, hb21, hlt, hw, hgt, hS])
          | (with_reducible refine xCond_split (fun hcd => ?_) (fun hcd => ?_) <;> (try (exfalso; clear hP hN; simp_all; done)) <;> (try (exfalso; simp at *; omega)))
          | with_reducible refine WP.block ?_
          | (with_reducible refine WP.skip ?_; simp [h0, h2, h3, h4, h6, hp, hb2, hb45, hb46, hb3, hb21, hlt, hw, hgt, hS])
          | (with_reducible refine WP.exit ?_; simp [h0, h2, h3, h4, h6, hp, hb2, hb45, hb46, hb3, hb21, hlt, hw, hgt, hS])
          | (with_reducible refine WP.ret ?_; simp [h0, h2, h3, h4, h6, hp, hb2, hb45, hb46, hb3, hb21, hlt, hw, hgt, hS]))
        exact ⟨by rw [IntKind.wrap_i64]; omega, by simp [msF, massF, mSt]⟩
      · have hz := msF_len l (nn l (rM l n)) (rN l n) i
        repeat' (first
          | with_reducible refine WP.seq ?_
          | (with_reducible refine WP.region (hn := []) ?_; simp [hP, hN, h0, h2, h3, h4, h6, hp, hb2, hb45, hb46, hb3, hb21, hlt, hw, hgt, hS, hz, show (i + 1) * 40 ≤ 140737488355328 by omega, show i ≤ 9223372036854775806 by omega])
          | (with_reducible refine WP.draw (hn := []) (by rw [hP]; kernel_rfl) (by kernel_rfl) ?_; simp [hP, hN, h0, h2, h3, h4, h6, hp, hb2, hb45, hb46, hb3, hb21, hlt, hw, hgt, hS, hz, show (i + 1) * 40 ≤ 140737488355328 by omega, show i ≤ 9223372036854775806 by omega]; (try refine ⟨by kernel_rfl, ?_⟩))
          | (with_reducible refine xB_split (by simp [h0, h2, h3, h4, h6, hp, hb2, hb45, hb46, hb3, hb21, hlt, hw, hgt, hS, hz, show (i + 1) * 40 ≤ 140737488355328 by omega, show i ≤ 9223372036854775806 by omega]) (fun hgd => ?_) (fun hgd => ?_) <;> first | (exfalso; simp at hgd; done) | (exfalso; simp at hgd; omega) | simp [hP, hN, h0, h2, h3, h4, h6, hp, hb2, hb45, hb46, hb3, hb21, hlt, hw, hgt, hS, hz, show (i + 1) * 40 ≤ 140737488355328 by omega, show i ≤ 9223372036854775806 by omega])
          | (with_reducible refine yB_split (by simp [h0, h2, h3, h4, h6, hp, hb2, hb45, hb46, hb3, hb21, hlt, hw, hgt, hS, hz, show (i + 1) * 40 ≤ 140737488355328 by omega, show i ≤ 9223372036854775806 by omega]) (fun hgd => ?_) (fun hgd => ?_) <;> first | (exfalso; simp at hgd; done) | (exfalso; simp at hgd; omega) | (simp [hP, hN, h0, h2, h3, h4, h6, hp, hb2, hb45, hb46, hb3, hb21, hlt, hw, hgt, hS, hz, show (i + 1) * 40 ≤ 140737488355328 by omega, show i ≤ 9223372036854775806 by omega] <;> (try refine ⟨by kernel_rfl, ?_⟩)))
          | (with_reducible refine xC_intro (d50 l _ _ hne (by omega)) ?_; simp [hP, hN, h0, h2, h3, h4, h6, hp, hb2, hb45, hb46, hb3, hb21, hlt, hw, hgt, hS, hz, show (i + 1) * 40 ≤ 140737488355328 by omega, show i ≤ 9223372036854775806 by omega])
          | (with_reducible refine yC_intro (d50 l _ _ hne (by omega)) ?_; simp [hP, hN, h0, h2, h3, h4, h6, hp, hb2, hb45, hb46, hb3, hb21, hlt, hw, hgt, hS, hz, show (i + 1) * 40 ≤ 140737488355328 by omega, show i ≤ 9223372036854775806 by omega]; (try refine ⟨by kernel_rfl, ?_⟩))
          | (with_reducible refine xC_intro (d50 l _ _ (by decide) (by omega)) ?_; simp [hP, hN, h0, h2, h3, h4, h6, hp, hb2, hb45, hb46, hb3, hb21, hlt, hw, hgt, hS, hz, show (i + 1) * 40 ≤ 140737488355328 by omega, show i ≤ 9223372036854775806 by omega])
          | (with_reducible refine yC_intro (d50 l _ _ (by decide) (by omega)) ?_; simp [hP, hN, h0, h2, h3, h4, h6, hp, hb2, hb45, hb46, hb3, hb21, hlt, hw, hgt, hS, hz, show (i + 1) * 40 ≤ 140737488355328 by omega, show i ≤ 9223372036854775806 by omega]; (try refine ⟨by kernel_rfl, ?_⟩))
          | (with_reducible refine xC_intro (d89 l _ _ (by decide) (by decide) (by omega)) ?_; simp [hP, hN, h0, h2, h3, h4, h6, hp, hb2, hb45, hb46, hb3, hb21, hlt, hw, hgt, hS, hz, show (i + 1) * 40 ≤ 140737488355328 by omega, show i ≤ 9223372036854775806 by omega])
          | (with_reducible refine yC_intro (d89 l _ _ (by decide) (by decide) (by omega)) ?_; simp [hP, hN, h0, h2, h3, h4, h6, hp, hb2, hb45, hb46, hb3, hb21, hlt, hw, hgt, hS, hz, show (i + 1) * 40 ≤ 140737488355328 by omega, show i ≤ 9223372036854775806 by omega]; (try refine ⟨by kernel_rfl, ?_⟩))
          | with_reducible refine xTwo_intro ?_ ?_
          | (with_reducible refine WP.cond' ?_; simp [hP, hN, h0, h2, h3, h4, h6, hp, hb2, hb45, hb46, hb3, hb21, hlt, hw, hgt, hS, hz, show (i + 1) * 40 ≤ 140737488355328 by omega, show i ≤ 9223372036854775806 by omega])
          | (with_reducible refine xCond_split (fun hcd => ?_) (fun hcd => ?_) <;> (try (exfalso; clear hP hN; simp_all; done)) <;> (try (exfalso; simp at *; omega)))
          | with_reducible refine WP.block ?_
          | (with_reducible refine WP.skip ?_; simp [h0, h2, h3, h4, h6, hp, hb2, hb45, hb46, hb3, hb21, hlt, hw, hgt, hS, hz, show (i + 1) * 40 ≤ 140737488355328 by omega, show i ≤ 9223372036854775806 by omega])
          | (with_reducible refine WP.exit ?_; simp [h0, h2, h3, h4, h6, hp, hb2, hb45, hb46, hb3, hb21, hlt, hw, hgt, hS, hz, show (i + 1) * 40 ≤ 140737488355328 by omega, show i ≤ 9223372036854775806 by omega])
          | (with_reducible refine WP.ret ?_; simp [h0, h2, h3, h4, h6, hp, hb2, hb45, hb46, hb3, hb21, hlt, hw, hgt, hS, hz, show (i + 1) * 40 ≤ 140737488355328 by omega, show i ≤ 9223372036854775806 by omega]))
        simp [hJ, massF]
    · have hir : i = rK l n := by omega
      subst hir
      have hzJ : (rJs l n).length = rN l n := jsF_len l (nn l n) (rN l n)
      have hzM := msF_len l (nn l (rM l n)) (rN l n) (rK l n)
      rcases hor with ⟨hi0, hb3, hb46⟩ | ⟨hi0, hb3, hb46⟩
      · skip
        repeat' (first
          | with_reducible refine WP.seq ?_
          | (with_reducible refine WP.region (hn := []) ?_; simp [hP, hN, h0, h2, h3, h4, h6, hp, hb2, hb45, hb46, hb3, hb21, hi0, hzJ])
          | (with_reducible refine WP.draw (hn := []) (by rw [hP]; kernel_rfl) (by kernel_rfl) ?_; simp [hP, hN, h0, h2, h3, h4, h6, hp, hb2, hb45, hb46, hb3, hb21, hi0, hzJ]; (try refine ⟨by kernel_rfl, ?_⟩))
          | (with_reducible refine xB_split (by simp [h0, h2, h3, h4, h6, hp, hb2, hb45, hb46, hb3, hb21, hi0, hzJ]) (fun hgd => ?_) (fun hgd => ?_) <;> first | (exfalso; simp at hgd; done) | (exfalso; simp at hgd; omega) | simp [hP, hN, h0, h2, h3, h4, h6, hp, hb2, hb45, hb46, hb3, hb21, hi0, hzJ])
          | (with_reducible refine yB_split (by simp [h0, h2, h3, h4, h6, hp, hb2, hb45, hb46, hb3, hb21, hi0, hzJ]) (fun hgd => ?_) (fun hgd => ?_) <;> first | (exfalso; simp at hgd; done) | (exfalso; simp at hgd; omega) | (simp [hP, hN, h0, h2, h3, h4, h6, hp, hb2, hb45, hb46, hb3, hb21, hi0, hzJ] <;> (try refine ⟨by kernel_rfl, ?_⟩)))
          | with_reducible refine xTwo_intro ?_ ?_
          | (with_reducible refine WP.cond' ?_; simp [hP, hN, h0, h2, h3, h4, h6, hp, hb2, hb45, hb46, hb3, hb21, hi0, hzJ])
          | (with_reducible refine xCond_split (fun hcd => ?_) (fun hcd => ?_) <;> (try (exfalso; clear hP hN; simp_all; done)) <;> (try (exfalso; simp at *; omega)))
          | with_reducible refine WP.block ?_
          | (with_reducible refine WP.skip ?_; simp [h0, h2, h3, h4, h6, hp, hb2, hb45, hb46, hb3, hb21, hi0, hzJ])
          | (with_reducible refine WP.exit ?_; simp [h0, h2, h3, h4, h6, hp, hb2, hb45, hb46, hb3, hb21, hi0, hzJ])
          | (with_reducible refine WP.ret ?_; simp [h0, h2, h3, h4, h6, hp, hb2, hb45, hb46, hb3, hb21, hi0, hzJ]))
        all_goals simp [rEnd, rMs, hi0, msF]
      · skip
        repeat' (first
          | with_reducible refine WP.seq ?_
          | (with_reducible refine WP.region (hn := []) ?_; simp [hP, hN, h0, h2, h3, h4, h6, hp, hb2, hb45, hb46, hb3, hb21, hzJ, hzM])
          | (with_reducible refine WP.draw (hn := []) (by rw [hP]; kernel_rfl) (by kernel_rfl) ?_; simp [hP, hN, h0, h2, h3, h4, h6, hp, hb2, hb45, hb46, hb3, hb21, hzJ, hzM]; (try refine ⟨by kernel_rfl, ?_⟩))
          | (with_reducible refine xB_split (by simp [h0, h2, h3, h4, h6, hp, hb2, hb45, hb46, hb3, hb21, hzJ, hzM]) (fun hgd => ?_) (fun hgd => ?_) <;> first | (exfalso; simp at hgd; done) | (exfalso; simp at hgd; omega) | simp [hP, hN, h0, h2, h3, h4, h6, hp, hb2, hb45, hb46, hb3, hb21, hzJ, hzM])
          | (with_reducible refine yB_split (by simp [h0, h2, h3, h4, h6, hp, hb2, hb45, hb46, hb3, hb21, hzJ, hzM]) (fun hgd => ?_) (fun hgd => ?_) <;> first | (exfalso; simp at hgd; done) | (exfalso; simp at hgd; omega) | (simp [hP, hN, h0, h2, h3, h4, h6, hp, hb2, hb45, hb46, hb3, hb21, hzJ, hzM] <;> (try refine ⟨by kernel_rfl, ?_⟩)))
          | with_reducible refine xTwo_intro ?_ ?_
          | (with_reducible refine WP.cond' ?_; simp [hP, hN, h0, h2, h3, h4, h6, hp, hb2, hb45, hb46, hb3, hb21, hzJ, hzM])
          | (with_reducible refine xCond_split (fun hcd => ?_) (fun hcd => ?_) <;> (try (exfalso; clear hP hN; simp_all; done)) <;> (try (exfalso; simp at *; omega)))
          | with_reducible refine WP.block ?_
          | (with_reducible refine WP.skip ?_; simp [h0, h2, h3, h4, h6, hp, hb2, hb45, hb46, hb3, hb21, hzJ, hzM])
          | (with_reducible refine WP.exit ?_; simp [h0, h2, h3, h4, h6, hp, hb2, hb45, hb46, hb3, hb21, hzJ, hzM])
          | (with_reducible refine WP.ret ?_; simp [h0, h2, h3, h4, h6, hp, hb2, hb45, hb46, hb3, hb21, hzJ, hzM]))
        all_goals simp [rEnd, rMs]
abbrev encR (js : List J) (ms : List Ms) : PV := .agg [.sl (js.map encJ), .sl (ms.map encM)]
theorem d21 (l : List Int) : DetH Try.prog 21 [.pv (zs l)] [] [] (.pv (encR (rJs l 0) (rMs l 0))) := by
  refine detP_of Try.func21 rfl (by kernel_rfl) (by simp [Try.f21]) rfl ?_
  intro C hP hN
  simp only [Try.f21] at hN ⊢
  repeat' (first
    | with_reducible refine WP.seq ?_
    | (with_reducible refine WP.region (hn := []) ?_; simp [hP, hN, srcP])
    | (with_reducible refine WP.draw (hn := []) (by rw [hP]; kernel_rfl) (by kernel_rfl) ?_; simp [hP, hN, srcP]; (try refine ⟨by kernel_rfl, ?_⟩))
    | (with_reducible refine xB_split (by simp [srcP]) (fun hgd => ?_) (fun hgd => ?_) <;> first | (exfalso; simp at hgd; done) | (exfalso; simp at hgd; omega) | simp [hP, hN, srcP])
    | (with_reducible refine yB_split (by simp [srcP]) (fun hgd => ?_) (fun hgd => ?_) <;> first | (exfalso; simp at hgd; done) | (exfalso; simp at hgd; omega) | (simp [hP, hN, srcP] <;> (try refine ⟨by kernel_rfl, ?_⟩)))
    | (with_reducible refine xC_intro (d49 _) ?_; simp [hP, hN, srcP])
    | (with_reducible refine yC_intro (d49 _) ?_; simp [hP, hN, srcP]; (try refine ⟨by kernel_rfl, ?_⟩))
    | (with_reducible refine xC_intro (d48 l 0 (by decide)) ?_; simp [hP, hN, srcP])
    | (with_reducible refine yC_intro (d48 l 0 (by decide)) ?_; simp [hP, hN, srcP]; (try refine ⟨by kernel_rfl, ?_⟩))
    | with_reducible refine xTwo_intro ?_ ?_
    | (with_reducible refine WP.cond' ?_; simp [hP, hN, srcP])
    | (with_reducible refine xCond_split (fun hcd => ?_) (fun hcd => ?_) <;> (try (exfalso; clear hP hN; simp_all; done)) <;> (try (exfalso; simp at *; omega)))
    | with_reducible refine WP.block ?_
    | (with_reducible refine WP.skip ?_; simp [srcP])
    | (with_reducible refine WP.exit ?_; simp [srcP])
    | (with_reducible refine WP.ret ?_; simp [srcP]))
  all_goals (first | (simp_all; done) | ((try simp_all) <;> (try omega) <;> grind))
end Go.Ab
